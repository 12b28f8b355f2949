/- The plain laws that a law needs, with no program in sight. -/
import Derived.Test.YtckiejaapddafaaGreatDoorW22Un
set_option linter.unusedVariables false
set_option linter.unusedSimpArgs false
namespace Go.Sw
set_option maxRecDepth 4000
def openU(f:Fact):U_facts_open_rxk:=
 bif f.Kind==1 then .c0 ()else bif f.Kind==2 then .c1 ()else bif f.Kind==3 then .c2 ()else bif f.Kind==4 then .c3 ()else bif f.Kind==5 then .c4 ()else bif f.Kind==6 then .c5 ()
 else bif f.Kind==7 then .c6 ()else bif f.Kind==8 then .c7 ()else bif f.Kind==9 then .c8 ()else bif f.Kind==10 then
  (bif (f.Ruling.Kind==1)||(f.Ruling.Kind==2)then .c9 (0,0,0,0,0,0)else bif f.Ruling.Kind==3 then .c9 (1,9999,0,255,1,1099511627776)else bif f.Ruling.Kind==4 then .c9 (1,9999,0,255,1,64)else .c9 (1,9999,0,255,0,0))
 else bif f.Kind==11 then .c10 ()else bif f.Kind==12 then .c11 ()else bif f.Kind==13 then .c12 ()else .c13 ()
def headL:List Ent:=[⟨false,3,1,13⟩,⟨false,0,0,31⟩,⟨false,1,1,1048576⟩,⟨false,2,0,1099511627776⟩]
def bodyL:U_facts_open_rxk->List Ent
 |.c0 _=>[⟨false,4,1,9999⟩,⟨false,5,0,7⟩,⟨false,6,0,31⟩,⟨false,7,(-1099511627776),1099511627776⟩,⟨false,8,0,120⟩,⟨false,9,0,1048576⟩,⟨false,10,0,9999⟩,⟨false,11,0,1048576⟩]
 |.c1 _=>[⟨false,12,0,39⟩,⟨false,13,0,255⟩,⟨false,14,0,1048576⟩,⟨false,15,(-1099511627776),1099511627776⟩]
 |.c2 _=>[⟨false,16,0,39⟩,⟨false,17,0,255⟩,⟨false,18,(-1099511627776),1099511627776⟩,⟨false,19,(-1099511627776),1099511627776⟩,⟨false,20,0,1099511627776⟩]
 |.c3 _=>[⟨false,21,0,39⟩,⟨false,22,0,255⟩,⟨false,23,(-1099511627776),1099511627776⟩,⟨false,24,0,39⟩,⟨false,25,0,255⟩,⟨false,26,(-1099511627776),1099511627776⟩,⟨false,27,(-1099511627776),1099511627776⟩,⟨false,28,(-1099511627776),1099511627776⟩]
 |.c4 _=>[⟨false,29,1,9999⟩,⟨false,30,0,255⟩,⟨false,31,(-1099511627776),1099511627776⟩,⟨false,32,(-1099511627776),1099511627776⟩]
 |.c5 _=>[⟨false,33,0,39⟩,⟨false,34,0,255⟩,⟨false,35,(-1099511627776),1099511627776⟩,⟨false,36,(-1099511627776),1099511627776⟩]
 |.c6 _=>[⟨false,37,1,9999⟩,⟨false,38,1,9999⟩]
 |.c7 _=>[⟨false,39,1,1048576⟩,⟨false,40,1,9999⟩,⟨false,41,0,31⟩,⟨false,42,0,255⟩]
 |.c8 _=>[⟨false,43,1,1048576⟩,⟨false,44,0,9999⟩,⟨false,45,0,1125899906842624⟩,⟨false,46,0,1⟩]
 |.c9 x=>[⟨false,47,1,1048576⟩,⟨false,48,1,2⟩,⟨false,49,1,5⟩,⟨false,50,x.1,x.2.1⟩,⟨false,51,x.2.2.1,x.2.2.2.1⟩,⟨false,52,x.2.2.2.2.1,x.2.2.2.2.2⟩]
 |.c10 _=>[⟨false,53,1,1048576⟩,⟨true,0,0,1⟩]
 |.c11 _=>[]
 |.c12 _=>[⟨false,55,0,31⟩,⟨false,56,1,1048576⟩]
 |.c13 _=>[]
def fineU(f:Fact):U_facts_open_rxk->Bool
 |.c3 _=>decide (f.Sync.Min<=f.Sync.Max)
 |.c4 _=>decide (f.Hand.Lo<=f.Hand.Hi)
 |.c5 _=>decide (f.Silence.Lo<=f.Silence.Hi)
 |.c6 _=>decide (f.Pair.A<f.Pair.B)
 |.c13 _=>false
 |_=>true
def entsS(f:Fact):List Ent:=headL++bodyL (openU f)
def getV(f:Fact)(b:Int)(e:Ent):Int:=(QgA (Fact.c f) b e).getD 0
def putV(x:Fact)(s:Int)(e:Ent)(v:Int):Fact×Int:=(putE Fact.put x s e v).getD (x,s)
def inE(f:Fact)(b:Int)(e:Ent):Bool:= !(decide (getV f b e<e.lo))&& !(decide (e.hi<getV f b e))
def numR(f:Fact)(b:Int):List Ent->List Int×Fact×Int->Ctl (List Int×Fact×Int) (List Int×Bool)
 |[],a=>.cont a
 |e::r,a=>bif inE f b e then numR f b r (a.1++[getV f b e],putV a.2.1 a.2.2 e (getV f b e))else .done ([],false)
def suspB(f:Fact):Int:=bif f.Appeal.Suspends then 1 else 0
def restS(f:Fact):Fact:={Up with Ruling:={Ux with Kind:=f.Ruling.Kind:Ruling},Kind:=f.Kind:Fact}
def lastF(f x:Fact)(s:Int):Fact:=
 let y:Fact:=bif f.Kind != 10 then {x with Ruling:={x.Ruling with Kind:=0:Ruling}:Fact}else x
 {y with Appeal:={Case:=y.Appeal.Case,Suspends:=s==1:Appeal}:Fact}
def numF(f:Fact):List Int×Bool:=bif fineU f (openU f)then(match numR f (suspB f) (entsS f) ([],restS f,0)with
  |.cont a=>(a.1,lastF f a.2.1 a.2.2==f)
  |.done r=>r)else([],false)
def validS(f:Fact):Bool:=(numF f).2
set_option maxRecDepth 4000
def numN(v:Nat):List Int:=if h:128<=v then orI .u8 (IntKind.u8.wrap (v:Int)) 128::numN (v/128)else[IntKind.u8.wrap (v:Int)]
termination_by v
decreasing_by omega
def zigI(x:Int):Int:=Qgh .u64 (Qfw .u64 (IntKind.u64.wrap x) 1) (IntKind.u64.wrap (Yf .i64 x 63))
def oneB(x:Int):List Int:=1::numN (zigI x).toNat
def listB(l:List Int):List Int:=[3]++numN l.length++(l.map oneB).flatten
def encF(f:Fact):List Int×Int:=bif validS f then(listB (numF f).1,0)else([],120)
def cmpI(a b:Int):Int:=bif decide (a<b)then-1 else bif decide (b<a)then 1 else 0
def orL:List Int->Int
 |[]=>0
 |x::r=>bif x != 0 then x else orL r
def cmpF(f g:Fact):Int:=bif orL [cmpI f.At g.At,cmpI f.Crew g.Crew,cmpI f.No g.No] != 0 then orL [cmpI f.At g.At,cmpI f.Crew g.Crew,cmpI f.No g.No]else cmpB (encF f).1 (encF g).1
set_option maxRecDepth 4000
set_option maxRecDepth 4000
structure CmpOK {α:Type} (c:α->α->Int):Prop where
 swap:∀x y,c y x= -c x y
 trans:∀x y z,c x y<0->c y z<0->c x z<0
 eqt:∀x y z,c x y=0->c x z=c y z
section
variable {α:Type} {c d:α->α->Int}
theorem CmpOK.refl(h:CmpOK c)(x:α):c x x=0:=by have:=h.swap x x;omega
theorem CmpOK.eqr(h:CmpOK c){x y:α}(z:α)(e:c x y=0):c z x=c z y:=by
 rw[h.swap x z,h.swap y z,h.eqt x y z e]
theorem QcK(h:CmpOK c)(k:CmpOK d):CmpOK λx y=>bif c x y != 0 then c x y else d x y:=by
 refine⟨λx y=>?_,λx y z=>?_,λx y z=>?_⟩
 .show(bif c y x != 0 then c y x else d y x)= -(bif c x y != 0 then c x y else d x y);have e:=h.swap x y;by_cases q:c x y=0
  .have f:c y x=0:=by omega
   rw[q,f];exact k.swap x y
  .have f:¬c y x=0:=by omega
   rw[bne_iff_ne.2 q,bne_iff_ne.2 f];exact e
 .show(bif c x y != 0 then c x y else d x y)<0->(bif c y z != 0 then c y z else d y z)<0->(bif c x z != 0 then c x z else d x z)<0;by_cases q:c x y=0
  .have e:=h.eqt x y z q;rw[q,e];by_cases f:c y z=0
   .rw[f];exact k.trans x y z
   .rw[bne_iff_ne.2 f];intro _ b;exact b
  .rw[bne_iff_ne.2 q];by_cases f:c y z=0
   .have e:=h.eqr x f;rw[f, <- e,bne_iff_ne.2 q];intro a _;exact a
   .rw[bne_iff_ne.2 f];intro a b;have:=h.trans x y z a b;rw[bne_iff_ne.2 (show¬c x z=0 by omega)];exact this
 .show(bif c x y != 0 then c x y else d x y)=0->(bif c x z != 0 then c x z else d x z)=(bif c y z != 0 then c y z else d y z);by_cases q:c x y=0
  .rw[q,h.eqt x y z q];intro e;have e:d x y=0:=e;rw[k.eqt x y z e]
  .rw[bne_iff_ne.2 q];intro e;exact absurd e q
theorem CmpOK.on{β:Type}(h:CmpOK c)(f:β->α):CmpOK λx y=>c (f x) (f y):=
 ⟨λx y=>h.swap _ _,λx y z=>h.trans _ _ _,λx y z=>h.eqt _ _ _⟩
end
theorem cmpI_ok:CmpOK cmpI:=by
 have e:∀a b,cmpI a b=if a<b then-1 else if b<a then 1 else 0:=by
  intro a b;unfold cmpI;by_cases h:a<b
  .rw[Vp h,Vo h];rfl
  .rw[Vr h,Vn h];by_cases d:b<a
   .rw[Vp d,Vo d];rfl
   .rw[Vr d,Vn d];rfl
 refine⟨λx y=>?_,λx y z=>?_,λx y z=>?_⟩
 .rw[e,e];split<;>split<;>omega
 .rw[e,e,e];intro a b;have f:x<y:=by
   by_cases q:x<y
   .exact q
   .rw[Vn q]at a;split at a<;>omega
  have d:y<z:=by
   by_cases q:y<z
   .exact q
   .rw[Vn q]at b;split at b<;>omega
  rw[Vo (by omega)];omega
 .rw[e x y];intro h;have:x=y:=by
   by_cases q:x<y
   .rw[Vo q]at h;omega
   .rw[Vn q]at h;split at h<;>omega
  rw[this]
theorem cb_ok:CmpOK Lib.compareBytes:=by
 have j:∀x y:List UInt8,Lib.compareBytes y x= -Lib.compareBytes x y:=by
  intro x
  induction x with
  |nil=>intro y;cases y<;>simp[Lib.compareBytes]
  |cons a x f=>
   intro y;cases y with
   |nil=>simp[Lib.compareBytes]
   |cons b y=>
    unfold Lib.compareBytes;by_cases h:a<b
    .have l:¬b<a:=by rw[UInt8.lt_iff_toNat_lt]at*;omega
     rw[Vo h,Vn l,Vo h];rfl
    .rw[Vn h];by_cases g:b<a
     .rw[Vo g,Vn h,Vo g]
     .rw[Vn g,Vn g,Vn h];exact f y
 have eq:∀x y:List UInt8,Lib.compareBytes x y=0->x=y:=by
  intro x
  induction x with
  |nil=>intro y h;cases y with
   |nil=>rfl
   |cons b y=>simp[Lib.compareBytes]at h
  |cons a x f=>
   intro y h;cases y with
   |nil=>simp[Lib.compareBytes]at h
   |cons b y=>
    unfold Lib.compareBytes at h;by_cases q:a<b
    .rw[Vo q]at h;omega
    .rw[Vn q]at h;by_cases e:b<a
     .rw[Vo e]at h;omega
     .rw[Vn e]at h;have:a=b:=by
       rw[UInt8.lt_iff_toNat_lt]at q e;exact UInt8.toNat_inj.1 (by omega)
      rw[this,f y h]
 refine⟨j,?_,λx y z h=>by rw[eq x y h]⟩;intro x
 induction x with
 |nil=>
  intro y z h k;cases y with
  |nil=>simp[Lib.compareBytes]at h
  |cons b y=>cases z with
   |nil=>simp[Lib.compareBytes]at k
   |cons d z=>simp[Lib.compareBytes]
 |cons a x f=>
  intro y z h k;cases y with
  |nil=>simp[Lib.compareBytes]at h
  |cons b y=>
   cases z with
   |nil=>simp[Lib.compareBytes]at k
   |cons d z=>
    unfold Lib.compareBytes at h k⊢;simp only[UInt8.lt_iff_toNat_lt]at*;by_cases q:a.toNat<b.toNat
    .by_cases r:b.toNat<d.toNat
     .rw[Vo (by omega)];omega
     .rw[Vn r]at k;by_cases i:d.toNat<b.toNat
      .rw[Vo i]at k;omega
      .rw[Vo (by omega)];omega
    .rw[Vn q]at h;by_cases e:b.toNat<a.toNat
     .rw[Vo e]at h;omega
     .rw[Vn e]at h;by_cases r:b.toNat<d.toNat
      .rw[Vo (by omega)];omega
      .rw[Vn r]at k;by_cases i:d.toNat<b.toNat
       .rw[Vo i]at k;omega
       .rw[Vn i]at k;rw[Vn (by omega),Vn (by omega)];exact f y z h k
theorem Qi8(f g:Fact):cmpF f g=bif cmpI f.At g.At != 0 then cmpI f.At g.At else bif cmpI f.Crew g.Crew != 0 then cmpI f.Crew g.Crew else bif cmpI f.No g.No != 0 then cmpI f.No g.No else cmpB (encF f).1 (encF g).1:=by
 unfold cmpF orL orL orL orL;generalize cmpI f.At g.At=a;generalize cmpI f.Crew g.Crew=b;generalize cmpI f.No g.No=d;cases i:(a != 0)with
 |true=>simp only[Vk,i]
 |false=>
  simp only[Vl];cases e:(b != 0)with
  |true=>simp only[Vk,e]
  |false=>
   simp only[Vl];cases h:(d != 0)with
   |true=>simp only[Vk,h]
   |false=>rfl
theorem cmpF_ok:CmpOK cmpF:=by
 have h:=QcK (cmpI_ok.on λf:Fact=>f.At) (QcK (cmpI_ok.on λf:Fact=>f.Crew) (QcK (cmpI_ok.on λf:Fact=>f.No) (cb_ok.on λf:Fact=>(encF f).1.map QcB)));have e:cmpF=λf g=>bif cmpI f.At g.At != 0 then cmpI f.At g.At else bif cmpI f.Crew g.Crew != 0 then cmpI f.Crew g.Crew else bif cmpI f.No g.No != 0 then cmpI f.No g.No else cmpB (encF f).1 (encF g).1:=by
  funext f g;exact Qi8 f g
 rw[e];exact h
set_option maxRecDepth 4000
set_option maxRecDepth 4000
def rulB(k i:Int)(f:Fact):Bool:=(f.Kind==10)&&((f.Ruling.Case==k)&&(f.Ruling.Instance==i))
def repB(k:Int)(f:Fact):Bool:=(f.Kind==8)&&(f.Report.Case==k)
def appB(k:Int)(f:Fact):Bool:=(f.Kind==11)&&(f.Appeal.Suspends&&(f.Appeal.Case==k))
def caseN(f:Fact):Option Int:=bif f.Kind==10 then some f.Ruling.Case else bif f.Kind==8 then some f.Report.Case else bif (f.Kind==11)&&f.Appeal.Suspends then some f.Appeal.Case else none
def fileOf(P:List Fact)(k:Int):Ue:=⟨k,P.filter (rulB k 0),P.filter (rulB k 1),P.filter (rulB k 2),(P.filter (repB k)).map (·.Report),P.any (appB k)⟩
theorem QaF{k i:Int}{f:Fact}(h:rulB k i f=true):caseN f=some k:=by
 unfold rulB at h;rw[XU,XU,Vs (a:=f.Ruling.Case)]at h;unfold caseN;rw[h.1,Vk,h.2.1]
theorem Qej{k:Int}{f:Fact}(h:repB k f=true):caseN f=some k:=by
 unfold repB at h;rw[XU,Vs,Vs]at h;unfold caseN;rw[h.1,h.2];rfl
theorem QeE{k:Int}{f:Fact}(h:appB k f=true):caseN f=some k:=by
 unfold appB at h;rw[XU,XU,Vs,Vs]at h;unfold caseN;rw[h.1,h.2.1,h.2.2];rfl
theorem QaS{α:Type}{p:α->Bool}{l:List α}(h:∀x∈l,p x=false):l.filter p=[]:=by
 rw[List.filter_eq_nil_iff];intro x a;rw[h x a];exact Bool.false_ne_true
theorem QaW{b:Bool}(h:¬b=true):b=false:=by cases b with
 |true=>exact absurd rfl h
 |false=>rfl
theorem QgD{P:List Fact}{k:Int}(h:∀f∈P,caseN f≠some k):fileOf P k=Qaz k:=by
 unfold fileOf Qaz;rw[QaS λf a=>QaW λq=>h f a (QaF q),QaS λf a=>QaW λq=>h f a (QaF q),QaS λf a=>QaW λq=>h f a (QaF q),
  QaS λf a=>QaW λq=>h f a (Qej q),show P.any (appB k)=false from List.any_eq_false.2 λf a q=>h f a (QeE q)]
 rfl
theorem QaT{α:Type}(p:α->Bool)(l:List α)(x:α):(l++[x]).filter p=bif p x then l.filter p++[x]else l.filter p:=by
 rw[List.filter_append];cases h:p x<;>simp[h]
theorem Qe9{P:List Fact}{f:Fact}{k:Int}(h:caseN f≠some k):fileOf (P++[f]) k=fileOf P k:=by
 unfold fileOf;rw[QaT,QaT,QaT,QaT,QaW λq=>h (QaF (i:=0) q),QaW λq=>h (QaF (i:=1) q),QaW λq=>h (QaF (i:=2) q),QaW λq=>h (Qej q),List.any_append,List.any_cons,List.any_nil,
  QaW λq=>h (QeE q)]
 simp
structure FilesOf (P:List Fact) (fs:List Ue):Prop where
 num:(fs.map (·.number)).Nodup
 each:∀x∈fs,x=fileOf P x.number
 mem:∀k,k∈fs.map (·.number)↔ ∃f∈P,caseN f=some k
theorem FilesOf.nil:FilesOf [] []:=⟨List.nodup_nil,(λ_ h=>by cases h),λk=>by simp⟩
theorem FilesOf.put{P:List Fact}{fs:List Ue}{f:Fact}{k:Int}{g:Ue->Ue}(h:FilesOf P fs)(w:caseN f=some k)(E:∀x,(g x).number=x.number)(hg:g (fileOf P k)=fileOf (P++[f]) k):FilesOf (P++[f]) (Qcq (Qbm fs k) k g):=by
 have u:∀x∈Qbm fs k,x=fileOf P x.number:=by
  by_cases q:∃x∈fs,x.number=k
  .rw[Qde q];exact h.each
  .have i:∀x∈fs,x.number≠k:=λx d e=>q ⟨x,d,e⟩;rw[Qcc i];intro x d;rcases Vv.1 d with z|z
   .exact h.each x z
   .rw[Vt.1 z];refine(QgD (k:=k) λa n e=>?_).symm;obtain⟨x,d,H⟩:=Xe.1 ((h.mem k).2 ⟨a,n,e⟩);exact i x d H
 have s:((Qbm fs k).map (·.number)).Nodup:=by
  by_cases q:∃x∈fs,x.number=k
  .rw[Qde q];exact h.num
  .have i:∀x∈fs,x.number≠k:=λx d e=>q ⟨x,d,e⟩;rw[Qcc i,Xf,List.nodup_append];refine⟨h.num,by simp,?_⟩;intro a n b F;obtain⟨x,d,rfl⟩:=Xe.1 n;have r:b=k:=by simpa[Qaz]using F
   rw[r];exact i x d
 have p:∀j,j∈(Qbm fs k).map (·.number)↔j=k\/j∈fs.map (·.number):=by
  intro j;by_cases q:∃x∈fs,x.number=k
  .rw[Qde q];constructor
   .exact .inr
   .rintro(rfl|z)
    .obtain⟨x,d,e⟩:=q;exact Xe.2 ⟨x,d,e⟩
    .exact z
  .rw[Qcc λx d e=>q ⟨x,d,e⟩,Xf,Vv];simp only[Vf,Vg,Vt,Qaz];exact Or.comm
 have l:(Qcq (Qbm fs k) k g).map (·.number)=(Qbm fs k).map (·.number):=by
  unfold Qcq;rw[List.map_map];refine List.map_congr_left λx _=>?_;show(bif decide (x.number=k)then g x else x).number=x.number;cases decide (x.number=k)with
  |true=>exact E x
  |false=>rfl
 refine⟨by rw[l];exact s,λx d=>?_,λj=>?_⟩
 .obtain⟨y,G,rfl⟩:=Xe.1 d;have B:=u y G;cases q:decide (y.number=k)with
  |true=>
   have i:=Vq q;show g y=fileOf _ (g y).number;rw[E,i, <- hg, <- i, <- B]
  |false=>
   have i:=of_decide_eq_false q;show y=fileOf _ y.number;rw[Qe9 (by rw[w];intro z;cases z;exact i rfl)];exact B
 .rw[l,p,h.mem j];constructor
  .rintro(rfl|⟨a,t,m⟩)
   .exact⟨f,by simp,w⟩
   .exact⟨a,by simp[t],m⟩
  .rintro⟨a,t,m⟩;rcases Vv.1 t with z|z
   .exact .inr ⟨a,z,m⟩
   .rw[Vt.1 z,w]at m;cases m;exact .inl rfl
def SameF(l m:List Fact):Prop:=∀f,validS f=true->(f∈l↔f∈m)
theorem SameF.symm{l m:List Fact}(h:SameF l m):SameF m l:=λf hf=>(h f hf).symm
theorem SameF.filter{l m:List Fact}(h:SameF l m)(p:Fact->Bool):SameF (l.filter p) (m.filter p):=λf hf=>by rw[Xd,Xd,h f hf]
def repStep(k:Int)(r f:Fact):Fact:=bif validS f&&repB k f then(bif (r.Kind==0)||decide (cmpF f r<0)then f else r)else r
structure RepOf (k:Int) (P:List Fact) (r:Fact):Prop where
 none:(r.Kind==0)=true->r=Up/\ ∀f∈P,validS f=true->repB k f=false
 some:(r.Kind==0)=false->r∈P/\validS r=true/\repB k r=true/\ ∀f∈P,validS f=true->repB k f=true->¬cmpF f r<0
theorem Qei{k:Int}{f:Fact}(h:repB k f=true):(f.Kind==0)=false:=by
 unfold repB at h;rw[XU,Vs]at h;rw[h.1];rfl
theorem RepOf.nil(k:Int):RepOf k [] Up:=⟨λ_=>⟨rfl,λ_ h=>by cases h⟩,λh=>by cases h⟩
theorem RepOf.step{k:Int}{P:List Fact}{r f:Fact}(h:RepOf k P r):RepOf k (P++[f]) (repStep k r f):=by
 unfold repStep;cases q:validS f&&repB k f with
 |false=>
  simp only[Vl];have n:¬(validS f=true/\repB k f=true):=λz=>by rw[z.1,z.2]at q;cases q
  refine⟨λz=>⟨(h.none z).1,λg l i=>?_⟩,λz=>?_⟩
  .rcases Vv.1 l with w|w
   .exact(h.none z).2 g w i
   .rw[Vt.1 w]at i⊢;exact QaW λy=>n ⟨i,y⟩
  .obtain⟨a,b,c,d⟩:=h.some z;refine⟨by simp[a],b,c,λg l i j=>?_⟩;rcases Vv.1 l with w|w
   .exact d g w i j
   .rw[Vt.1 w]at i j;exact absurd ⟨i,j⟩ n
 |true=>
  rw[XU]at q;simp only[Vk];cases z:(r.Kind==0)with
  |true=>
   simp only[Bool.true_or,Vk];refine⟨λw=>(by rw[Qei q.2]at w;cases w),λ_=>⟨by simp,q.1,q.2,λg l i j=>?_⟩⟩;rcases Vv.1 l with w|w
   .rw[(h.none z).2 g w i]at j;cases j
   .rw[Vt.1 w];have:=cmpF_ok.refl f;omega
  |false=>
   simp only[Bool.false_or];obtain⟨a,b,c,d⟩:=h.some z;cases y:decide (cmpF f r<0)with
   |true=>
    have m:=Vq y;simp only[Vk];refine⟨λw=>(by rw[Qei q.2]at w;cases w),λ_=>⟨by simp,q.1,q.2,λg l i j=>?_⟩⟩;rcases Vv.1 l with w|w
    .intro e;exact d g w i j (cmpF_ok.trans _ _ _ e m)
    .rw[Vt.1 w];have:=cmpF_ok.refl f;omega
   |false=>
    have m:=of_decide_eq_false y;simp only[Vl];refine⟨λw=>(by rw[z]at w;cases w),λ_=>⟨by simp[a],b,c,λg l i j=>?_⟩⟩;rcases Vv.1 l with w|w
    .exact d g w i j
    .rw[Vt.1 w];exact m
section
variable {α β:Type}
end
section
variable {α β:Type}
end
abbrev KeyT:=Int×Option Ruling×List Report
section
variable {S T B:Type} {step:Nat->S->Option (List T×Ctl S B)} {s s':S} {b:B} {xs ys:List T}
def EvL(step:Nat->S->Option (List T×Ctl S B))(s:S)(ys:List T)(b:B):Prop:=∃N,∀n k,N<=n->N<=k->QbL (step n) k s=some (ys,b)
theorem EvL.done(h:Ev (λn=>step n s) (ys,.done b)):EvL step s ys b:=by
 obtain⟨N,h⟩:=h;refine⟨N+1,λn k f d=>?_⟩;obtain⟨a,rfl⟩:∃a,k=a+1:=⟨k-1,by omega⟩;have e:step n s=some (ys,.done b):=h n (by omega);unfold QbL;rw[e];rfl
theorem EvL.cont(h:Ev (λn=>step n s) (xs,.cont s'))(q:EvL step s' ys b):EvL step s (xs++ys) b:=by
 obtain⟨N,h⟩:=h;obtain⟨M,q⟩:=q;refine⟨max N M+1,λn k f d=>?_⟩;obtain⟨a,rfl⟩:∃a,k=a+1:=⟨k-1,by omega⟩;have e:step n s=some (xs,.cont s'):=h n (by omega);unfold QbL;rw[e];show(QbL (step n) a s').bind _=_;rw[q n a (by omega) (by omega)];rfl
end
section
variable {c:Course} {K:List KeyT} {m1:List (Int×Report)×List (Int×Bool)} {m2:List (Int×Ruling)×List (Int×Bool)} {S:List Int}
end
set_option maxRecDepth 100000
theorem Qkz:F_aq 300=some true:=by kernel_rfl
def untS(p:Int)(s:Int×Int×Bool)(x:Penalty):Int×Int×Bool:=bif decide (x.Position<=p)then(IntKind.i64.wrap (s.1+x.Time),IntKind.i64.wrap (s.2.1+x.Laps),s.2.2||x.Out)else s
def untF(x:List Penalty)(p:Int):Int×Int×Bool:=x.foldl (untS p) (0,0,false)
theorem QiY(x:List Penalty)(p:Int)(hl:x.length<=1048576):Ev (λn=>F_l n x p) (untF x p):=by
 unfold F_l;refine Ea (v:=untF x p) (Qcn x (untS p) (0,0,false) (λs i=>(s.1,s.2.1,s.2.2,(i:Int))) (λs=>s) (by omega) rfl (λi y s ha _=>?_) ?_) (QY _)
 .unfold F_gb;simp only[ha.lt,Vk,ha.ix,XH,ha.nx];refine Ea (v:=untS p s y) ?_ (QY _);unfold untS;cases decide (y.Position<=p)with
  |false=>exact QY _
  |true=>cases s.2.2<;>exact QY _
 .unfold F_gb;simp only[end_,Vl];exact QY _
end Go.Sw
