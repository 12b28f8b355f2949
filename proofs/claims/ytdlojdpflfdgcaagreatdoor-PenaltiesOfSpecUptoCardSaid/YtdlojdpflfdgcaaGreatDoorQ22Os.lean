/- The plain laws that a law needs, with no program in sight. -/
import Derived.Test.YtdlojdpflfdgcaaGreatDoorW22Os
set_option linter.unusedVariables false
set_option linter.unusedSimpArgs false
namespace Go.Sw
open List(map)
open Int(toNat)
open Go.IntKind(i64 u64 u8)
def Az(lo hi x:Int):Bool:=decide (lo<=x)&&decide (x<=hi)
theorem qx(lo hi:Int)(l:AA Int)(hl:l.length<=4611686018427387904):Ev (λn=>CS n lo hi l) (l.all (Az lo hi)):=by
 have h:Ev (λn=>Rj n l lo hi) (l.any λx=> !Az lo hi x):=by
  refine Ev.contains l _ (λn x=>R' n x lo hi) hl λx _=>?_;refine Ea ((Er λh=>Qa _).eq ?_) (Qa _);unfold Az
  grind
 refine Ea h ((Qa _).eq ?_)
 grind
def Z5(c:Nat):Bool:=(decide (97<=c)&&decide (c<=122))||(decide (48<=c)&&decide (c<=57))||decide (c=95)
def Ke(c:Nat):Bool:=decide (97<=c)&&decide (c<=122)
def FG(c:UInt8):Bool:=Z5 c.toNat
def NH(c:UInt8):Bool:=Ke c.toNat
def SS:AA (AA UInt8):=[[99,111,117,114,115,101],[109,97,116,115],[115,116,97,114,116],[112,97,115,115],[101,110,100],[108,101,103],[116,111],[100,105,115,116,97,110,99,101],[103,117,110],[99,104,105,112],[115,108,111,116],[108,97,112,115],[108,97,112],[99,117,116,111,102,102],[101,120,116,114,97],[119,97,118,101],[111,102,102,101,110,99,101],[111,117,116],[99,97,116,101,103,111,114,121],[112,114,105,122,101],[97,108,108],[116,105,101,115],[105,102],[101,108,115,101],[97,110,100],[111,114],[110,111,116],[111,108,100,101,114],[121,111,117,110,103,101,114],[98,105,98],[100,114,97,119],[102,105,101,108,100],[115,104,111,114,116],[102,97,117,108,116,115],[109,105,115,115,101,115],[115,116,114,97,121,115],[119,105,110,100,111,119],[114,101,115,105,100,117,97,108],[100,114,105,102,116],[112,114,111,116,101,115,116],[102,101,101],[100,101,97,100,108,105,110,101]]
theorem nj(c d:Bool):(bif c then some c else some d)=some (c||d):=by grind
theorem oE(c d:Bool):(bif c then some true else some d)=some (c||d):=by grind
theorem Qg3(n:Nat)(s:AA UInt8):L3 n s=some (SS.contains s):=by
 unfold L3;simp only[nj,oE,XH];simp only[SS,List.contains_cons,List.contains_nil,Bool.or_assoc]
def F4:AA UInt8->AA (AA UInt8)
 |[]=>[]
 |b::l=>(bif b==32&& !(l.dropWhile λc=>c != 32).isEmpty then[l.takeWhile λc=>c != 32]else[])++F4 l
theorem sd:∀(l s:AA UInt8),(∀c∈s,c≠32)->(s++[32]).isPrefixOf l=((l.takeWhile λc=>c != 32)==s&& !(l.dropWhile λc=>c != 32).isEmpty)
 |[],s,h=>by simp
 |b::l,[],h=>by
  by_cases e:b=32
  .subst e;simp
  .have e1:=by simpa using e
   have a:(32==b)=false:=by grind
   simp[List.isPrefixOf,e1,a]
 |b::l,c::s,h=>by
  have f:=h c (by simp);have d:=sd l s (by grind)
  grind[List.takeWhile_cons,List.dropWhile_cons]
theorem contains_cons(b:UInt8)(l t:AA UInt8)(a:t≠[]):Lib.contains (b::l) t=(t.isPrefixOf (b::l)||Lib.contains l t):=by
 unfold Lib.contains;rw[show Lib.index (b::l) t=if t.isPrefixOf (b::l)then 0 else if Lib.index l t== -1 then-1 else Lib.index l t+1 from rfl]
 grind
theorem tJ(s:AA UInt8)(h:∀c∈s,c≠32):∀l,Lib.contains l (32::(s++[32]))=(F4 l).contains s
 |[]=>by rfl
 |b::l=>by
  rw[contains_cons b l _ (by simp),tJ s h l];simp only[F4,List.isPrefixOf,sd l s h]
  grind
def Fc:AA UInt8:=[32,99,111,117,114,115,101,32,109,97,116,115,32,115,116,97,114,116,32,112,97,115,115,32,101,110,100,32,108,101,103,32,116,111,32,100,105,115,116,97,110,99,101,32,103,117,110,32,99,104,105,112,32,115,108,111,116,32,108,97,112,115,32,108,97,112,32,99,117,116,111,102,102,32,101,120,116,114,97,32,119,97,118,101,32,111,102,102,101,110,99,101,32,111,117,116,32,99,97,116,101,103,111,114,121,32,112,114,105,122,101,32,97,108,108,32,116,105,101,115,32,105,102,32,101,108,115,101,32,97,110,100,32,111,114,32,110,111,116,32,111,108,100,101,114,32,121,111,117,110,103,101,114,32,98,105,98,32,100,114,97,119,32,102,105,101,108,100,32,115,104,111,114,116,32,102,97,117,108,116,115,32,109,105,115,115,101,115,32,115,116,114,97,121,115,32,119,105,110,100,111,119,32,114,101,115,105,100,117,97,108,32,100,114,105,102,116,32,112,114,111,116,101,115,116,32,102,101,101,32,100,101,97,100,108,105,110,101,32]
theorem ut:F4 Fc=SS:=by decide+kernel
def Bv:AA Int:=(List.range 256).map λi=>if 97<=i/\i<=122\/65<=i/\i<=90 then 2 else if 48<=i/\i<=57 then 3 else if i∈[123,125,40,41,91,93,59,44,61,60,62]then 4 else if i∈[32,9,10,13]then 1 else 0
theorem yy:Ev Mr Bv:=by
 unfold Mr;refine Ea (cK (step:=IP 0) 40 (b:=(iter (IP 0) 40 (List.replicate 256 0,97)).getD []) (by decide+kernel)) ?_;refine Ea (cK (step:=La 0) 40 (b:=(iter (La 0) 40 ((iter (IP 0) 40 (List.replicate 256 0,97)).getD [],48)).getD []) (by decide+kernel)) ?_;generalize hb:(iter (La 0) 40 ((iter (IP 0) 40 (List.replicate 256 0,97)).getD [],48)).getD []=b2;refine Ea (cK (step:=Pb 0) 40 (b:=(iter (Pb 0) 40 (b2,0)).getD []) (by subst hb;decide+kernel)) ?_;refine Ea (cK (step:=ZA 0) 40 (b:=Bv) (by subst hb;decide+kernel)) ?_;exact EA (by decide+kernel)
theorem xF:((List.range 256).all λi=> !Z5 i||decide (Bv[i]?=some (if Ke i then 2 else if i=95 then 0 else 3)))=true:=by decide+kernel
theorem wm{c:UInt8}(h:FG c=true):Hn 256 Bv (c.toNat:Int)=some (if NH c then 2 else if c.toNat=95 then 0 else 3):=by
 have a:=Xt.1 xF c.toNat (List.mem_range.2 c.toNat_lt);unfold FG at h;rw[h]at a;simp[Xh,Bool.false_or,Vm]at a;unfold Hn;rw[show Nat.beq Bv.length 256=true by decide+kernel,Vk,Yi a];rfl
def BU(s:AA UInt8):Bool:=decide (1<=s.length)&&decide (s.length<=24)&&(s.head?).any NH&&s.all FG
def BK(s:AA UInt8):Bool:=BU s&& !SS.contains s
theorem yS(s:AA UInt8)(h:BU s=true):Ev (λn=>L2 n s) true:=by
 unfold BU at h;simp only[XU,Vm,Xt]at h;obtain⟨⟨⟨d,k⟩,j⟩,g⟩:=h;unfold L2;refine Ea yy ?_;refine Jh (v:=List.replicate 256 0) (by decide+kernel) ?_;refine Jh (v:=Bv) (by decide+kernel) ?_;refine Ea (v:=AG.k ()) (Ew (λi=>(i:Int)) s.length rfl (λi f=>?_) ?_) ?_
 .have a:=JB (x:=s[i]) (by omega) (XI f);have e:=g _ a.mem;unfold Pn;simp only[a.lt,Vk,a.ix,XH,wm e,a.nx];cases i with
  |zero=>
   have:NH s[0]=true:=by
    cases s with
    |nil=>simp at d
    |cons c r=>grind
   simp[this];exact Qa _
  |succ i=>
   grind[Qa]
 .simp_all[Pn,Qa]
 .refine EA ?_;cases s with
  |nil=>simp at d
  |cons c r=>rfl
theorem x9{s:AA UInt8}(h:BU s=true):∀c∈s,c≠32:=by
 unfold BU at h;simp[XU,Xt]at h;rintro c a rfl;exact absurd (h.2 _ a) (by decide)
theorem wJ{s:AA UInt8}(h:BU s=true):s.length<=24:=by
 simp_all[BU]
theorem yw(s:AA UInt8)(h:BU s=true):Ev (λn=>Rp n s) (SS.contains s):=by
 refine Ea (Ea (yS s h) (Ot ?_)) (Qa _);have a:=wJ h;refine Jh (by unfold cat;rw[XQ (by simp;omega)];rfl) (Jh (by unfold cat;rw[XQ (by simp;omega)];rfl) ?_);refine Jh ?_ (Qa _);show WP Fc ([32]++s++[32])=some (SS.contains s);unfold WP;rw[show Nat.blt Fc.length 4294967281=true by decide+kernel,Vk]
 grind[tJ,x9,ut]
theorem V5(c:UInt8)(k:Nat):decide ((c.toNat:Int)<(k:Int))=decide (c.toNat<k):=by
 simp
theorem OU(c:UInt8):(bif (c.toNat:Int)<97 then(bif (c.toNat:Int)<48 then some ((c.toNat:Int) != 95)else(bif 57<(c.toNat:Int) then some ((c.toNat:Int) != 95)else some false))else(bif 122<(c.toNat:Int) then(bif (c.toNat:Int)<48 then some ((c.toNat:Int) != 95)else(bif 57<(c.toNat:Int) then some ((c.toNat:Int) != 95)else some false))else some false))=some (!FG c):=by
 unfold FG Z5;generalize c.toNat=k;have e:((k:Int) != 95)= !decide (k=95):=by
  grind
 grind
theorem qY(n:Nat)(s:AA UInt8):(bif (s.length:Int)<1 then some true else(bif 24<(s.length:Int) then some true else(AJ s 0).bind λx10=>(bif (x10.toNat:Int)<97 then some true else(AJ s 0).bind λx12=>some (decide (122<(x12.toNat:Int))))))=some (!(decide (1<=s.length)&&decide (s.length<=24)&&(s.head?).any NH)):=by
 cases s with
 |nil=>rfl
 |cons c r=>
  by_cases h:(c::r).length<=24
  .rw[YA (show¬24<((c::r).length:Int)by omega),Vl];have f:AJ (c::r) 0=some c:=rfl;simp[f,XH];simp[XY]at h;have d:r.length<=23:=by omega
   simp[List.head?_cons,Option.any_some,NH,Ke];rw[show(97:Int)=(97:Nat)from rfl,V5];by_cases a:c.toNat<97
   .grind
   .have e:97<=c.toNat:=by omega
    simp[a,e,d];by_cases q:c.toNat<=122
    iterate 2 grind
  grind
theorem qr(s:AA UInt8)(hl:s.length<=1048576):Ev (λn=>IR n s) (BK s):=by
 refine Ea (EA (qY 0 s)) ?_;unfold BK;cases f:(decide (1<=s.length)&&decide (s.length<=24)&&(s.head?).any NH)with
 |false=>
  have:BU s=false:=by unfold BU;rw[f];rfl
  rw[this];exact Qa _
 |true=>
  have g:BU s=s.all FG:=by unfold BU;rw[f];rfl
  refine Ea (Jt s (λc=> !FG c) (λi=>(i:Int)) (AG.d false) (AG.k ()) (by omega) rfl (λi x a d=>?_) (λi x a d=>?_) ?_) ?_
  .unfold Lk;simp only[a.lt,a.ix,XH,OU,d,a.nx];exact Qa _
  .unfold Lk;simp only[a.lt,a.ix,XH,OU,d];exact Qa _
  .simp_all[Lk,Qa]
  .rw[g];have e:s.any (λc=> !FG c)= !s.all FG:=by grind
   rw[e];cases q:s.all FG with
   |true=>
    exact Ea (yw s (g.trans q)) (Qa _)
   |false=>
    exact Qa _
theorem cS(s:AA UInt8)(hl:s.length<=1048576):Ev (λn=>Mx n s) (BK s):=by
 refine Ea (EA (qY 0 s)) ?_;unfold BK;cases a:(decide (1<=s.length)&&decide (s.length<=24)&&(s.head?).any NH)with
 |false=>
  have:BU s=false:=by unfold BU;rw[a];rfl
  rw[this];exact Qa _
 |true=>
  have h:BU s=s.all FG:=by unfold BU;rw[a];rfl
  cases s with
  |nil=>simp at a
  |cons c r=>
   have f:FG c=true:=by
    simp_all[NH,FG,Z5,Ke]
   have hr:=by
    simp[XU,Vm,XY]at a;omega
   have j:∀(i:Nat) (x:UInt8),At r i x->decide (((i+1:Nat):Int)<(c::r).length)=true/\AJ (c::r) (i+1:Nat)=some x/\i64.wrap ((i+1:Nat)+1)=i+1+1:=by
    intro i x d;have:=d.lt';exact⟨Vq (by simp;omega),Yi (by simpa using d.get),Ya (by omega)⟩
   refine Ea (Jt r (λc=> !FG c) (λi=>((i+1:Nat):Int)) (AG.d false) (AG.k ()) (by omega) rfl (λi x d g=>?_) (λi x d g=>?_) ?_) ?_
   iterate 2 grind[P0,OU,Qa]
   .unfold P0;rw[YA (by simp),Vl];exact Qa _
   .rw[h];have e:r.any (λc=> !FG c)= !(c::r).all FG:=by rw[List.all_cons,f,Vw,List.not_all_eq_any_not]
    rw[e];cases q:(c::r).all FG with
    |true=>
     exact Ea (EA (Qg3 0 _)) (Qa _)
    |false=>
     exact Qa _
def BO:AA (AA UInt8)->AA (AA UInt8)->Bool
 |_,[]=>true
 |seen,x::r=>BK x&& !seen.contains x&&BO (seen++[x]) r
theorem ru(l:AA (AA UInt8))(i:Nat)(x:AA UInt8)(h:At l i x):BO (l.take i) (l.drop i)=(BK x&& !(l.take i).contains x&&BO (l.take (i+1)) (l.drop (i+1))):=by
 rw[h.drop,h.take];rfl
theorem Wn{α:Type}(l:AA α)(a:α->AA UInt8)(g:Nat->α->AB Unit)(hg:∀n x,g n x=some ())(hl:l.length<=1048576)(m:∀x∈l,(a x).length<=1048576):
  Ev (λn=>((iter (λs:(AA (AA UInt8×Bool))×Int=>bif s.2<(l.length:Int) then(AJ l s.2).bind λx35=>(g n x35).bind λr36=>((IR n (a x35)).bind λr42=>(bif (!r42)then some true else(some (QH s.1 (a x35) false)).bind λv44=>some v44):AB Bool).bind λb40=>(bif b40 then some (.d (.d false))else(some (QR s.1 (a x35) true)).bind λm46=>some (.k (m46,i64.wrap (s.2+1))))else some (.d (.k ()))) n ([],0):AB (AG Unit Bool)).bind λb28=>
   match b28 with
   |.k _=>some true
   |.d s=>some s:AB Bool)) (BO [] (l.map a)):=by
 have j:l.length<=4611686018427387904:=by omega
 have f:(l.map a).length<=4611686018427387904:=by grind
 have h:=cV (B:=AG Unit Bool) l (step:=λn s=>bif s.2<(l.length:Int) then(AJ l s.2).bind λx35=>(g n x35).bind λr36=>((IR n (a x35)).bind λr42=>(bif (!r42)then some true else(some (QH s.1 (a x35) false)).bind λv44=>some v44)).bind λb40=>(bif b40 then some (.d (.d false))else(some (QR s.1 (a x35) true)).bind λm46=>some (.k (m46,i64.wrap (s.2+1))))else some (.d (.k ())))
  (λi=>(Yu a true (l.take i),i)) (λi=>bif BO ((l.map a).take i) ((l.map a).drop i)then .k ()else .d false) j rfl (λi x e=>?_) ?_
 .refine Ea h ?_
  grind[Qa]
 .have ha2:=JB f (by rw[Xp,e.get];rfl);simp only[ru _ _ _ ha2];have d:Ev (λn=>(IR n (a x)).bind λr42=>(bif (!r42)then some true else(some (QH (Yu a true (l.take i)) (a x) false)).bind λv44=>some v44)) (!(BK (a x)&& !((l.map a).take i).contains (a x))):=by
   refine Ea (qr (a x) (m x e.mem)) ?_;cases BK (a x)with
   |false=>exact Qa _
   |true=>
    simp_all[Qa,lX]
  cases k:(BK (a x)&& !((l.map a).take i).contains (a x))with
  |true=>
   rw[k]at d;refine .inl ⟨?_,by simp⟩;simp only[e.lt,e.ix,XH,hg];refine Ea d ?_;simp[e.nx];rw[e.take,tC];exact Qa _
  |false=>
   rw[k]at d;refine .inr ?_;simp only[e.lt,e.ix,XH,hg];refine Ea d ?_;exact Qa _
 .simp[Hl];rw[show(l.map a).drop l.length=[]by simp];exact Qa _
theorem ni{α:Type}{l:AA α}{x:α}(h:l.length<=140737488):app l [x]=some (l++[x]):=Jw l x (by omega)
theorem Qfe(l:AA (AA UInt8))(hl:l.length<=1048576)(h:∀x∈l,x.length<=1048576):Ev (λn=>FU n l) (BO [] l):=by
 have f:l.length<=4611686018427387904:=by omega
 refine Ea (cV l (λi=>(i:Int)) (λi=>bif BO (l.take i) (l.drop i)then .k ()else .d false) f rfl (λi x a=>?_) ?_) ?_
 .simp only[ru _ _ _ a];unfold Pj;simp only[a.lt,a.ix,XH];cases m:BK x with
  |false=>
   exact .inr (Ea ((cS x (h x a.mem)).eq m) (Qa _))
  |true=>
   have r:=a.lt';have inner:Ev (λn=>iter (Ic n l i) n 0) (bif (l.take i).contains x then AG.d (AG.d (AG.d false))else AG.k ()):=by
    have e:(l.take i).contains x=(l.take i).any λy=>y==x:=by
     grind
    rw[e];have q:(l.take i).length=i:=by simp;omega
    refine Jt (l.take i) (λy=>y==x) (λi=>(i:Int)) _ _ (by omega) rfl (λj y d g=>?_) (λj y d g=>?_) ?_
    .have k:=d.lt';have hjg:=by
      have:=d.get;rw[List.getElem?_take]at this;split at this
      .exact this
      .cases this
     unfold Ic;rw[Yb (show(j:Int)<i by omega)];simp only[Yi hjg,a.ix,XH,g,d.nx];exact Qa _
    .have k:=d.lt';have hjg:=by
      have:=d.get;rw[List.getElem?_take]at this;split at this
      .exact this
      .cases this
     unfold Ic;rw[Yb (show j<(i:Int)by omega)];simp only[Yi hjg,a.ix,XH,g];exact Qa _
    grind[Ic,Qa]
   cases p:(l.take i).contains x with
   |true=>
    rw[p]at inner;exact .inr (Ea ((cS x (h x a.mem)).eq m) (Yc (Ea inner (Qa _))))
   |false=>
    rw[p]at inner;refine .inl ⟨Ea ((cS x (h x a.mem)).eq m) (Yc (Ea inner ?_)),by simp⟩;simp only[a.nx];exact Qa _
 .unfold Pj;simp only[Hl,Xs];exact Qa _
 grind[Qa]
theorem PA{α β:Type}(l:AA α)(f:α->β)(hl:l.length<=140737488):Ev (λn=>iter (λs:(AA β)×Int=>bif s.2<(l.length:Int) then(AJ l s.2).bind λx15=>(app s.1 [f x15]).bind λl16=>some (AG.k (l16,i64.wrap (s.2+1)))else some (AG.d s.1)) n (([]:AA β),(0:Int))) (l.map f):=by
 have e:∀l:AA α,l.foldl (λa x=>a++[f x]) []=l.map f:=by
  intro l;have h:∀(l:AA α) (a:AA β),l.foldl (λa x=>a++[f x]) a=a++l.map f:=by
   intro l
   induction l with
   |nil=>simp
   |cons x l j=>grind
  grind
 rw[<- e l];refine QA l (λa x=>a++[f x]) [] (λa i=>(a,(i:Int))) (λa=>a) (by omega) rfl (λi x a g d=>?_) ?_
 .rw[e]at d;have:a.length<=140737488:=by grind
  simp only[g.lt,g.ix,ni this,g.nx];exact Qa _
 .simp[Hl];exact Qa _
def CM(c:AE):Bool:=BK c.Name&&(BO [] (c.Mats.map (·.Name))&&(BO [] (c.Distances.map (·.Name))&&(BO [] (c.Waves.map (·.Name))&&(BO [] (c.Offences.map (·.Name))&&BO [] (c.Categories.map (·.Name))))))
structure Ae (c:AE):Prop where
 name:c.Name.length<=1048576
 mats:c.Mats.length<=1048576
 matsN:∀x∈c.Mats,x.Name.length<=1048576
 legs:c.Legs.length<=1048576
 dist:c.Distances.length<=1048576
 distN:∀x∈c.Distances,x.Name.length<=1048576
 cut:∀x∈c.Distances,x.Cutoffs.length<=1048576
 wave:c.Waves.length<=1048576
 waveN:∀x∈c.Waves,x.Name.length<=1048576
 off:c.Offences.length<=1048576
 offN:∀x∈c.Offences,x.Name.length<=1048576
 cat:c.Categories.length<=1048576
 catN:∀x∈c.Categories,x.Name.length<=1048576
 prize:c.Prizes.length<=1048576
theorem wg(c:AE)(w:Ae c):Ev (λn=>Rs n c) (CM c):=by
 refine Ea (Ea (qr c.Name w.name) (Eh λ_=>?_)) (Qa _);have d:Ev (λn=>SB n c.Mats) (BO [] (c.Mats.map (·.Name))):=by exact Wn c.Mats (·.Name) RS (λ_ _=>rfl) w.mats w.matsN
 have e:Ev (λn=>RD n c.Distances) (BO [] (c.Distances.map (·.Name))):=by exact Wn c.Distances (·.Name) Q_ (λ_ _=>rfl) w.dist w.distN
 have a:Ev (λn=>SF n c.Waves) (BO [] (c.Waves.map (·.Name))):=by exact Wn c.Waves (·.Name) Rg (λ_ _=>rfl) w.wave w.waveN
 have f:Ev (λn=>SE n c.Offences) (BO [] (c.Offences.map (·.Name))):=by exact Wn c.Offences (·.Name) Ra (λ_ _=>rfl) w.off w.offN
 have g:Ev (λn=>Rk n c.Categories) (BO [] (c.Categories.map (·.Name))):=by exact Wn c.Categories (·.Name) Rw (λ_ _=>rfl) w.cat w.catN
 refine Ea d (Eh λ_=>(Ea e (Eh λ_=>?_)));refine Ea a (Eh λ_=>?_);exact Ea f (Eh (by grind))
structure NS (c:AE):Prop where
 mats:c.Mats.length<=140737488
 dist:c.Distances.length<=140737488
 wave:c.Waves.length<=140737488
 off:c.Offences.length<=140737488
 cat:c.Categories.length<=140737488
theorem zT(c:AE)(w:Ae c)(s:NS c):Ev (λn=>RA n c) (CM c):=by
 refine Ea (PA c.Mats (·.Name) s.mats) (Ea (PA c.Distances (·.Name) s.dist) ?_);refine Ea (PA c.Waves (·.Name) s.wave) (Ea (PA c.Offences (·.Name) s.off) ?_);refine Ea (PA c.Categories (·.Name) s.cat) (Ea ?_ (Qa _));refine Ea (cS c.Name w.name) (Eh λ_=>?_);have mk:∀{α:Type} (l:AA α) (nm:α->AA UInt8),l.length<=1048576->(∀x∈l,(nm x).length<=1048576)->Ev (λn=>FU n (l.map nm)) (BO [] (l.map nm)):=by
  simp_all[Qfe]
 refine Ea (mk c.Mats (·.Name) w.mats w.matsN) (Eh λ_=>(Ea (mk c.Distances (·.Name) w.dist w.distN) (Eh λ_=>?_)));refine Ea (mk c.Waves (·.Name) w.wave w.waveN) (Eh λ_=>(Ea (mk c.Offences (·.Name) w.off w.offN) (Eh λ_=>?_)));exact Ea (mk c.Categories (·.Name) w.cat w.catN) (Qa _)
theorem PE{n:Nat}(h:n<=1048576):i64.wrap ((n:Int)-1)=(n:Int)-1:=Q4 (by omega) (by omega)
theorem J4(x lo hi:Int):Ev (λn=>C4 n x lo hi) (Az lo hi x):=by
 exact Ea (Eh λ_=>Qa _) (Qa _)
theorem WT(c:AE)(w:Ae c)(x:Int):Ev (λn=>II n c x) (Az 0 ((c.Mats.length:Int)-1) x):=by
 unfold II;rw[PE w.mats];exact Ea (J4 _ _ _) (Qa _)
mutual
def N2:AF->Nat
 |⟨_,_,ps⟩=>1+AX ps
def AX:AA AF->Nat
 |[]=>0
 |p::r=>N2 p+AX r
end
theorem Y2(p:AF):N2 p=1+AX p.Parts:=by cases p;rfl
theorem Jk{p:AF}:∀{l:AA AF},p∈l->N2 p<=AX l
 |q::r,h=>by
  simp[AX];rcases X3.1 h with rfl|h
  .omega
  .have:=Jk h;omega
mutual
def Cx(k:Int):AF->Bool
 |⟨m,laps,ps⟩=>bif laps==0 then Az 0 k m&&((ps.length:Int)==0)else Az 1 64 laps&&((m==0)&&(decide (0<(ps.length:Int))&&Au k ps))
def Au(k:Int):AA AF->Bool
 |[]=>true
 |p::r=>Cx k p&&Au k r
end
theorem S2(k:Int)(p:AF):Cx k p=bif p.Laps==0 then Az 0 k p.Mat&&((p.Parts.length:Int)==0)else Az 1 64 p.Laps&&((p.Mat==0)&&(decide (0<(p.Parts.length:Int))&&Au k p.Parts)):=by cases p;rfl
theorem Ju(k:Int):∀l:AA AF,Au k l=l.all (Cx k)
 |[]=>rfl
 |p::r=>by simp[Au,List.all_cons,Ju k r]
theorem Yw{p:AF}(h:AF.wf p):p.Parts.length<=1048576/\ ∀x∈p.Parts,AF.wf x:=by
 cases p
 grind[AF.wf,tH]
theorem QQ(lo hi x:Int):Ev (λn=>CS n lo hi [x]) (Az lo hi x):=(qx lo hi [x] (by simp)).eq (by simp)
theorem W7(lo hi x y:Int):Ev (λn=>CS n lo hi [x,y]) (Az lo hi x&&Az lo hi y):=(qx lo hi [x,y] (by simp)).eq (by simp)
theorem wh(k:Int):∀(m:Nat) (l:AA AF),AX l<=m->l.length<=1048576->(∀x∈l,AF.wf x)->Ev (λn=>HS n l k) (Au k l):=by
 intro m
 induction m with
 |zero=>
  intro l e f d;cases l with
  |nil=>
   refine QX ?_;exact JK [] (Cx k) (λn x=>Md (HS n) n x k) (by simp) (by simp)
  |cons p r=>
   simp only[AX,Y2]at e;omega
 |succ m h=>
  intro l e f d;refine QX ?_;rw[Ju];refine JK l (Cx k) (λn x=>Md (HS n) n x k) (by omega) λp a=>?_;rw[S2];have g:=Jk a;rw[Y2]at g;obtain⟨w1,w2⟩:=Yw (d p a);refine KP (λ_=>?_) (λ_=>?_)
  .exact Ea (Ea (QQ _ _ _) (Eh λ_=>Qa _)) (Qa _)
  .exact Ea (Ea (QQ _ _ _) (Eh λ_=>Eh λ_=>Eh (by grind))) (Qa _)
theorem xo(c:AE)(w:Ae c):∀(m:Nat) (l:AA AF),AX l<=m->l.length<=1048576->(∀x∈l,AF.wf x)->Ev (λn=>PH n c l) (Au ((c.Mats.length:Int)-1) l):=by
 intro m
 induction m with
 |zero=>
  intro l e g f;cases l with
  |nil=>
   refine QX ?_;show Ev (λn=>c_ (PH n) n c []) _;exact⟨1,λn s=>by obtain⟨k,rfl⟩:∃k,n=k+1:=⟨n-1,by omega⟩;rfl⟩
  |cons p r=>
   simp only[AX,Y2]at e;omega
 |succ m j=>
  intro l e g f;refine QX ?_;show Ev (λn=>c_ (PH n) n c l) _;rw[Ju];have step:∀(i:Nat) (x:AF),At l i x->Ev (λn=>LY n c l (PH n) i) (bif Cx (c.Mats.length-1) x then .k (i+1)else .d (.d false)):=by
   intro i x a;unfold LY;simp only[a.lt,a.ix,XH,a.nx];have q:=Jk a.mem;rw[Y2]at q;obtain⟨w1,w2⟩:=Yw (f x a.mem);refine Ea (Eh λ_=>Ea (WT c w _) (Eh λ_=>Qa _)) (Ea (Ea (J4 _ _ _) (Eh λ_=>Eh λ_=>Eh λ_=>Ea (j x.Parts (by omega) w1 w2) (Qa _))) ?_);rw[S2];cases h:(x.Laps==0)with
   |true=>
    have e0:=by simpa using h
    have:Az 1 64 x.Laps=false:=by rw[e0];rfl
    grind[Qa]
   |false=>
    generalize(Az 1 64 x.Laps&&((x.Mat==0)&&(decide (0<(x.Parts.length:Int))&&Au (c.Mats.length-1) x.Parts)))=b;cases b<;>exact Qa _
  refine Ea (Jt l (λx=> !Cx (c.Mats.length-1) x) (λi=>(i:Int)) (AG.d false) (AG.k ()) (by omega) rfl (λi x a d=>?_) (λi x a d=>?_) ?_) ?_
  .refine(step i x a).eq ?_;have:=by simpa using d
   rw[this];rfl
  .refine(step i x a).eq ?_;have:=by simpa using d
   rw[this];rfl
  .unfold LY;simp[Hl];exact Qa _
  grind[Qa]
def Fe(k:Int)(l:BE):Bool:=(Az 0 k l.From&&Az 0 k l.To)&&((Az 0 68719476736 l.Min&&Az 0 68719476736 l.Max)&&decide (l.Min<=l.Max))
def Dx(k:Int)(x:AP):Bool:=Az 0 k x.Mat&&(decide (1<=x.Lap)&&Az 0 1099511627776 x.Limit)
def CJ(k:Int)(d:Distance):Bool:=Az 1 3 d.Timing&&(Az (-1) k d.Extra&&(Au k d.Route&&d.Cutoffs.all (Dx k)))
def Fd(o:Offence):Bool:=bif o.Out then(o.Time==0)&&(o.Laps==0)else bif o.Laps != 0 then(o.Time==0)&&Az 1 64 o.Laps else Az 0 68719476736 o.Time
def Fh(x:Category):Bool:=(Az 0 120 x.From&&Az 0 120 x.To)&&decide (x.From<=x.To)
def CL(c:AE)(p:AW):Bool:=Az 0 ((c.Distances.length:Int)-1) p.Distance&&(Az (-1) ((c.Categories.length:Int)-1) p.Category&&(Az 1 4000 p.Rank&&Az 1 1125899906842624 p.Amount))
def Hx(c:AE):Bool:=(Az 0 16 c.Faults.Misses&&Az 0 16 c.Faults.Strays)&&((Az 0 4294967296 c.Faults.Window&&Az 0 4294967296 c.Faults.Residual)&&(Az 0 100000 c.Faults.Drift&&(Az 0 1125899906842624 c.Fee&&Az 0 1099511627776 c.Deadline)))
def Ak(l:BE):Uh:={from_:=l.From,to_:=l.To}
def Ay(p:AW):Uj:={distance:=p.Distance,category:=p.Category,rank:=p.Rank}
def Aq(c:AE):Bool:=
 let k:=(c.Mats.length:Int)-1
 c.Mats.all (λm=>Az 1 3 m.Kind)&&(c.Legs.all (Fe k)&&(decide ((c.Legs.map Ak).Nodup)&&(c.Distances.all (CJ k)&&(c.Waves.all (λw=>Az 0 1099511627776 w.Gun)&&(c.Offences.all Fd&&(c.Categories.all Fh&&(c.Prizes.all (CL c)&&(decide ((c.Prizes.map Ay).Nodup)&&Hx c))))))))
structure BX (c:AE):Prop where
 len:∀d∈c.Distances,d.Route.length<=1048576
 wf:∀d∈c.Distances,∀x∈d.Route,AF.wf x
theorem QiS(l:AA BE)(hl:l.length<=1048576):Ev (λn=>R6 n l) (decide ((l.map Ak).Nodup)):=by
 refine Ea (lj l Ak true (by omega) (λi x m a=>?_) (λm=>?_)) ((Qa _).eq ?_)
 .unfold Pw R9;simp only[a.lt,a.ix,a.nx];exact Qa _
 .simp_all[Pw,Qa]
 .rw[XW];simp[Vu,Vm]
  grind[tO]
theorem QgC(l:AA AW)(hl:l.length<=1048576):Ev (λn=>R4 n l) (decide ((l.map Ay).Nodup)):=by
 refine Ea (lj l Ay true (by omega) (λi x m a=>?_) (λm=>?_)) ((Qa _).eq ?_)
 .unfold PM SD;simp only[a.lt,a.ix,a.nx];exact Qa _
 .simp_all[PM,Qa]
 .rw[XW];simp[Vu,Vm]
  grind[tO]
theorem zB(c:AE)(w:Ae c)(q:BX c):Ev (λn=>MG n c) (Aq c):=by
 unfold MG Aq;rw[PE w.mats];refine Ea (v:=_) ?_ (Qa _);have f:Ev (λn=>Lz n c.Mats) (c.Mats.all λm=>Az 1 3 m.Kind):=by
  unfold Lz P2 RX;refine JK c.Mats _ (λn x=>MH n x) (by have:=w.mats;omega) λx a=>?_;unfold MH;exact Ea (QQ _ _ _) (Qa _)
 have i:Ev (λn=>L5 n c.Legs ((c.Mats.length:Int)-1)) (c.Legs.all (Fe ((c.Mats.length:Int)-1))):=by
  unfold L5 Rz P8;refine JK c.Legs _ (λn x=>MS n x _) (by have:=w.legs;omega) λx a=>?_;unfold MS;exact Ea (Ea (W7 _ _ _ _) (Eh λ_=>Ea (W7 _ _ _ _) (Eh λ_=>Qa _))) (Qa _)
 have k:Ev (λn=>MU n c.Distances ((c.Mats.length:Int)-1)) (c.Distances.all (CJ ((c.Mats.length:Int)-1))):=by
  unfold MU RK P3;refine JK c.Distances _ (λn x=>Mk n x _) (by have:=w.dist;omega) λx a=>?_;unfold Mk;have h:Ev (λn=>L6 n x.Cutoffs ((c.Mats.length:Int)-1)) (x.Cutoffs.all (Dx ((c.Mats.length:Int)-1))):=by
   unfold L6 R8 SG;refine JK x.Cutoffs _ (λn x=>Ms n x _) (by have:=w.cut x a;omega) λy l=>?_;unfold Ms;exact Ea (Ea (QQ _ _ _) (Eh λ_=>Eh λ_=>Ea (QQ _ _ _) (Qa _))) (Qa _)
  exact Ea (Ea (QQ _ _ _) (Eh λ_=>Ea (QQ _ _ _) (Eh λ_=>Ea (wh _ _ x.Route (XR _) (q.len x a) (q.wf x a)) (Eh λ_=>Ea h (Qa _))))) (Qa _)
 have j:Ev (λn=>Lw n c.Waves) (c.Waves.all λw=>Az 0 1099511627776 w.Gun):=by
  unfold Lw Rf Ro;refine JK c.Waves _ (λn x=>L1 n x) (by have:=w.wave;omega) λx a=>?_;unfold L1;exact Ea (QQ _ _ _) (Qa _)
 have e:Ev (λn=>Mh n c.Offences) (c.Offences.all Fd):=by
  unfold Mh Ry P6;refine JK c.Offences _ (λn x=>Mo n x) (by have:=w.off;omega) λx a=>?_;unfold Mo Fd;refine KP (λ_=>Ea (Eh λ_=>Qa _) (Qa _)) λ_=>KP (λ_=>Ea (Eh λ_=>Ea (QQ _ _ _) (Qa _)) (Qa _)) λ_=>Ea (QQ _ _ _) (Qa _)
 have g:Ev (λn=>ME n c.Categories) (c.Categories.all Fh):=by
  unfold ME Ri RW;refine JK c.Categories _ (λn x=>ML n x) (by have:=w.cat;omega) λx a=>?_;unfold ML;exact Ea (Ea (W7 _ _ _ _) (Eh λ_=>Qa _)) (Qa _)
 have d:Ev (λn=>MP n c.Prizes c) (c.Prizes.all (CL c)):=by
  unfold MP R5 RY;refine JK c.Prizes _ (λn x=>Mq n x c) (by have:=w.prize;omega) λx a=>?_;unfold Mq;rw[PE w.dist,PE w.cat];exact Ea (Ea (QQ _ _ _) (Eh λ_=>Ea (QQ _ _ _) (Eh λ_=>Ea (QQ _ _ _) (Eh λ_=>Ea (QQ _ _ _) (Qa _))))) (Qa _)
 refine Ea f (Eh λ_=>Ea i (Eh λ_=>Ea (QiS _ w.legs) (Eh λ_=>Ea k (Eh λ_=>Ea j (Eh λ_=>Ea e (Eh λ_=>Ea g (Eh λ_=>Ea d (Eh λ_=>Ea (QgC _ w.prize) (Eh λ_=>?_)))))))));exact Ea (W7 _ _ _ _) (Eh λ_=>Ea (W7 _ _ _ _) (Eh λ_=>Ea (QQ _ _ _) (Eh λ_=>Ea (QQ _ _ _) (Eh λ_=>Ea (QQ _ _ _) (Qa _)))))
theorem K2{a b a' d:Int}:(({from_:=a,to_:=b}:Uh)={from_:=a',to_:=d})↔a=a'/\b=d:=by simp
theorem QgB(c:AE)(w:Ae c)(d:Distance)(h:d.Route.length<=1048576)(k:∀x∈d.Route,AF.wf x)(l:d.Cutoffs.length<=1048576):Ev (λn=>RH n c d) (CJ ((c.Mats.length:Int)-1) d):=by
 have step:∀(i:Nat) (x:AP),At d.Cutoffs i x->Ev (λn=>LV n c d i) (bif Dx (c.Mats.length-1) x then .k (i+1)else .d (.d false)):=by
  intro i x a;unfold LV;simp only[a.lt,a.ix,XH,a.nx];have:Ev (λn=>(II n c x.Mat).bind λf=>(bif (!f)then some true else(bif x.Lap<1 then some true else(C4 n x.Limit 0 1099511627776).bind λg=>some (!g)))) (!Dx (c.Mats.length-1) x):=by
   refine Ea (WT c w _) (Et (Er λ_=>Er λ_=>Ea (J4 _ _ _) (Qa _)) ?_)
   grind[Dx]
  refine Ea this ?_
  grind[Qa]
 refine Ea (Jt d.Cutoffs (λx=> !Dx (c.Mats.length-1) x) (λi=>(i:Int)) (AG.d false) (AG.k ()) (by omega) rfl (λi x a j=>?_) (λi x a j=>?_) ?_) ?_
 .grind
 .grind
 .simp_all[LV,Qa]
 .have e:d.Cutoffs.any (λx=> !Dx (c.Mats.length-1) x)= !d.Cutoffs.all (Dx (c.Mats.length-1)):=by grind
  rw[e];unfold CJ;have m:Az (-1) (c.Mats.length-1) d.Extra=((d.Extra== -1)||Az 0 (c.Mats.length-1) d.Extra):=by
   unfold Az
   grind
  cases d.Cutoffs.all (Dx (c.Mats.length-1))with
  |false=>
   simp[Bool.and_false];exact Qa _
  |true=>
   simp only[Bool.and_true];refine Ea (Ea (J4 _ _ _) ((Eh λ_=>Ea (xo c w _ d.Route (XR _) h k) (Eh λ_=>Er λ_=>Ea (WT c w _) (Qa _))).eq ?_)) (Qa _)
   grind
theorem Y9{α B:Type}{step:Nat->Int->AB (AG Int B)}(l:AA α)(ok:α->Bool)(a b:B)(hl:l.length<=4611686018427387904)
  (h:∀i x,At l i x->Ev (λn=>step n (i:Int)) (bif ok x then .k ((i+1:Nat):Int)else .d a))(g:Ev (λn=>step n (l.length:Int)) (.d b)):
  Ev (λn=>Go.Sw.iter (step n) n 0) (bif l.all ok then b else a):=by
 have e:(bif l.all ok then b else a)=bif l.any (λx=> !ok x)then a else b:=by
  grind
 rw[e];refine Jt l (λx=> !ok x) (λi=>(i:Int)) a b hl rfl (λi x f d=>?_) (λi x f d=>?_) g
 .grind
 grind
theorem QiM(c:AE)(w:Ae c)(q:BX c):Ev (λn=>MZ n c) (Aq c):=by
 unfold MZ Aq;have M:Ev (λn=>iter (Ln n c) n 0) (bif c.Mats.all (λm=>Az 1 3 m.Kind)then AG.k ()else AG.d false):=by
  refine Y9 c.Mats _ _ _ (by have:=w.mats;omega) (λi x a=>?_) ?_
  .unfold Ln;simp only[a.lt,Vk,a.ix,XH,a.nx];refine Ea (J4 _ _ _) ?_;cases Az 1 3 x.Kind<;>exact Qa _
  simp_all[Ln,Qa]
 have J:Ev (λn=>iter (HC n c) n 0) (bif c.Legs.all (Fe ((c.Mats.length:Int)-1))&&decide ((c.Legs.map Ak).Nodup)then AG.k ()else AG.d false):=by
  have first:∀x:BE,Ev (λn=>((II n c x.From).bind λu=>(bif (!u)then some true else(II n c x.To).bind λr=>(bif (!r)then some true else(bif x.Min<0 then some true else(bif x.Max<x.Min then some true else some (decide (68719476736<x.Max)))))):AB Bool)) (!Fe ((c.Mats.length:Int)-1) x):=by
   intro x;refine Ea (WT c w _) (Et (Er λ_=>Ea (WT c w _) (Er λ_=>Er λ_=>Er λ_=>Qa _)) ?_);unfold Fe Az
   grind
  have inner:∀(i:Nat) (x:BE),At c.Legs i x->Ev (λn=>iter (IS n c (i:Int) x) n 0) (bif ((c.Legs.take i).map Ak).contains (Ak x)then AG.d (AG.d (AG.d false))else AG.k ()):=by
   intro i x a;have E:=a.lt';refine cC c.Legs i Ak (Ak x) _ _ (by have:=w.legs;omega) (by omega) (λj y F l g=>?_) (λj y F l g=>?_) ?_
   .unfold IS;rw[Yb (show(j:Int)<(i:Int)by omega)];simp only[Vk,l.ix,XH,l.nx];have h:¬(y.From=x.From/\y.To=x.To):=by simpa[Ak]using g
    refine Ea (Eh λ_=>Qa _) ?_;have e:((y.From==x.From)&&(y.To==x.To))=false:=by
     grind
    rw[e];exact Qa _
   .unfold IS;rw[Yb (show(j:Int)<(i:Int)by omega)];simp only[Vk,l.ix,XH,l.nx]
    simp_all[Ak,Qa]
   grind[IS,Qa]
  refine jX c.Legs (Fe ((c.Mats.length:Int)-1)) Ak _ _ (by have:=w.legs;omega) (λi x a d g=>?_) (λi x a d=>?_) (λi x a d g=>?_) ?_
  .unfold HC;simp only[a.lt,Vk,a.ix,XH,a.nx];have f:=first x;rw[d]at f
   have k:=inner i x a;rw[g]at k;exact Ea f (Yc (Ea k (Qa _)))
  .unfold HC;simp only[a.lt,Vk,a.ix,XH,a.nx];have f:=first x;rw[d]at f
   exact Ea f (Qa _)
  .unfold HC;simp only[a.lt,Vk,a.ix,XH,a.nx];have f:=first x;rw[d]at f
   have k:=inner i x a;rw[g]at k;exact Ea f (Yc (Ea k (Qa _)))
  simp_all[HC,Qa]
 have L:Ev (λn=>iter (LN n c) n 0) (bif c.Distances.all (CJ ((c.Mats.length:Int)-1))then AG.k ()else AG.d false):=by
  refine Y9 c.Distances _ _ _ (by have:=w.dist;omega) (λi x a=>?_) ?_
  .unfold LN;simp only[a.lt,Vk,a.ix,XH,a.nx];refine Ea (QgB c w x (q.len x a.mem) (q.wf x a.mem) (w.cut x a.mem)) ?_;cases CJ ((c.Mats.length:Int)-1) x<;>exact Qa _
  .unfold LN;simp only[Hl,Vl];exact Qa _
 have N:Ev (λn=>iter (Lh n c) n 0) (bif c.Waves.all (λw=>Az 0 1099511627776 w.Gun)then AG.k ()else AG.d false):=by
  refine Y9 c.Waves _ _ _ (by have:=w.wave;omega) (λi x a=>?_) ?_
  .unfold Lh;simp only[a.lt,Vk,a.ix,XH,a.nx];refine Ea (J4 _ _ _) ?_;cases Az 0 1099511627776 x.Gun<;>exact Qa _
  .unfold Lh;simp only[Hl,Vl];exact Qa _
 have G:Ev (λn=>iter (Ll n c) n 0) (bif c.Offences.all Fd then AG.k ()else AG.d false):=by
  refine Y9 c.Offences _ _ _ (by have:=w.off;omega) (λi x a=>?_) ?_
  .unfold Ll;simp only[a.lt,Vk,a.ix,XH,a.nx];refine Ea (Ea (J4 _ _ _) (Eh λ_=>Eh λ_=>Qa _)) ?_;refine Ea (Eh λ_=>Ea (J4 _ _ _) (Eh λ_=>Qa _)) ?_;refine Ea (Eh λ_=>Eh λ_=>Qa _) ?_;refine Ea (Eh λ_=>Eh λ_=>Qa _) ?_;have e:Fd x= !(!(Az 0 68719476736 x.Time&&((x.Laps==0)&& !x.Out))&&(!((x.Time==0)&&(Az 1 64 x.Laps&& !x.Out))&& !((x.Time==0)&&((x.Laps==0)&&x.Out)))):=by
    unfold Fd Az;cases x.Out with
    |true=>
     rw[XW];simp
    |false=>
     by_cases h:x.Laps=0
     iterate 2 rw[XW];simp[h]
   rw[e];generalize(!(Az 0 68719476736 x.Time&&((x.Laps==0)&& !x.Out))&&(!((x.Time==0)&&(Az 1 64 x.Laps&& !x.Out))&& !((x.Time==0)&&((x.Laps==0)&&x.Out))))=b;cases b<;>exact Qa _
  .unfold Ll;simp only[Hl,Vl];exact Qa _
 have H:Ev (λn=>iter (LO n c) n 0) (bif c.Categories.all Fh then AG.k ()else AG.d false):=by
  refine Y9 c.Categories _ _ _ (by have:=w.cat;omega) (λi x a=>?_) ?_
  .unfold LO;simp only[a.lt,Vk,a.ix,XH,a.nx];refine Ea (Er λ_=>Er λ_=>Qa _) ?_;have e:(decide (x.From<0)||(decide (x.To<x.From)||decide (120<x.To)))= !Fh x:=by
    unfold Fh Az;rw[XW];simp;omega
   rw[e];cases Fh x<;>exact Qa _
  .unfold LO;simp only[Hl,Vl];exact Qa _
 have O:Ev (λn=>iter (HG n c) n 0) (bif c.Prizes.all (CL c)&&decide ((c.Prizes.map Ay).Nodup)then AG.k ()else AG.d false):=by
  have first:∀x:AW,Ev (λn=>((C4 n x.Distance 0 (i64.wrap ((c.Distances.length:Int)-1))).bind λs=>(bif (!s)then some true else(C4 n x.Category (-1) (i64.wrap ((c.Categories.length:Int)-1))).bind λB=>(bif (!B)then some true else(C4 n x.Rank 1 4000).bind λt=>(bif (!t)then some true else(C4 n x.Amount 1 1125899906842624).bind λp=>some (!p)))):AB Bool)) (!CL c x):=by
   intro x;rw[PE w.dist,PE w.cat];refine Ea (J4 _ _ _) (Et (Er λ_=>Ea (J4 _ _ _) (Er λ_=>Ea (J4 _ _ _) (Er λ_=>Ea (J4 _ _ _) (Qa _)))) ?_);unfold CL;simp only[Bool.not_and]
  have inner:∀(i:Nat) (x:AW),At c.Prizes i x->Ev (λn=>iter (IX n c (i:Int) x) n 0) (bif ((c.Prizes.take i).map Ay).contains (Ay x)then AG.d (AG.d (AG.d false))else AG.k ()):=by
   intro i x a;have E:=a.lt';refine cC c.Prizes i Ay (Ay x) _ _ (by have:=w.prize;omega) (by omega) (λj y F l g=>?_) (λj y F l g=>?_) ?_
   .unfold IX;rw[Yb (show(j:Int)<(i:Int)by omega)];simp only[Vk,l.ix,XH,l.nx];have h:¬(y.Distance=x.Distance/\y.Category=x.Category/\y.Rank=x.Rank):=by simpa[Ay]using g
    refine Ea (Eh λ_=>Eh λ_=>Qa _) ?_;have e:((y.Distance==x.Distance)&&((y.Category==x.Category)&&(y.Rank==x.Rank)))=false:=by
     rw[VI];intro z;exact h (by simpa using z)
    rw[e];exact Qa _
   .unfold IX;rw[Yb (show(j:Int)<(i:Int)by omega)];simp only[Vk,l.ix,XH,l.nx];have h:(y.Distance=x.Distance/\y.Category=x.Category/\y.Rank=x.Rank):=by simpa[Ay]using g
    refine Ea (Eh λ_=>Eh λ_=>Qa _) ?_;have e:((y.Distance==x.Distance)&&((y.Category==x.Category)&&(y.Rank==x.Rank)))=true:=by simpa using h
    rw[e];exact Qa _
   .unfold IX;rw[YA (show¬(i:Int)<(i:Int)by omega)];exact Qa _
  refine jX c.Prizes (CL c) Ay _ _ (by have:=w.prize;omega) (λi x a d g=>?_) (λi x a d=>?_) (λi x a d g=>?_) ?_
  .unfold HG;simp only[a.lt,Vk,a.ix,XH,a.nx];have f:=first x;rw[d]at f
   have k:=inner i x a;rw[g]at k;exact Ea f (Yc (Ea k (Qa _)))
  .unfold HG;simp only[a.lt,Vk,a.ix,XH,a.nx];have f:=first x;rw[d]at f
   exact Ea f (Qa _)
  .unfold HG;simp only[a.lt,Vk,a.ix,XH,a.nx];have f:=first x;rw[d]at f
   have k:=inner i x a;rw[g]at k;exact Ea f (Yc (Ea k (Qa _)))
  .unfold HG;simp only[Hl,Vl];exact Qa _
 refine Ea M ?_;cases c.Mats.all (λm=>Az 1 3 m.Kind)with
 |false=>exact Qa _
 |true=>
 refine Ea J ?_;simp only[Vw];rw[<- Bool.and_assoc];cases(c.Legs.all (Fe ((c.Mats.length:Int)-1))&&decide ((c.Legs.map Ak).Nodup))with
 |false=>exact Qa _
 |true=>
 refine Ea L ?_;simp only[Vw];cases c.Distances.all (CJ ((c.Mats.length:Int)-1))with
 |false=>exact Qa _
 |true=>
 refine Ea N ?_;simp only[Vw];cases c.Waves.all (λw=>Az 0 1099511627776 w.Gun)with
 |false=>exact Qa _
 |true=>
 refine Ea G ?_;simp only[Vw];cases c.Offences.all Fd with
 |false=>exact Qa _
 |true=>
 refine Ea H ?_;simp only[Vw];cases c.Categories.all Fh with
 |false=>exact Qa _
 |true=>
 refine Ea O ?_;simp only[Vw];rw[<- Bool.and_assoc];cases(c.Prizes.all (CL c)&&decide ((c.Prizes.map Ay).Nodup))with
 |false=>exact Qa _
 |true=>
 simp only[Vw];refine Ea (v:=Hx c) ?_ (Qa _);refine Ea (J4 _ _ _) ((Eh λ_=>Ea (J4 _ _ _) (Eh λ_=>Ea (J4 _ _ _) (Eh λ_=>Ea (J4 _ _ _) (Eh λ_=>Ea (J4 _ _ _) (Eh λ_=>Ea (J4 _ _ _) (Eh λ_=>Ea (J4 _ _ _) (Qa _))))))).eq ?_);unfold Hx;simp only[Bool.and_assoc]
mutual
def cN:Cond->Nat
 |⟨_,_,_,ps⟩=>1+Dy ps
def Dy:AA Cond->Nat
 |[]=>0
 |c::r=>cN c+Dy r
end
theorem H_(c:Cond):cN c=1+Dy c.Parts:=by cases c;rfl
mutual
def cD:Nat->Cond->Bool
 |d,⟨_,_,_,ps⟩=>KB d ps
def KB:Nat->AA Cond->Bool
 |_,[]=>true
 |d,c::r=>decide (d<=16)&&(cD (d+1) c&&KB d r)
end
theorem aD(d:Nat)(c:Cond):cD d c=KB d c.Parts:=by cases c;rfl
def Ab(c:Cond):Bool:=(c.Kind==0)&&((c.Var==0)&&((c.N==0)&&((c.Parts.length:Int)==0)))
mutual
def HZ:Step->Nat
 |⟨_,_,_,t,e⟩=>1+Dh t+Dh e
def Dh:AA Step->Nat
 |[]=>0
 |s::r=>HZ s+Dh r
end
theorem Sa(s:Step):HZ s=1+Dh s.Then+Dh s.Else:=by cases s;rfl
mutual
def sC:Step->Nat
 |⟨_,_,c,t,e⟩=>(bif Ab c then 0 else cN c)+DF t+DF e
def DF:AA Step->Nat
 |[]=>0
 |s::r=>sC s+DF r
end
theorem Oz(s:Step):sC s=(bif Ab s.Cond then 0 else cN s.Cond)+DF s.Then+DF s.Else:=by cases s;rfl
mutual
def F9:Nat->Step->Bool
 |d,⟨_,_,c,t,e⟩=>(Ab c||cD 1 c)&&(Di d t&&Di d e)
def Di:Nat->AA Step->Bool
 |_,[]=>true
 |d,s::r=>decide (d<=16)&&(F9 (d+1) s&&Di d r)
end
theorem WK(d:Nat)(s:Step):F9 d s=((Ab s.Cond||cD 1 s.Cond)&&(Di d s.Then&&Di d s.Else)):=by cases s;rfl
mutual
def sZ:Step->Nat
 |⟨_,_,c,t,e⟩=>2+cN c+D4 t+D4 e
def D4:AA Step->Nat
 |[]=>0
 |s::r=>sZ s+D4 r
end
theorem Sc(s:Step):sZ s=2+cN s.Cond+D4 s.Then+D4 s.Else:=by cases s;rfl
def fS:Ui->Nat
 |.ctyping_step x=>HZ x.Step
 |.ctyping_cond _=>0
def fC:Ui->Nat
 |.ctyping_step x=>sC x.Step
 |.ctyping_cond x=>cN x.Cond
def fD(d:Nat):Ui->Bool
 |.ctyping_step x=>F9 d x.Step
 |.ctyping_cond x=>cD d x.Cond
def fZ:Ui->Nat
 |.ctyping_step x=>sZ x.Step
 |.ctyping_cond x=>cN x.Cond
def C_(l:AA Ui):Nat:=(l.map fS).sum
def C'(l:AA Ui):Nat:=(l.map fC).sum
def DV(l:AA Ui):Nat:=(l.map fZ).sum
def U2:Ui->Prop
 |.ctyping_step x=>Step.wf x.Step
 |.ctyping_cond x=>Cond.wf x.Cond
def BA(s:Step):Ui:=.ctyping_step {Step:=s}
def Ai(c:Cond):Ui:=.ctyping_cond {Cond:=c}
theorem Sz:∀l:AA Step,C_ (l.map BA)=Dh l
 |[]=>rfl
 |s::r=>by
  have:=Sz r;simp[C_,Vf,List.sum_cons]at this⊢;rw[this];rfl
theorem Sx:∀l:AA Step,C' (l.map BA)=DF l
 |[]=>rfl
 |s::r=>by
  have:=Sx r;simp[C',Vf,List.sum_cons]at this⊢;rw[this];rfl
theorem Wo:∀l:AA Step,DV (l.map BA)=D4 l
 |[]=>rfl
 |s::r=>by
  have:=Wo r;simp[DV,Vf,List.sum_cons]at this⊢;rw[this];rfl
theorem kG:∀l:AA Cond,C_ (l.map Ai)=0
 |[]=>rfl
 |s::r=>by
  have:=kG r;simp only[C_,Vf,List.sum_cons]at this⊢;rw[this];rfl
theorem kE:∀l:AA Cond,C' (l.map Ai)=Dy l
 |[]=>rfl
 |s::r=>by
  have:=kE r;simp[C',Vf,List.sum_cons]at this⊢;rw[this];rfl
theorem kH:∀l:AA Cond,DV (l.map Ai)=Dy l
 |[]=>rfl
 |s::r=>by
  have:=kH r;simp[DV,Vf,List.sum_cons]at this⊢;rw[this];rfl
theorem b9(d:Nat):∀l:AA Step,Di d l=((l.map BA).isEmpty||(decide (d<=16)&&(l.map BA).all (fD (d+1))))
 |[]=>rfl
 |s::r=>by
  rw[Di,b9 d r];simp[Vf,List.all_cons];rw[show fD (d+1) (BA s)=F9 (d+1) s from rfl]
  grind
theorem o8(d:Nat):∀l:AA Cond,KB d l=((l.map Ai).isEmpty||(decide (d<=16)&&(l.map Ai).all (fD (d+1))))
 |[]=>rfl
 |s::r=>by
  rw[KB,o8 d r];simp[Vf,List.all_cons];rw[show fD (d+1) (Ai s)=cD (d+1) s from rfl]
  grind
theorem JI{c:Cond}(h:Cond.wf c):c.Parts.length<=1048576/\ ∀x∈c.Parts,Cond.wf x:=by
 cases c
 grind[Cond.wf,tE]
theorem JF{s:Step}(h:Step.wf s):Cond.wf s.Cond/\(s.Then.length<=1048576/\ ∀x∈s.Then,Step.wf x)/\(s.Else.length<=1048576/\ ∀x∈s.Else,Step.wf x):=by
 cases s
 grind[Step.wf,sy]
theorem qs(n:Nat)(c:Cond):HM n {Cond:=c}=some (Ab c):=by
 unfold HM Ab
 grind
theorem rW(n:Nat)(c:Cond):I5 n c=some (Ab c):=by
 unfold I5 Ab
 grind
theorem kB(l:AA Step)(hl:l.length<=140737488):Ev (λn=>J9 n l) (l.map BA):=by
 exact Ea (PA l BA hl) (Qa _)
theorem wU(l:AA Cond)(hl:l.length<=140737488):Ev (λn=>P4 n l) (l.map Ai):=by
 exact Ea (PA l Ai hl) (Qa _)
def AS(s:Step):AA Ui:=s.Then.map BA++s.Else.map BA
theorem lm(s:Step)(h:Step.wf s):Ev (λn=>HP n {Step:=s}) (AS s):=by
 obtain⟨_,⟨d,_⟩,⟨a,_⟩⟩:=JF h;refine Ea (kB s.Then (by omega)) (Ea (kB s.Else (by omega)) (Jh (Wm _ _ (by simp;omega)) (Qa _)))
theorem s9(c:Cond)(h:Cond.wf c):Ev (λn=>Fs n {Cond:=c}) (c.Parts.map Ai):=by
 obtain⟨a,_⟩:=JI h;exact Ea (wU c.Parts (by omega)) (Qa _)
def FF(l:AA Ui)(d:Nat)(st co:Int):Bool:=l.isEmpty||(decide (d<=16)&&(l.all (fD (d+1))&&(decide (st+C_ l<=64)&&decide (co+C' l<=256))))
def NF(l:AA Ui)(d:Nat)(st co:Int):Bool:=l.isEmpty||(l.all (fD (d+1))&&(decide (st+C_ l<=64)&&decide (co+C' l<=256)))
def NG(f:Ui)(d:Nat)(st co:Int):Bool:=fD (d+1) f&&(decide (st+fS f<=64)&&decide (co+fC f<=256))
theorem o9(f:Ui)(l:AA Ui):C_ (f::l)=fS f+C_ l:=rfl
theorem o7(f:Ui)(l:AA Ui):C' (f::l)=fC f+C' l:=rfl
theorem o_(f:Ui)(l:AA Ui):DV (f::l)=fZ f+DV l:=rfl
theorem rZ(l m:AA Ui):C_ (l++m)=C_ l+C_ m:=by simp[C_]
theorem rY(l m:AA Ui):C' (l++m)=C' l+C' m:=by simp[C']
theorem rb(l m:AA Ui):DV (l++m)=DV l+DV m:=by simp[DV]
theorem xH(f:Ui)(r:AA Ui)(d:Nat)(a e:Int):NF (f::r) d a e=(NG f d a e&&NF r d (a+fS f) (e+fC f)):=by
 unfold NF NG;rw[o9,o7];cases r with
 |nil=>simp[C_,C']
 |cons g r=>
  grind
theorem ju(l:AA Ui)(d:Nat)(a e:Int)(h:a<=64)(g:e<=256):FF l d a e=true↔(l.isEmpty||(decide (d<=16)&&l.all (fD (d+1))))=true/\a+C_ l<=64/\e+C' l<=256:=by
 unfold FF;cases l with
 |nil=>simp[C_,C',h,g]
 |cons f r=>
  grind
theorem QfA(s:Step)(d:Nat):((AS s).isEmpty||(decide (d<=16)&&(AS s).all (fD (d+1))))=(Di d s.Then&&Di d s.Else):=by
 rw[b9,b9];unfold AS;rw[List.all_append];cases e:s.Then<;>cases a:s.Else<;>simp<;>(grind)
def me(R:Nat->AA Ui->Int->Ug->AB (Ug×Bool))(l:AA Ui)(d:Nat)(st co:Int):Prop:=
 ∃c':Ug,Ev (λn=>R n l (d:Int) {steps:=st,conds:=co}) (c',FF l d st co)/\(FF l d st co=true->c'={steps:=st+C_ l,conds:=co+C' l})
theorem yt{R:Nat->AA Ui->Int->Ug->AB (Ug×Bool)}{l:AA Ui}{d:Nat}(hd:d<=16){i:Nat}{f:Ui}(Q:At l i f)(hw:U2 f)
  (L:∀l' d' a e,DV l'<fZ f->l'.length<=2097152->(∀f∈l',U2 f)->d'<=17->0<=a->a<=66->(a<=65\/ ∀f∈l',∃c,f=Ai c)->0<=e->e<=256->me R l' d' a e){a e:Int}(h0:0<=a)(aa:a<=66)(B:a<=65\/ ∃c,f=Ai c)(h2:0<=e)(h3:e<=256):
  ∃c':Ug,Ev (λn=>IL n l (d:Int) (R n) ({steps:=a,conds:=e},(i:Int))) (bif NG f d a e then .k (c',((i+1:Nat):Int))else .d (.d (c',false)))/\(NG f d a e=true->c'={steps:=a+fS f,conds:=e+fC f}):=by
 unfold IL;simp only[Q.lt,Vk,Q.ix,XH,Q.nx];have ed:i64.wrap ((d:Int)+1)=((d+1:Nat):Int):=Ya (by omega);cases f with
 |ctyping_step x=>
  obtain⟨s⟩:=x;have h1:a<=65:=by
   rcases B with h|⟨c,h⟩
   .exact h
   .cases h
  have k:Step.wf s:=hw;obtain⟨wc,⟨ae,O⟩,⟨ab,Y⟩⟩:=JF k;have M:i64.wrap (a+1)=a+1:=Q4 (by omega) (by omega);simp only[Ui.elim,qs,XH,M];have hc:∃t:Ug,Ev (λn=>((bif (!Ab s.Cond)then(R n [Ui.ctyping_cond {Cond:=s.Cond}] 0 {steps:=a+1,conds:=e}).bind λm=>some (m.1,(!m.2))else some ({steps:=a+1,conds:=e},false)):AB (Ug×Bool))) (t, !(Ab s.Cond||(cD 1 s.Cond&&(decide (a+1<=64)&&decide (e+cN s.Cond<=256)))))/\
    ((Ab s.Cond||(cD 1 s.Cond&&(decide (a+1<=64)&&decide (e+cN s.Cond<=256))))=true->t={steps:=a+1,conds:=e+((bif Ab s.Cond then 0 else cN s.Cond:Nat):Int)}):=by
   cases z:Ab s.Cond with
   |true=>
    simp_all[Qa]
   |false=>
    obtain⟨t,p,u⟩:=L [Ai s.Cond] 0 (a+1) e (by simp only[DV,Vf,Vg,List.sum_cons,List.sum_nil];show cN s.Cond+0<sZ s;rw[Sc];omega) (by simp) (by intro g j;simp only[Vx]at j;subst j;exact wc) (by omega) (by omega) (by omega) (.inr (by intro g j;simp only[Vx]at j;exact⟨_,j⟩)) h2 h3;have ek:FF [Ai s.Cond] 0 (a+1) e=(cD 1 s.Cond&&(decide (a+1<=64)&&decide (e+cN s.Cond<=256))):=by
     unfold FF;simp only[List.isEmpty_cons,Bool.false_or,List.all_cons,List.all_nil,Bool.and_true,C_,C',Vf,Vg,List.sum_cons,List.sum_nil];rw[show fD (0+1) (Ai s.Cond)=cD 1 s.Cond from rfl,show fS (Ai s.Cond)=0 from rfl,show fC (Ai s.Cond)=cN s.Cond from rfl];simp
    rw[ek]at p u;refine⟨t,Ea p (Qa _),λh=>?_⟩;rw[u h];simp[C_,C',show fS (Ai s.Cond)=0 from rfl,show fC (Ai s.Cond)=cN s.Cond from rfl]
  obtain⟨t,p,u⟩:=hc;generalize hb:(Ab s.Cond||(cD 1 s.Cond&&(decide (a+1<=64)&&decide (e+cN s.Cond<=256))))=b at p u;have hF:NG (Ui.ctyping_step {Step:=s}) d a e=(F9 (d+1) s&&(decide (a+HZ s<=64)&&decide (e+sC s<=256))):=rfl;rw[hF];cases b with
  |false=>
   have:(F9 (d+1) s&&(decide (a+HZ s<=64)&&decide (e+sC s<=256)))=false:=by
    rw[VI];intro hh;simp only[XU,Vm,WK,Sa,Oz]at hh;obtain⟨⟨W,_⟩,z2,z3⟩:=hh;cases z:Ab s.Cond with
    |true=>rw[z]at hb;cases hb
    |false=>
     rw[z]at hb W z3;simp only[Bool.false_or]at hb W;rw[W]at hb;simp only[Vl]at z3;rw[Yb (show a+1<=64 by omega),Yb (show e+(cN s.Cond:Int)<=256 by omega)]at hb;cases hb
   rw[this];exact⟨t,Ea p (Qa _),λh=>by cases h⟩
  |true=>
   obtain rfl:=u rfl;by_cases r:64<a+1
   .have:(F9 (d+1) s&&(decide (a+HZ s<=64)&&decide (e+sC s<=256)))=false:=by
     rw[YA (show¬a+(HZ s:Int)<=64 by rw[Sa];omega)];simp
    rw[this];refine⟨{steps:=a+1,conds:=e+((bif Ab s.Cond then 0 else cN s.Cond:Nat):Int)},Ea p ?_,λh=>by cases h⟩;simp only[Xh,Vl];refine Ea (v:=(_,true)) ?_ (Qa _);rw[Yb r];exact Qa _
   by_cases H:256<e+((bif Ab s.Cond then 0 else cN s.Cond:Nat):Int)
   .have:(F9 (d+1) s&&(decide (a+HZ s<=64)&&decide (e+sC s<=256)))=false:=by
     rw[YA (show¬e+(sC s:Int)<=256 by rw[Oz];omega)];simp
    rw[this];refine⟨{steps:=a+1,conds:=e+((bif Ab s.Cond then 0 else cN s.Cond:Nat):Int)},Ea p ?_,λh=>by cases h⟩;simp only[Xh,Vl];refine Ea (v:=(_,true)) ?_ (Qa _);rw[YA r,Yb H];exact Qa _
   obtain⟨F,w,G⟩:=L (AS s) (d+1) (a+1) (e+((bif Ab s.Cond then 0 else cN s.Cond:Nat):Int)) (by
     unfold AS;rw[rb,Wo,Wo];show _<sZ s;rw[Sc];omega) (by unfold AS;simp;omega) (by
     intro g j;unfold AS at j;rcases Vz.1 j with j|j
     .obtain⟨y,E,rfl⟩:=Xf.1 j;exact O y E
     .obtain⟨y,E,rfl⟩:=Xf.1 j;exact Y y E) (by omega) (by omega) (by omega) (.inl (by omega)) (by omega) (by omega)
   have eL:FF (AS s) (d+1) (a+1) (e+((bif Ab s.Cond then 0 else cN s.Cond:Nat):Int))=(F9 (d+1) s&&(decide (a+HZ s<=64)&&decide (e+sC s<=256))):=by
    rw[XW,ju _ _ _ _ (by omega) (by omega),QfA];simp only[XU,Vm,WK,Sa,Oz];have N:C_ (AS s)=Dh s.Then+Dh s.Else:=by unfold AS;rw[rZ,Sz,Sz]
    have T:C' (AS s)=DF s.Then+DF s.Else:=by unfold AS;rw[rY,Sx,Sx]
    rw[N,T];have P:(Ab s.Cond||cD 1 s.Cond)=true:=by
     cases z:Ab s.Cond with
     |true=>rfl
     |false=>
      rw[z]at hb;simp only[Bool.false_or,XU]at hb;rw[hb.1];rfl
    constructor
    .rintro⟨q,X,J⟩;exact⟨⟨P,q⟩,by omega,by omega⟩
    .rintro⟨⟨_,q⟩,X,J⟩;exact⟨q,by omega,by omega⟩
   rw[eL]at w G;refine⟨F,Ea p ?_,λh=>?_⟩
   .simp only[Xh,Vl];refine Ea (v:=(F, !(F9 (d+1) s&&(decide (a+HZ s<=64)&&decide (e+sC s<=256))))) ?_ ?_
    .rw[YA r,YA H,ed];exact Ea (lm s k) (Ea w (Qa _))
    .cases(F9 (d+1) s&&(decide (a+HZ s<=64)&&decide (e+sC s<=256)))<;>exact Qa _
   .rw[G h];have N:C_ (AS s)=Dh s.Then+Dh s.Else:=by unfold AS;rw[rZ,Sz,Sz]
    have T:C' (AS s)=DF s.Then+DF s.Else:=by unfold AS;rw[rY,Sx,Sx]
    rw[N,T,show fS (Ui.ctyping_step {Step:=s})=HZ s from rfl,show fC (Ui.ctyping_step {Step:=s})=sC s from rfl,Sa,Oz];congr 1<;>omega
 |ctyping_cond x=>
  obtain⟨c⟩:=x;have k:Cond.wf c:=hw;obtain⟨ac,V⟩:=JI k;have M:i64.wrap (e+1)=e+1:=Q4 (by omega) (by omega);simp only[Ui.elim,M];have hF:NG (Ui.ctyping_cond {Cond:=c}) d a e=(cD (d+1) c&&(decide (a<=64)&&decide (e+cN c<=256))):=by
   show(cD (d+1) c&&(decide (a+((0:Nat):Int)<=64)&&decide (e+cN c<=256)))=_;rw[show a+((0:Nat):Int)=a by omega]
  rw[hF];by_cases r:64<a
  .have:(cD (d+1) c&&(decide (a<=64)&&decide (e+cN c<=256)))=false:=by
    rw[YA (show¬a<=64 by omega)];simp
   rw[this];refine⟨{steps:=a,conds:=e+1},?_,λh=>by cases h⟩;refine Ea (v:=(_,true)) ?_ (Qa _);rw[Yb r];exact Qa _
  by_cases H:256<e+1
  .have:(cD (d+1) c&&(decide (a<=64)&&decide (e+cN c<=256)))=false:=by
    rw[YA (show¬e+(cN c:Int)<=256 by rw[H_];omega)];simp
   rw[this];refine⟨{steps:=a,conds:=e+1},?_,λh=>by cases h⟩;refine Ea (v:=(_,true)) ?_ (Qa _);rw[YA r,Yb H];exact Qa _
  obtain⟨F,w,G⟩:=L (c.Parts.map Ai) (d+1) a (e+1) (by
    rw[kH];show _<cN c;rw[H_];omega) (by simp;omega) (by
    intro g j;obtain⟨y,E,rfl⟩:=Xf.1 j;exact V y E) (by omega) (by omega) (by omega) (.inl (by omega)) (by omega) (by omega)
  have eL:FF (c.Parts.map Ai) (d+1) a (e+1)=(cD (d+1) c&&(decide (a<=64)&&decide (e+cN c<=256))):=by
   rw[XW,ju _ _ _ _ (by omega) (by omega), <- o8,kG,kE];simp only[XU,Vm,aD,H_];constructor
   iterate 2 rintro⟨q,X,J⟩;exact⟨q,by omega,by omega⟩
  rw[eL]at w G;refine⟨F,?_,λh=>?_⟩
  .refine Ea (v:=(F, !(cD (d+1) c&&(decide (a<=64)&&decide (e+cN c<=256))))) ?_ ?_
   .rw[YA r,YA H,ed];exact Ea (s9 c k) (Ea w (Qa _))
   .cases(cD (d+1) c&&(decide (a<=64)&&decide (e+cN c<=256)))<;>exact Qa _
  .rw[G h,kG,kE,show fS (Ui.ctyping_cond {Cond:=c})=0 from rfl,show fC (Ui.ctyping_cond {Cond:=c})=cN c from rfl,H_];congr 1;omega
theorem wV:∀(m:Nat) (l:AA Ui) (d:Nat) (a e:Int),DV l<=m->l.length<=2097152->(∀f∈l,U2 f)->d<=17->0<=a->a<=66->(a<=65\/ ∀f∈l,∃c,f=Ai c)->0<=e->e<=256->me KT l d a e:=by
 intro m
 induction m using Nat.strongRecOn with
 |_ m w=>
 intro l d a e hm hl hw hd h0 h1 t P W;unfold me;have J:∀c:Ug,(∃g:Ug,Ev (λn=>dH (KT n) n l (d:Int) c) (g,FF l d a e)/\(FF l d a e=true->g={steps:=a+C_ l,conds:=e+C' l}))->∃g:Ug,Ev (λn=>KT n l (d:Int) c) (g,FF l d a e)/\(FF l d a e=true->g={steps:=a+C_ l,conds:=e+C' l}):=by
  rintro c ⟨g,q1,O⟩;exact⟨g,QX q1,O⟩
 refine J _ ?_;unfold dH;cases j:l with
 |nil=>
  refine⟨{steps:=a,conds:=e},?_,λ_=>by simp[C_,C']⟩;refine Ea (v:=AG.k {steps:=a,conds:=e}) (BH.ev (Ei ?_)) (Qa _);exact Qa _
 |cons f0 r0=>
 rw[<- j];have B:l.isEmpty=false:=by rw[j];rfl
 have M:0<l.length:=by rw[j];simp
 by_cases k:d<=16
 rotate_left
 .have:FF l d a e=false:=by unfold FF;rw[B,YA k];rfl
  rw[this];refine⟨{steps:=a,conds:=e},?_,λh=>by cases h⟩;rw[Yb (show(0:Int)<(l.length:Int)by omega),Yb (show(16:Int)<(d:Int)by omega)];exact Ea (Qa _) (Qa _)
 have E:FF l d a e=NF l d a e:=by unfold FF NF;rw[Yb k,Vw]
 rw[E];have loop:∀(r:AA Ui) (i:Nat) (a e:Int),l.drop i=r->i<=l.length->0<=a->a<=66->(a<=65\/ ∀f∈l,∃c,f=Ai c)->0<=e->e<=256->
   ∃g:Ug,BH (λn=>IL n l (d:Int) (KT n)) ({steps:=a,conds:=e},(i:Int)) (bif NF r d a e then AG.k g else AG.d (g,false))/\(NF r d a e=true->g={steps:=a+C_ r,conds:=e+C' r}):=by
  intro r
  induction r with
  |nil=>
   intro i a e G L _ _ _ _ _;refine⟨{steps:=a,conds:=e},Ei ?_,λ_=>by simp[C_,C']⟩;unfold IL;simp only[QY G L,Vl];exact Qa _
  |cons f r F=>
   intro i a e G L g0 g1 z g2 g3;obtain⟨s,y⟩:=Qw (by omega) G;have aa:fZ f<=DV l:=by
    have:∀(l:AA Ui),f∈l->fZ f<=DV l:=by
     intro l
     induction l with
     |nil=>intro h;cases h
     |cons x l w=>
      intro h;rw[o_];rcases X3.1 h with rfl|h
      .omega
      .have:=w h;omega
    exact this l s.mem
   obtain⟨g,p,H⟩:=yt (R:=KT) k s (hw f s.mem) (λN d' a e k1 X k3 k4 k5 k6 u Q T=>w (DV N) (by omega) N d' a e (XR _) X k3 k4 k5 k6 u Q T) g0 g1 (z.imp id λh=>h f s.mem) g2 g3;rw[xH];cases q:NG f d a e with
   |false=>
    rw[q]at p;exact⟨g,Ei p,λh=>by cases h⟩
   |true=>
    rw[q]at p;obtain rfl:=H q;have hb:=by
     unfold NG at q;simp only[XU,Vm]at q;exact q.2
    obtain⟨Y,V,u2⟩:=F (i+1) (a+fS f) (e+fC f) y (by have:=s.lt';omega) (by omega) (by omega) (.inl (by omega)) (by omega) (by omega);refine⟨Y,Eu p V,λh=>?_⟩;rw[u2 (by simpa using h),o9,o7];congr 1<;>omega
 obtain⟨g,p,H⟩:=loop l 0 a e rfl (XS _) h0 h1 t P W;refine⟨g,?_,H⟩;refine Ea (v:=false) ?_ (Yc (Ea p.ev ?_))
 .rw[Yb (show(0:Int)<(l.length:Int)by omega),YA (show¬(16:Int)<(d:Int)by omega)];exact Qa _
 .cases NF l d a e<;>exact Qa _
mutual
def D3:Cond->Bool
 |⟨k,v,n,ps⟩=>bif k==1 then Az 1 3 v&&(Az 0 10000 n&&((ps.length:Int)==0))else
   bif k==4 then((v==0)&&(n==0))&&(((ps.length:Int)==1)&&C7 ps)else
   bif (k==2)||(k==3)then((v==0)&&(n==0))&&((decide (0<(ps.length:Int))&&decide ((ps.length:Int)<=16))&&C7 ps)else false
def C7:AA Cond->Bool
 |[]=>true
 |c::r=>D3 c&&C7 r
end
theorem ns(c:Cond):D3 c=bif c.Kind==1 then Az 1 3 c.Var&&(Az 0 10000 c.N&&((c.Parts.length:Int)==0))else
   bif c.Kind==4 then((c.Var==0)&&(c.N==0))&&(((c.Parts.length:Int)==1)&&C7 c.Parts)else
   bif (c.Kind==2)||(c.Kind==3)then((c.Var==0)&&(c.N==0))&&((decide (0<(c.Parts.length:Int))&&decide ((c.Parts.length:Int)<=16))&&C7 c.Parts)else false:=by cases c;rfl
theorem j2:∀l:AA Cond,C7 l=l.all D3
 |[]=>rfl
 |c::r=>by rw[C7,List.all_cons,j2 r]
mutual
def NB:Step->Bool
 |⟨k,b,c,t,e⟩=>bif k==1 then Az 1 5 b&&(Ab c&&(((t.length:Int)==0)&&((e.length:Int)==0)))else
   bif k==2 then(b==0)&&(D3 c&&(decide (0<(t.length:Int))&&(B7 t&&B7 e)))else false
def B7:AA Step->Bool
 |[]=>true
 |s::r=>NB s&&B7 r
end
theorem nt(s:Step):NB s=bif s.Kind==1 then Az 1 5 s.By&&(Ab s.Cond&&(((s.Then.length:Int)==0)&&((s.Else.length:Int)==0)))else
   bif s.Kind==2 then(s.By==0)&&(D3 s.Cond&&(decide (0<(s.Then.length:Int))&&(B7 s.Then&&B7 s.Else)))else false:=by cases s;rfl
theorem j3:∀l:AA Step,B7 l=l.all NB
 |[]=>rfl
 |c::r=>by rw[B7,List.all_cons,j3 r]
def fV:Ui->Bool
 |.ctyping_step x=>NB x.Step
 |.ctyping_cond x=>D3 x.Cond
theorem zR(l:AA Cond):(l.map Ai).any (λf=> !fV f)= !C7 l:=by
 rw[j2,List.not_all_eq_any_not,List.any_map];rfl
theorem lP(l:AA Step):(l.map BA).any (λf=> !fV f)= !B7 l:=by
 rw[j3,List.not_all_eq_any_not,List.any_map];rfl
theorem qw{R:Nat->AA Ui->AB Bool}(c:Cond)(i:Cond.wf c)(g:Ev (λn=>R n (c.Parts.map Ai)) (!C7 c.Parts)):
  Ev (λn=>RN (R n) n {Cond:=c}) (D3 c):=by
 rw[ns];refine Ea (Eh λ_=>Qa _) (KP (λ_=>?_) (λk=>?_))
 .exact Ea (Ea (QQ _ _ _) (Eh λ_=>Ea (QQ _ _ _) (Eh λ_=>Qa _))) (Qa _)
 .have fin:∀b,Ev (λn=>(bif b then(Fs n {Cond:=c}).bind λa=>(R n a).bind λd=>some (!d)else some false).bind λf=>some f) (b&&C7 c.Parts):=by
   intro b;refine Ea ((Eh λ_=>Ea (s9 c i) (Ea g (Qa _)))) ((Qa _).eq (by simp))
  cases l:(c.Kind==4)with
  |true=>
   cases h:((c.Var==0)&&(c.N==0))with
   |true=>
    grind
   |false=>
    simp_all
  |false=>
   cases j:((c.Kind==2)||(c.Kind==3))with
   |true=>
    have e:Ev (λn=>(bif (c.Kind==2)then some (c.Kind==2)else some (c.Kind==3))) true:=by
     refine EA ?_
     grind
    cases h:((c.Var==0)&&(c.N==0))with
    |true=>
     grind
    |false=>
     refine Ea (Ea e (Qa _)) ((fin _).eq (by simp))
   |false=>
    have e:Ev (λn=>(bif (c.Kind==2)then some (c.Kind==2)else some (c.Kind==3))) false:=by
     refine EA ?_
     grind
    grind
theorem y9:∀(m:Nat) (l:AA Ui),DV l<=m->l.length<=2097152->(∀f∈l,U2 f)->Ev (λn=>Fw n l) (l.any λf=> !fV f):=by
 intro m
 induction m using Nat.strongRecOn with
 |_ m k=>
 intro l H E u;refine QX ?_;show Ev (λn=>SM (Fw n) n l) _;refine Ev.contains l _ (λn f=>RZ (Fw n) n f) (by omega) λf r=>?_;have B:fZ f<=DV l:=by
  have:∀(l:AA Ui),f∈l->fZ f<=DV l:=by
   intro l
   induction l with
   |nil=>simp
   |cons x l k=>
    intro h;rw[o_]
    grind
  grind
 refine Ea (v:=fV f) ?_ (Qa _);have a:∀c:Cond,Cond.wf c->Dy c.Parts<fZ f->Ev (λn=>Fw n (c.Parts.map Ai)) (!C7 c.Parts):=by
  intro c j i;rw[<- zR];obtain⟨w1,w2⟩:=JI j;refine k (DV (c.Parts.map Ai)) (by rw[kH];omega) _ (XR _) (by simp;omega) ?_;intro g d;obtain⟨y,e,rfl⟩:=Xf.1 d;exact w2 y e
 cases f with
 |ctyping_cond x=>
  obtain⟨c⟩:=x;have j:Cond.wf c:=u _ r;exact qw c j (a c j (by show Dy c.Parts<cN c;rw[H_];omega))
 |ctyping_step x=>
  obtain⟨s⟩:=x;have i:Step.wf s:=u _ r;obtain⟨t,⟨z,q⟩,⟨w,p⟩⟩:=JF i;show Ev _ (NB s);rw[nt];refine KP (λ_=>?_) (λF=>KP (λ_=>?_) λ_=>Qa _)
  .refine Ea (Ea (QQ _ _ _) (Eh λ_=>?_)) (Qa _);simp only[qs];refine Eh λ_=>Ea (lm s i) ((Qa _).eq ?_);unfold AS;rw[XW];simp only[Vu,XU,X0,XZ];omega
  .refine Ea (Eh λ_=>?_) (Qa _);refine Ea (qw s.Cond t (a s.Cond t (by show _<sZ s;rw[Sc,H_];omega))) (Eh λ_=>Eh λ_=>?_);refine Ea (lm s i) (Ea (k (DV (AS s)) ?_ _ (XR _) (by unfold AS;simp;omega) ?_) ((Qa _).eq ?_))
   .have:DV (AS s)<sZ s:=by
     unfold AS;rw[rb,Wo,Wo,Sc];omega
    have G:fZ (Ui.ctyping_step {Step:=s})=sZ s:=rfl;omega
   .intro g d;rcases Vz.1 d with d|d
    .obtain⟨y,e,rfl⟩:=Xf.1 d;exact q y e
    .obtain⟨y,e,rfl⟩:=Xf.1 d;exact p y e
   .unfold AS;rw[List.any_append,lP,lP];simp
def DQ(l:AA Step):Bool:=Di 0 l&&(decide (Dh l<=64)&&decide (DF l<=256))
def CV(l:AA Step):Int:=bif DQ l then(bif l.isEmpty|| !B7 l then 71 else 0)else 2
theorem xe(l:AA Step):FF (l.map BA) 0 0 0=DQ l:=by
 rw[XW,ju _ _ _ _ (by omega) (by omega), <- b9,Sz,Sx];unfold DQ
 grind
theorem uS(l:AA Step)(hl:l.length<=1048576)(h:∀x∈l,Step.wf x):Ev (λn=>P9 n l) (CV l):=by
 refine Ea (kB l (by omega)) (Ea ?_ (Qa _));have d:∀f∈l.map BA,U2 f:=by
  intro g j;obtain⟨y,i,rfl⟩:=Xf.1 j;exact h y i
 obtain⟨k,a,m⟩:=wV _ (l.map BA) 0 0 0 (XR _) (by simp;omega) d (by omega) (by omega) (by omega) (.inl (by omega)) (by omega) (by omega);rw[xe]at a;have p3:=a.shift;refine Ea p3 ?_;unfold CV;cases DQ l with
 |false=>exact Qa _
 |true=>
  have e:(((l.map BA).length:Int)==0)=l.isEmpty:=by
   cases l<;>simp;omega
  rw[e];refine Ea (Er λ_=>Ea (y9 _ _ (XR _) (by simp;omega) d) (Qa _)) ?_
  grind[lP,Qa]
def CC(d:Nat):Int:=256*(18-(d:Int))+1000
theorem tK:∀(m:Nat) (c:Cond) (d:Nat),cN c<=m->d<=17->Cond.wf c->∃v:Int,Ev (λn=>LM n c (d:Int)) v/\0<=v/\v<=CC d/\
  (d<=16/\cD (d+1) c=true/\cN c<=256->v=cN c)/\(¬(d<=16/\cD (d+1) c=true/\cN c<=256)->256<v):=by
 intro m
 induction m using Nat.strongRecOn with
 |_ m q=>
 intro c d hm hd hw;obtain⟨V,z⟩:=JI hw;have H:∀{P:Int->Prop},(∃v:Int,Ev (λn=>dF (LM n) n c (d:Int)) v/\P v)->∃v:Int,Ev (λn=>LM n c (d:Int)) v/\P v:=by
  rintro P ⟨v,j,e⟩;exact⟨v,QX j,e⟩
 refine H ?_;unfold dF;by_cases F:d<=16
 .rw[YA (show¬(16:Int)<(d:Int)by omega)];have X:i64.wrap ((d:Int)+1)=((d+1:Nat):Int):=Ya (by omega);have loop:∀(r:AA Cond) (i:Nat) (a:Int),c.Parts.drop i=r->i<=c.Parts.length->0<=a->a<=CC d->
    ∃v:Int,BH (λn=>IK n c (d:Int) (LM n)) (a,(i:Int)) v/\0<=v/\v<=CC d/\
     (KB (d+1) r=true/\a+Dy r<=256->v=a+Dy r)/\(¬(KB (d+1) r=true/\a+Dy r<=256)->256<v):=by
   intro r
   induction r with
   |nil=>
    intro i a G J B j;refine⟨a,Ei ?_,B,j,λ_=>by simp[Dy],λh=>?_⟩
    .unfold IK;simp only[QY G J,Vl,XH];exact Qa _
    .simp[KB,Dy]at h;omega
   |cons x r E=>
    intro i a G J B j;obtain⟨g,s⟩:=Qw (by omega) G;have hx:cN x<cN c:=by
     have:∀l:AA Cond,x∈l->cN x<=Dy l:=by
      intro l
      induction l with
      |nil=>intro h;cases h
      |cons y l q=>
       intro h;rw[Dy];rcases X3.1 h with rfl|h
       .omega
       .have:=q h;omega
     have:=this _ g.mem;rw[H_ c];omega
    by_cases f:a<=256
    .obtain⟨v,t,N,M,k,O⟩:=q (cN x) (by omega) x (d+1) (XR _) (by omega) (z x g.mem);have hB:CC (d+1)+256=CC d:=by unfold CC;omega
     have R:CC d<=6000:=by unfold CC;omega
     have T:i64.wrap (a+v)=a+v:=Q4 (by omega) (by omega);obtain⟨w,q1,Q,Y,q4,L⟩:=E (i+1) (a+v) s (by have:=g.lt';omega) (by omega) (by omega);refine⟨w,Eu ?_ q1,Q,Y,?_,?_⟩
     .unfold IK;simp only[g.lt,Vk,Yb f,XH,g.ix,g.nx,X];refine Ea t ?_;rw[T];exact Qa _
     .rintro⟨e,u⟩;simp only[KB,XU,Vm]at e;rw[Dy]at u⊢;have:=k ⟨e.1,e.2.1,by omega⟩;subst this;rw[q4 ⟨e.2.2,by omega⟩];omega
     .intro W;by_cases p:d+1<=16/\cD (d+1+1) x=true/\cN x<=256
      .have:=k p;subst this;refine L λe=>W ⟨?_,?_⟩
       .simp only[KB,XU,Vm];exact⟨p.1,p.2.1,e.1⟩
       .rw[Dy];omega
      .have:=O p;exact L λe=>by omega
    .refine⟨a,Ei ?_,B,j,λh=>?_,λ_=>by omega⟩
     .unfold IK;simp only[g.lt,Vk,YA f,XH,Vl];exact Qa _
     .omega
  obtain⟨v,t,N,M,k,O⟩:=loop c.Parts 0 1 rfl (XS _) (by omega) (by unfold CC;omega);refine⟨v,Yc (Ea t.ev (Qa _)),N,M,?_,?_⟩
  .rintro⟨_,e,u⟩;rw[aD]at e;rw[H_]at u⊢;rw[k ⟨e,by omega⟩];omega
  grind[aD,H_]
 .rw[Yb (show(16:Int)<(d:Int)by omega)];refine⟨1000,Ot (Qa _),by omega,by unfold CC;omega,λh=>absurd h.1 F,λ_=>by omega⟩
def Bs:Nat->Int
 |0=>10000
 |k+1=>3*Bs k
theorem bY:∀k,10000<=Bs k
 |0=>Int.le_refl _
 |k+1=>by have:=bY k;simp[Bs];omega
theorem xN{k:Nat}(h:k<=17):Bs k<=1291401630000:=by
 have:∀j,j<=17->Bs j<=1291401630000:=by decide+kernel
 grind
def Dm(d:Nat)(l:AA Step):Prop:=Di d l=true/\Dh l<=64/\DF l<=256
theorem oR:∀(m:Nat) (l:AA Step) (d:Nat),D4 l<=m->d<=17->l.length<=1048576->(∀x∈l,Step.wf x)->∃a b:Int,Ev (λn=>Nz n l (d:Int)) (a,b)/\0<=a/\0<=b/\a<=Bs (17-d)/\b<=Bs (17-d)/\
  (Dm d l->a=Dh l/\b=DF l)/\(¬Dm d l->64<a\/256<b):=by
 intro m
 induction m using Nat.strongRecOn with
 |_ m F=>
 intro l d hm hd hl hw;have ae:∀{P:Int->Int->Prop},(∃a b:Int,Ev (λn=>dE (Nz n) n l (d:Int)) (a,b)/\P a b)->∃a b:Int,Ev (λn=>Nz n l (d:Int)) (a,b)/\P a b:=by
  rintro P ⟨a,b,p,w⟩;exact⟨a,b,QX p,w⟩
 refine ae ?_;unfold dE;by_cases u:0<l.length/\ ¬d<=16
 .rw[Yb (show(0:Int)<(l.length:Int)by omega),Yb (show(16:Int)<(d:Int)by omega)];have:=bY (17-d);refine⟨1000,1000,Ea (Qa _) (Ot (Qa _)),by omega,by omega,by omega,by omega,λh=>?_,λ_=>by omega⟩;exfalso;cases l with
  |nil=>simp at u
  |cons x r=>
   have:=h.1;simp only[Di,XU,Vm]at this;omega
 .have j:Ev (λn:Nat=>((bif 0<(l.length:Int) then some (decide (16<(d:Int)))else some false):AB Bool)) false:=by
   grind[Qa]
  have ed:i64.wrap ((d:Int)+1)=((d+1:Nat):Int):=Ya (by omega);have loop:∀(r:AA Step) (i:Nat) (a b:Int),l.drop i=r->i<=l.length->0<=a->0<=b->a<=Bs (17-d)->b<=Bs (17-d)->
    ∃a' b':Int,BH (λn=>Ip n l (d:Int) (Nz n)) (a,b,(i:Int)) (a',b')/\0<=a'/\0<=b'/\a'<=Bs (17-d)/\b'<=Bs (17-d)/\
     (Di d r=true/\a+Dh r<=64/\b+DF r<=256->a'=a+Dh r/\b'=b+DF r)/\(¬(Di d r=true/\a+Dh r<=64/\b+DF r<=256)->64<a'\/256<b'):=by
   intro r
   induction r with
   |nil=>
    intro i a b hr hi j p w O;refine⟨a,b,Ei ?_,j,p,w,O,λ_=>by simp[Dh,DF],λh=>?_⟩
    .unfold Ip;simp only[QY hr hi,Vl,XH];exact Qa _
    .simp[Di,Dh,DF]at h;omega
   |cons s r Q=>
    intro i a b hr hi j p w O;obtain⟨g,J⟩:=Qw (by omega) hr;have ai:=g.lt';have B:d<=16:=by
     omega
    have aj:sZ s<=D4 l:=by
     have:∀l:AA Step,s∈l->sZ s<=D4 l:=by
      intro l
      induction l with
      |nil=>intro h;cases h
      |cons y l F=>
       intro h;rw[D4];rcases X3.1 h with rfl|h
       .omega
       .have:=F h;omega
     exact this _ g.mem
    by_cases e:a<=64/\b<=256
    .obtain⟨wc,⟨aa,Y⟩,⟨ag,ah⟩⟩:=JF (hw s g.mem);have al:=Sc s;obtain⟨t,f,N,p2,p3,p4,p5,G,p7⟩:=F (D4 s.Then) (by omega) s.Then (d+1) (XR _) (by omega) aa Y;obtain⟨y1,y2,q1,q2,q3,q4,q5,q6,q7⟩:=F (D4 s.Else) (by omega) s.Else (d+1) (XR _) (by omega) ag ah;have hB:Bs (17-d)=3*Bs (17-(d+1)):=by
      rw[show 17-d=(17-(d+1))+1 by omega];rfl
     have R:=bY (17-(d+1));have ak:=xN (k:=17-d) (by omega);have hc:∃z:Int,0<=z/\z<=5608/\Ev (λn=>((bif (!Ab s.Cond)then(AJ l (i:Int)).bind λac=>(LM n ac.Cond 0).bind λM=>some (i64.wrap ((i64.wrap ((i64.wrap (b+f))+y2))+M))else some (i64.wrap ((i64.wrap (b+f))+y2))):AB Int)) (b+f+y2+z)/\
       ((Ab s.Cond||cD 1 s.Cond)=true/\(bif Ab s.Cond then 0 else cN s.Cond)<=256->z=((bif Ab s.Cond then 0 else cN s.Cond:Nat):Int))/\(¬((Ab s.Cond||cD 1 s.Cond)=true/\(bif Ab s.Cond then 0 else cN s.Cond)<=256)->256<z):=by
      have e1:i64.wrap (b+f)=b+f:=Q4 (by omega) (by omega);have e2:i64.wrap (b+f+y2)=b+f+y2:=Q4 (by omega) (by omega);cases hz:Ab s.Cond with
      |true=>
       refine⟨0,by omega,by omega,?_,λ_=>by simp,λh=>absurd ⟨rfl,by simp⟩ h⟩;simp only[Xh,Vl,e1,e2];exact(Qa _).eq (by omega)
      |false=>
       obtain⟨v,u1,u2,u3,u4,u5⟩:=tK _ s.Cond 0 (XR _) (by omega) wc;have ab:v<=5608:=by unfold CC at u3;omega
       have e3:i64.wrap (b+f+y2+v)=b+f+y2+v:=Q4 (by omega) (by omega);refine⟨v,u2,ab,?_,λh=>?_,λh=>?_⟩
       .simp only[Xi,Vk,g.ix,XH,e1,e2];refine Ea u1 ?_;rw[e3];exact Qa _
       .simp only[Bool.false_or,Vl]at h⊢;exact u4 ⟨by omega,h.1,h.2⟩
       .simp only[Bool.false_or,Vl]at h;exact u5 λq=>h ⟨q.2.1,q.2.2⟩
     obtain⟨z,z0,z1,z2,z3,z4⟩:=hc;have e4:i64.wrap (a+1)=a+1:=Q4 (by omega) (by omega);have e5:i64.wrap (a+1+t)=a+1+t:=Q4 (by omega) (by omega);have e6:i64.wrap (a+1+t+y1)=a+1+t+y1:=Q4 (by omega) (by omega);obtain⟨w1,w2,v1,v2,v3,v4,v5,v6,E⟩:=Q (i+1) (a+1+t+y1) (b+f+y2+z) J (by omega) (by omega) (by omega) (by omega) (by omega);refine⟨w1,w2,Eu ?_ v1,v2,v3,v4,v5,?_,?_⟩
     .unfold Ip;simp only[g.lt,Vk,Yb e.1,Yb e.2,XH,g.ix,g.nx,ed,rW];refine Ea N (Ea q1 ?_);simp only[g.ix,XH]at z2;refine Ea z2 ?_;rw[e4,e5,e6];exact Qa _
     .rintro⟨g1,g2,g3⟩;simp only[Di,XU,Vm,WK]at g1;obtain⟨am,⟨W,V,af⟩,L⟩:=g1;rw[Dh,Sa]at g2⊢;rw[DF,Oz]at g3⊢;obtain⟨k1,k2⟩:=G ⟨V,by omega,by omega⟩;obtain⟨k3,k4⟩:=q6 ⟨af,by omega,by omega⟩;have k5:=z3 ⟨W,by omega⟩;obtain⟨k6,k7⟩:=v6 ⟨L,by omega,by omega⟩;constructor<;>omega
     .intro hn;by_cases X:Dm (d+1) s.Then
      .obtain⟨k1,k2⟩:=G X;by_cases H:Dm (d+1) s.Else
       .obtain⟨k3,k4⟩:=q6 H;by_cases T:(Ab s.Cond||cD 1 s.Cond)=true/\(bif Ab s.Cond then 0 else cN s.Cond)<=256
        .have k5:=z3 T;refine E λq=>hn ⟨?_,?_,?_⟩
         .simp only[Di,XU,Vm,WK];exact⟨B,⟨T.1,X.1,H.1⟩,q.1⟩
         .rw[Dh,Sa];omega
         .rw[DF,Oz];omega
        .have:=z4 T;exact E λq=>by omega
       .have:=q7 H;exact E λq=>by omega
      .have:=p7 X;exact E λq=>by omega
    .refine⟨a,b,Ei ?_,j,p,w,O,λh=>?_,λ_=>?_⟩
     .unfold Ip;have:Ev (λn:Nat=>((bif (i:Int)<(l.length:Int) then(bif a<=64 then some (decide (b<=256))else some false)else some false):AB Bool)) false:=by
       rw[g.lt];by_cases q:a<=64
       .rw[Yb q,YA (show¬b<=256 from λz=>e ⟨q,z⟩)];exact Qa _
       .rw[YA q];exact Qa _
      exact Ea this (Yc (Qa _))
     iterate 2 omega
  have R:=bY (17-d);obtain⟨a,b,N,p2,p3,p4,p5,G,p7⟩:=loop l 0 0 0 rfl (XS _) (by omega) (by omega) (by omega) (by omega);refine⟨a,b,Ea j (Yc (Ea N.ev (Qa _))),p2,p3,p4,p5,λh=>?_,λh=>?_⟩
  .obtain⟨k1,k2⟩:=G ⟨h.1,by have:=h.2.1;omega,by have:=h.2.2;omega⟩;constructor<;>omega
  .exact p7 λq=>h ⟨q.1,by omega,by omega⟩
theorem zU:∀(m:Nat) (c:Cond),cN c<=m->Cond.wf c->Ev (λn=>Fv n c) (D3 c):=by
 intro m
 induction m using Nat.strongRecOn with
 |_ m q=>
 intro c z u;obtain⟨s,j⟩:=JI u;refine QX ?_;show Ev (λn=>SL (Fv n) n c) _;rw[ns];have k:∀x∈c.Parts,cN x<cN c:=by
  intro x k;have:∀l:AA Cond,x∈l->cN x<=Dy l:=by
   intro l
   induction l with
   |nil=>simp
   |cons y l q=>
    intro h;rw[Dy]
    grind
  have:=this _ k;rw[H_ c];omega
 have loop:Ev (λn=>iter (IQ n c (Fv n)) n 0) (bif c.Parts.all D3 then AG.k ()else AG.d false):=by
  refine Y9 c.Parts D3 _ _ (by omega) (λi x a=>?_) ?_
  .unfold IQ;simp only[a.lt,Vk,a.ix,XH,a.nx];refine Ea (q (cN x) (by have:=k x a.mem;omega) x (XR _) (j x a.mem)) ?_;cases D3 x<;>exact Qa _
  simp_all[IQ,Qa]
 have fin:Ev (λn=>((bif (c.Var != 0)then some true else some (c.N != 0)):AB Bool).bind λd=>(bif d then some false else(iter (IQ n c (Fv n)) n 0).bind λf=>match f with|.k sb48=>(some true)|.d sb48=>some sb48)) (((c.Var==0)&&(c.N==0))&&C7 c.Parts):=by
  refine Ea (v:= !((c.Var==0)&&(c.N==0))) (EA ?_) ?_
  .grind
  .cases((c.Var==0)&&(c.N==0))with
   |false=>exact Qa _
   |true=>
    refine Yc (Ea loop ?_)
    grind[j2,Qa]
 refine KP (λ_=>?_) (λw=>?_)
 .refine Ea (v:=_) ((Eh λ_=>Eh λ_=>Eh λ_=>Eh λ_=>Qa _).eq ?_) (Qa _);unfold Az
  grind
 .have e:Ev (λn:Nat=>((bif (c.Kind==2)then some (c.Kind==2)else some (c.Kind==3)):AB Bool)) ((c.Kind==2)||(c.Kind==3)):=EA (by rw[nj]);refine Ea e ?_;cases p:((c.Kind==2)||(c.Kind==3))with
  |true=>
   have r:(c.Kind==4)=false:=by
    rw[VI];simp only[Bool.or_eq_true,Vu]at p;simp only[Vu,ne_eq];omega
   rw[r];have t:(bif (c.Parts.length:Int)<1 then some true else some (decide (16<(c.Parts.length:Int))))=some (!(decide (0<(c.Parts.length:Int))&&decide ((c.Parts.length:Int)<=16))):=by
    rw[oE];congr 1;rw[XW];simp only[Bool.or_eq_true,Vm,Bool.not_eq_true',Bool.and_eq_false_iff,decide_eq_false_iff_not];omega
   rw[t];cases g:(decide (0<(c.Parts.length:Int))&&decide ((c.Parts.length:Int)<=16))with
   |false=>
    refine Ea (Qa _) ((Qa _).eq (by simp))
   |true=>
    refine Ea (Qa _) (fin.eq (by simp))
  |false=>
   simp only[Vl];cases r:(c.Kind==4)with
   |true=>
    simp only[Vk];cases g:((c.Parts.length:Int)==1)with
    |false=>
     refine Ea (v:=AG.d false) (EA ?_) ((Qa _).eq (by simp));simp only[bne,g,Xi,Vk]
    |true=>
     refine Ea (v:=AG.k ()) (EA ?_) (fin.eq (by simp));simp only[bne,g,Xh,Vl]
   |false=>
    refine Ea (Qa _) (Qa _)
theorem zG(c:Cond)(a:Cond.wf c)(g:cD 1 c=true)(d:cN c<=256):Ev (λn=>Mi n c) (bif D3 c then 0 else 71):=by
 obtain⟨v,f,_,_,e,_⟩:=tK _ c 0 (XR _) (by omega) a;have:=e ⟨by omega,g,d⟩;refine Ea f ?_;rw[YA (show¬256<v by omega)];refine Yc (Ea (zU _ c (XR _) a) ?_);cases D3 c<;>exact Qa _
theorem xn{c:Cond}(h:Ab c=true):cD 1 c=true/\cN c<=256:=by
 unfold Ab at h;simp only[XU,Vu]at h;have:c.Parts=[]:=(by simp_all);rw[aD,H_,this];exact⟨rfl,by simp[Dy]⟩
theorem zW:∀(m:Nat) (l:AA Step) (d:Nat),D4 l<=m->l.length<=1048576->(∀x∈l,Step.wf x)->Di d l=true->DF l<=256->Ev (λn=>IJ n l) (B7 l):=by
 intro m
 induction m using Nat.strongRecOn with
 |_ m u=>
 intro l d hm Y V H hc;refine QX ?_;show Ev (λn=>dG (IJ n) n l) _;unfold dG;have j:∀s∈l,sZ s<=D4 l/\F9 (d+1) s=true/\sC s<=DF l:=by
  intro s;have:∀l:AA Step,s∈l->Di d l=true->sZ s<=D4 l/\F9 (d+1) s=true/\sC s<=DF l:=by
   intro l
   induction l with
   |nil=>simp
   |cons y l u=>
    intro h H;simp only[Di,XU]at H;rw[D4,DF]
    grind
  grind
 rw[j3];have loop:Ev (λn=>iter (LW n l (IJ n)) n 0) (bif l.all NB then AG.k ()else AG.d false):=by
  refine Y9 l NB _ _ (by omega) (λi s q=>?_) ?_
  .obtain⟨m1,B,X⟩:=j s q.mem;obtain⟨J,⟨z,w⟩,⟨t,E⟩⟩:=JF (V s q.mem);have O:=Sc s;have k:=Oz s;rw[WK]at B;simp only[XU]at B;obtain⟨F,R,W⟩:=B;have g:cD 1 s.Cond=true/\cN s.Cond<=256:=by
    cases G:Ab s.Cond with
    |true=>exact xn G
    |false=>
     rw[G]at F k;simp only[Vl]at k;exact⟨by simpa using F,by omega⟩
   unfold LW;simp only[q.lt,Vk,q.ix,XH,q.nx,rW];rw[nt];cases h1:(s.Kind==1)with
   |true=>
    simp only[Vk];have e:Ev (λn:Nat=>((bif s.By<1 then some true else(bif 5<s.By then some true else(bif (!Ab s.Cond)then some true else(bif ((s.Then.length:Int) != 0)then some true else some ((s.Else.length:Int) != 0))))):AB Bool)) (!(Az 1 5 s.By&&(Ab s.Cond&&(((s.Then.length:Int)==0)&&((s.Else.length:Int)==0))))):=by
     refine(Er λ_=>Er λ_=>Er λ_=>Er λ_=>Qa _).eq ?_;unfold Az;cases Ab s.Cond with
     |false=>simp
     |true=>
      rw[XW];simp only[Bool.or_eq_true,Vm,Bool.not_eq_true',Bool.and_eq_false_iff,decide_eq_false_iff_not,bne_iff_ne,ne_eq,Vv,Xh,Vw,Xj,false_or];omega
    cases p:(Az 1 5 s.By&&(Ab s.Cond&&(((s.Then.length:Int)==0)&&((s.Else.length:Int)==0))))with
    |true=>rw[p]at e;exact Ea (Ea e (Qa _)) (Qa _)
    |false=>rw[p]at e;exact Ea (Ea e (Qa _)) (Qa _)
   |false=>
    simp only[Vl];cases h2:(s.Kind==2)with
    |true=>
     simp only[Vk];have e:Ev (λn=>((bif (s.By != 0)then some true else(Mi n s.Cond).bind λr=>(bif (r != 0)then some true else(bif ((s.Then.length:Int)==0)then some true else(IJ n s.Then).bind λf=>(bif (!f)then some true else(IJ n s.Else).bind λa=>some (!a))))):AB Bool)) (!((s.By==0)&&(D3 s.Cond&&(decide (0<(s.Then.length:Int))&&(B7 s.Then&&B7 s.Else))))):=by
      have P:=u (D4 s.Then) (by omega) s.Then (d+1) (XR _) z w R (by omega);have L:=u (D4 s.Else) (by omega) s.Else (d+1) (XR _) t E W (by omega);have T:Ev (λn=>(IJ n s.Else).bind λa=>some (!a)) (!B7 s.Else):=Ea L (Qa _);have Q:Ev (λn=>(IJ n s.Then).bind λf=>(bif (!f)then some true else(IJ n s.Else).bind λa=>some (!a))) (!B7 s.Then|| !B7 s.Else):=Ea P (Er λ_=>T);refine(Er λ_=>Ea (zG s.Cond J g.1 g.2) (Er λ_=>Er λ_=>Q)).eq ?_;have M:((bif D3 s.Cond then(0:Int)else 71) != 0)= !D3 s.Cond:=by cases D3 s.Cond<;>rfl
      have N:((s.Then.length:Int)==0)= !decide (0<(s.Then.length:Int)):=by
       rw[XW];simp
      rw[M,N];simp only[Bool.not_and,bne]
     cases p:((s.By==0)&&(D3 s.Cond&&(decide (0<(s.Then.length:Int))&&(B7 s.Then&&B7 s.Else))))with
     |true=>rw[p]at e;exact Ea (Ea e (Qa _)) (Qa _)
     |false=>rw[p]at e;exact Ea (Ea e (Qa _)) (Qa _)
    |false=>exact Ea (Qa _) (Qa _)
  simp_all[LW,Qa]
 refine Ea loop ?_;cases l.all NB<;>exact Qa _
theorem zL(l:AA Step)(hl:l.length<=1048576)(g:∀x∈l,Step.wf x):Ev (λn=>Rv n l) (CV l):=by
 obtain⟨a,b,i,t,w,_,_,j,m⟩:=oR _ l 0 (XR _) (by omega) hl g;refine Ea i ?_;have q:DQ l=true↔Dm 0 l:=by
  unfold DQ Dm;simp
 unfold CV;cases f:DQ l with
 |false=>
  have:=m (λh=>by grind);have e:(bif 64<a then some true else some (decide (256<b)))=some true:=by
   grind
  exact Ea (EA e) (Qa _)
 |true=>
  have d:=q.1 f;obtain⟨r,u⟩:=j d;have s:=d.2.1;have k:=d.2.2;have e:(bif 64<a then some true else some (decide (256<b)))=some false:=by
   grind
  refine Ea (EA e) (Yc ?_);have p:((l.length:Int)==0)=l.isEmpty:=by
   cases l<;>simp;omega
  rw[p];refine Ea (Er λ_=>Ea (zW _ l 0 (XR _) hl g d.1 k) (Qa _)) ?_
  grind[Qa]
mutual
def hP:AF->Nat
 |⟨_,_,ps⟩=>bif ps.isEmpty then 0 else 1+DG ps
def DG:AA AF->Nat
 |[]=>0
 |p::r=>max (hP p) (DG r)
end
theorem m6(p:AF):hP p=bif p.Parts.isEmpty then 0 else 1+DG p.Parts:=by cases p;rfl
theorem oa{p:AF}:∀{l:AA AF},p∈l->hP p<=DG l
 |q::r,h=>by
  simp[DG];rcases X3.1 h with rfl|h
  .omega
  .have:=oa h;omega
theorem pq{α:Type}(l:AA α):((l.length:Int)==0)=l.isEmpty:=by
 cases l<;>simp;omega
theorem PD:∀l:AA AF,l.length<=AX l
 |[]=>XR _
 |p::r=>by have:=PD r;rw[AX,Y2,XY];omega
theorem sR:∀(m:Nat) (l:AA AF) (k:Nat),AX l<=m->k<=17->l.length<=1048576->(∀x∈l,AF.wf x)->Ev (λn=>Ny n l (k:Int)) ((min (DG l) k:Nat):Int):=by
 intro m
 induction m using Nat.strongRecOn with
 |_ m j=>
 intro l k F z B t;refine QX ?_;show Ev (λn=>dD (Ny n) n l (k:Int)) _;unfold dD;have loop:∀(r:AA AF) (i:Nat) (a:Nat),l.drop i=r->i<=l.length->a<=k->BH (λn=>G_ n l (k:Int) (Ny n)) ((a:Int),(i:Int)) ((max a (min (DG r) k):Nat):Int):=by
  intro r
  induction r with
  |nil=>
   intro i a e h d;refine Ei ?_;unfold G_;simp only[QY e h,Vl,XH];refine(Qa _).eq ?_;simp[DG]
  |cons p r f=>
   intro i a e h u;obtain⟨d,g⟩:=Qw (by omega) e;obtain⟨w1,w2⟩:=Yw (t p d.mem);by_cases y:0<k
   .have q:i64.wrap ((k:Int)-1)=((k-1:Nat):Int):=by rw[Q4 (by omega) (by omega)];omega
    have w:=Jk d.mem;rw[Y2]at w;have step:Ev (λn=>G_ n l (k:Int) (Ny n) ((a:Int),(i:Int))) (.k (((max a (min (hP p) k):Nat):Int),((i+1:Nat):Int))):=by
     unfold G_;simp only[d.lt,Vk,Yb (show(0:Int)<(k:Int)by omega),XH,d.ix,d.nx,q,bne,pq];rw[m6];cases E:p.Parts.isEmpty with
     |true=>
      simp_all[Qa]
     |false=>
      simp only[Xi,Vk,Vl];refine Ea (Ea (j (AX p.Parts) (by omega) p.Parts (k-1) (XR _) (by omega) w1 w2) (Qa _)) ((Qa _).eq ?_);have s:i64.wrap (1+((min (DG p.Parts) (k-1):Nat):Int))=((1+min (DG p.Parts) (k-1):Nat):Int):=by rw[Q4 (by omega) (by omega)];omega
      rw[s];congr 2;split<;>omega
    refine(Eu step (f (i+1) _ g (by have:=d.lt';omega) (by omega))).eq ?_;rw[DG];omega
   simp_all[Ei,G_,Qa]
 refine Ea ((loop l 0 0 rfl (XS _) (XS _)).ev) ((Qa _).eq ?_);omega
theorem sQ:∀(m:Nat) (l:AA AF),AX l<=m->l.length<=1048576->(∀x∈l,AF.wf x)->Ev (λn=>Fx n l) ((min (AX l) 257:Nat):Int):=by
 intro m
 induction m using Nat.strongRecOn with
 |_ m u=>
 intro l B s y;refine QX ?_;show Ev (λn=>SN (Fx n) n l) _;have loop:∀(r:AA AF) (i:Nat) (a:Nat),l.drop i=r->i<=l.length->a<=1048576->∃b:Nat,BH (λn=>IM n l (Fx n)) ((a:Int),(i:Int)) (b:Int)/\min b 257=min (a+(AX r-r.length)) 257:=by
  intro r
  induction r with
  |nil=>
   intro i a e k _;refine⟨a,Ei ?_,by simp[AX]⟩;unfold IM;simp only[QY e k,Vl,XH];exact Qa _
  |cons p r g=>
   intro i a e k z;obtain⟨d,h⟩:=Qw (by omega) e;obtain⟨w1,w2⟩:=Yw (y p d.mem);have w:=Jk d.mem;rw[Y2]at w;have t:=PD r;by_cases q:a<=256
   .obtain⟨b,f,j⟩:=g (i+1) (a+min (AX p.Parts) 257) h (by have:=d.lt';omega) (by omega);refine⟨b,Eu ?_ f,?_⟩
    .unfold IM;simp only[d.lt,Vk,Yb (show(a:Int)<=256 by omega),XH,d.ix,d.nx];refine Ea (u (AX p.Parts) (by omega) p.Parts (XR _) w1 w2) ((Qa _).eq ?_);rw[Q4 (by omega) (by omega)];congr 2
     all_goals omega
    .rw[j,AX,Y2,XY];omega
   .refine⟨a,Ei ?_,by omega⟩;unfold IM;simp only[d.lt,Vk,YA (show¬(a:Int)<=256 by omega),XH,Vl];exact Qa _
 obtain⟨b,f,j⟩:=loop l 0 l.length rfl (XS _) s;refine Ea f.ev ((Qa _).eq ?_);have:=PD l;omega
theorem wW:∀(m:Nat) (l:AA AF) (k:Nat),AX l<=m->DG l<=k->k<=17->AX l<=256->(∀x∈l,AF.wf x)->Ev (λn=>PJ n l (k:Int)) ((DG l:Int),(AX l:Int)):=by
 intro m
 induction m using Nat.strongRecOn with
 |_ m y=>
 intro l k P O u j N;have w:=PD l;refine QX ?_;show Ev (λn=>dB (PJ n) n l (k:Int)) _;unfold dB;have loop:∀(r:AA AF) (i:Nat) (a b:Nat),l.drop i=r->i<=l.length->a<=17->b+(AX r-r.length)<=256->BH (λn=>IV n l (k:Int) (PJ n)) ((a:Int),(b:Int),(i:Int)) (((max a (DG r):Nat):Int),((b+(AX r-r.length):Nat):Int)):=by
  intro r
  induction r with
  |nil=>
   intro i a b q t _ _;refine Ei ?_;unfold IV;simp only[QY q t,Vl,XH]
   grind[Qa,DG,AX]
  |cons p r h=>
   intro i a b q t G g;obtain⟨d,e⟩:=Qw (by omega) q;obtain⟨w1,w2⟩:=Yw (N p d.mem);have H:=Jk d.mem;have f:=oa d.mem;rw[Y2]at H;have L:=PD r;rw[AX,Y2,XY]at g;have step:Ev (λn=>IV n l (k:Int) (PJ n) ((a:Int),(b:Int),(i:Int))) (.k (((max a (hP p):Nat):Int),((b+AX p.Parts:Nat):Int),((i+1:Nat):Int))):=by
    unfold IV;simp only[d.lt,Vk,d.ix,XH,d.nx,pq];rw[m6]at f⊢;cases s:p.Parts.isEmpty with
    |true=>
     have M:p.Parts=[]:=by simpa using s
     simp only[Vk,XH];rw[M];simp only[AX,Xw,Nat.max_zero];exact Qa _
    |false=>
     rw[s]at f;simp only[Vl]at f⊢;have J:0<k:=by omega
     have z:i64.wrap ((k:Int)-1)=((k-1:Nat):Int):=by rw[Q4 (by omega) (by omega)];omega
     have B:((k:Int)==0)=false:=beq_false_of_ne (by omega);rw[B,YA (show¬(256:Int)<(b:Int)by omega),z];simp only[Vl,XH];refine Ea (Ea (y (AX p.Parts) (by omega) p.Parts (k-1) (XR _) (by omega) (by omega) (by omega) w2) (Qa _)) ((Qa _).eq ?_);have F:i64.wrap ((DG p.Parts:Int)+1)=((DG p.Parts+1:Nat):Int):=Ya (by omega);have E:i64.wrap ((b:Int)+(AX p.Parts:Int))=((b+AX p.Parts:Nat):Int):=by rw[Q4 (by omega) (by omega)];omega
     simp only[F,E];congr 2;split<;>omega
   refine(Eu step (h (i+1) _ _ e (by have:=d.lt';omega) (by omega) (by omega))).eq ?_;rw[DG,AX,Y2,XY];congr 1<;>omega
 refine Ea ((loop l 0 0 l.length rfl (XS _) (by omega) (by omega)).ev) ((Qa _).eq ?_)
 grind
def BW:Nat->AA Int->AA Int->AA Int
 |0,out,_=>out
 |k+1,out,lap=>if 256<out.length then out else BW k (out++lap) lap
mutual
def Ci:AF->AA Int
 |⟨m,laps,ps⟩=>bif 0<laps then A5 [] ps else[m]
def A5:AA Int->AA AF->AA Int
 |out,[]=>out
 |out,p::r=>A5 (BW (p.Laps.toNat+(bif 0<p.Laps then 0 else 1)) out (Ci p)) r
end
theorem LK(p:AF):Ci p=bif 0<p.Laps then A5 [] p.Parts else[p.Mat]:=by cases p;rfl
theorem bU{k:Nat}{a d:AA Int}(h:256<a.length):BW k a d=a:=by
 cases k with
 |zero=>rfl
 |succ k=>rw[BW,Vp h]
theorem kC:∀(l:AA AF) {out:AA Int},256<out.length->A5 out l=out
 |[],out,h=>by rw[A5]
 |p::r,out,h=>by rw[A5,bU h];exact kC r h
theorem bV:∀(k:Nat) (out lap:AA Int),(BW k out lap).length<=max out.length (256+lap.length)
 |0,out,lap=>by rw[BW];omega
 |k+1,out,lap=>by
  rw[BW];split
  .omega
  .have:=bV k (out++lap) lap
   grind
theorem kD:∀(m:Nat) (l:AA AF) (a:AA Int),AX l<=m->(A5 a l).length<=max a.length (256+257*AX l):=by
 intro m
 induction m using Nat.strongRecOn with
 |_ m g=>
 intro l;have e:∀p∈l,AX l<=m->(Ci p).length<=257*N2 p:=by
  intro p h n;have s:=Jk h;rw[LK,Y2]at*;cases decide (0<p.Laps)with
  |true=>
   have:=g (AX p.Parts) (by omega) p.Parts [] (XR _)
   grind
  |false=>simp;omega
 have i:∀(r:AA AF) (a:AA Int),(∀p∈r,(Ci p).length<=257*N2 p)->(A5 a r).length<=max a.length (256+257*AX r):=by
  intro r
  induction r with
  |nil=>intro a _;rw[A5];omega
  |cons p r d=>
   intro a f;rw[A5,AX];have k:=d (BW (p.Laps.toNat+(bif 0<p.Laps then 0 else 1)) a (Ci p)) λq j=>f q (by simp[j])
   grind[bV]
 grind
theorem qL(p:AF):(Ci p).length<=257*N2 p:=by
 rw[LK,Y2];cases decide (0<p.Laps)with
 |true=>
  have:=kD _ p.Parts [] (XR _)
  grind
 |false=>simp;omega
theorem yQ(Y:Int):∀(m:Nat) (l:AA AF),AX l<=m->AX l<=256->l.length<=1048576->(∀x∈l,AF.wf x)->Au Y l=true->Ev (λn=>PI n l) (A5 [] l):=by
 intro m
 induction m using Nat.strongRecOn with
 |_ m T=>
 intro l hm M hl hw Q;rw[Ju,Xt]at Q;refine QX ?_;show Ev (λn=>dA (PI n) n l) _;unfold dA;have inner:∀(p:AF) (e:AA Int) (g:p.Laps=0\/0<p.Laps/\p.Laps<=64) (y:e.length<=100000) (j:Nat) (k:Nat) (a:AA Int),j+k=p.Laps.toNat+(bif 0<p.Laps then 0 else 1)->a.length<=200000->
   ∃d:AG (AA Int) (AG ((AA Int)×Int) (AG (AA Int) (AA Int))),BH (λn=>Ie n p e) (a,(j:Int)) d/\
    (d=.k (BW k a e)\/(256<(BW k a e).length/\d=.d (.d (.d (BW k a e))))):=by
  intro p e g y j k
  induction k generalizing j with
  |zero=>
   intro a w _;refine⟨_,Ei (b:=.k a) ?_,.inl rfl⟩;unfold Ie;have:¬((j:Int)<if p.Laps<1 then 1 else p.Laps):=by
    grind
   rw[YA this];exact Qa _
  |succ k H=>
   intro a w B;have q:((j:Int)<if p.Laps<1 then 1 else p.Laps):=by
    rcases g with h|⟨h,h'⟩
    .rw[h]at w⊢;simp at w⊢;omega
    .rw[Yb h]at w;simp at w;rw[Vn (by omega)];omega
   by_cases t:256<a.length
   .refine⟨_,Ei (b:=.d (.d (.d a))) ?_,.inr ⟨by rw[bU t];exact t,by rw[bU t]⟩⟩;unfold Ie;rw[Yb q,Yb (show(256:Int)<(a.length:Int)by omega)];exact Qa _
   .obtain⟨d,u,F⟩:=H (j+1) (a++e) (by omega) (by rw[X0];omega);refine⟨d,Eu ?_ u,by rw[BW,Vn t];exact F⟩;unfold Ie;rw[Yb q,YA (show¬(256:Int)<(a.length:Int)by omega)];refine Ot (Yc (Jh (Wm a e (by omega)) ?_));rw[Ya (by omega)];exact Qa _
 have loop:∀(r:AA AF) (i:Nat) (a:AA Int),l.drop i=r->i<=l.length->a.length<=100000->
   ∃d:AG (AA Int) (AA Int),BH (λn=>Ii n l (PI n)) (a,(i:Int)) d/\(d=.k (A5 a r)\/d=.d (A5 a r)):=by
  intro r
  induction r with
  |nil=>
   intro i a N O _;refine⟨.k a,Ei ?_,.inl (by rw[A5])⟩;unfold Ii;simp only[QY N O,Vl];exact Qa _
  |cons p r L=>
   intro i a N O B;obtain⟨f,G⟩:=Qw (by omega) N;have q:=f.lt';have X:=Jk f.mem;obtain⟨w1,w2⟩:=Yw (hw p f.mem);have g:=Q p f.mem;rw[S2]at g;have s:p.Laps=0\/0<p.Laps/\p.Laps<=64:=by
    cases P:(p.Laps==0)with
    |true=>exact .inl (by simpa using P)
    |false=>
     rw[P]at g;simp only[Vl,Az,XU,Vm]at g;exact .inr ⟨by omega,by omega⟩
   have V:=qL p;have t:Ev (λn=>((bif 0<p.Laps then(PI n p.Parts).bind λJ=>some J else some [p.Mat]):AB (AA Int))) (Ci p):=by
    rw[LK];refine KP (λh=>?_) (λ_=>Qa _);rw[Y2]at X;refine Ea (T (AX p.Parts) (by omega) p.Parts (XR _) (by omega) w1 w2 ?_) (Qa _);have:(p.Laps==0)=false:=by
     simp only[Vm]at h;exact beq_false_of_ne (by omega)
    rw[this]at g;simp only[Vl,XU]at g;exact g.2.2.2
   obtain⟨d,u,F⟩:=inner p (Ci p) s (by omega) 0 _ a (Xv _) (by omega);rw[A5];rcases F with rfl|⟨z,rfl⟩
   .obtain⟨E,W,R⟩:=L (i+1) (BW (p.Laps.toNat+(bif 0<p.Laps then 0 else 1)) a (Ci p)) G (by omega) (by
     have:=bV (p.Laps.toNat+(bif 0<p.Laps then 0 else 1)) a (Ci p);omega)
    refine⟨E,Eu ?_ W,R⟩;unfold Ii;simp only[f.lt,Vk,f.ix,XH,f.nx];exact Ea t (Ea u.ev (Qa _))
   .refine⟨.d (BW (p.Laps.toNat+(bif 0<p.Laps then 0 else 1)) a (Ci p)),Ei ?_,.inr (by rw[kC r z])⟩;unfold Ii;simp only[f.lt,Vk,f.ix,XH,f.nx];exact Ea t (Ea u.ev (Qa _))
 obtain⟨d,u,F⟩:=loop l 0 [] rfl (XS _) (by simp);rcases F with rfl|rfl
 iterate 2 exact Ea u.ev (Qa _)
theorem QiO(P:Int):∀(m:Nat) (l:AA AF),AX l<=m->AX l<=256->l.length<=1048576->(∀x∈l,AF.wf x)->Au P l=true->Ev (λn=>HX n l) (A5 [] l):=by
 intro m
 induction m using Nat.strongRecOn with
 |_ m N=>
 intro l V z T R J;rw[Ju,Xt]at J;refine QX ?_;show Ev (λn=>M' (HX n) n l) _;unfold M';have inner:∀(p:AF) (i:Nat) (e:At l i p) (F:AA Int) (f:AA Int) (g:0<p.Laps/\p.Laps<=64) (h:f.length<=100000) (j:Nat) (k:Nat) (a:AA Int),j+k=p.Laps.toNat->a.length<=200000->
   BH (λn=>IW n l (F,(i:Int)) f) (a,(j:Int)) (BW k a f):=by
  intro p i e F f g h j k
  induction k generalizing j with
  |zero=>
   intro a M _;refine Ei ?_;unfold IW;simp only[e.ix,XH];rw[YA (show¬(j:Int)<p.Laps by omega)];exact Qa _
  |succ k u=>
   intro a M s;by_cases q:256<a.length
   .refine Ei ?_;rw[bU q];unfold IW;simp only[e.ix,XH];rw[Yb (show(j:Int)<p.Laps by omega),YA (show¬(a.length:Int)<=256 by omega)];exact Qa _
   .rw[BW,Vn q];refine Eu ?_ (u (j+1) (a++f) (by omega) (by rw[X0];omega));unfold IW;simp only[e.ix,XH];rw[Yb (show(j:Int)<p.Laps by omega),Yb (show(a.length:Int)<=256 by omega)];simp only[Vk,XH];refine Jh (Wm a f (by omega)) ?_;rw[Ya (by omega)];exact Qa _
 have loop:∀(r:AA AF) (i:Nat) (a:AA Int),l.drop i=r->i<=l.length->a.length<=100000->
   BH (λn=>IO n l (HX n)) (a,(i:Int)) (A5 a r):=by
  intro r
  induction r with
  |nil=>
   intro i a B G _;refine Ei ?_;rw[A5];unfold IO;simp only[QY B G,Vl,XH];exact Qa _
  |cons p r y=>
   intro i a B G s;obtain⟨e,t⟩:=Qw (by omega) B;have L:=e.lt';have O:=Jk e.mem;by_cases q:256<a.length
   .rw[kC _ q];refine Ei ?_;unfold IO;simp only[e.lt,Vk,YA (show¬(a.length:Int)<=256 by omega),XH,Vl];exact Qa _
   obtain⟨w1,w2⟩:=Yw (R p e.mem);have g:=J p e.mem;rw[S2]at g;have w:=qL p;rw[A5];refine Eu ?_ (y (i+1) _ t (by omega) (by
    have:=bV (p.Laps.toNat+(bif 0<p.Laps then 0 else 1)) a (Ci p);omega))
   unfold IO;simp only[e.lt,Vk,Yb (show(a.length:Int)<=256 by omega),XH,e.ix,e.nx];cases H:(p.Laps==0)with
   |true=>
    have Q:p.Laps=0:=by simpa using H
    simp only[Vk];refine Ea (Jh (Wm a [p.Mat] (by simp;omega)) (Qa _)) ((Qa _).eq ?_);rw[LK,Q];simp[BW,q]
   |false=>
    rw[H]at g;simp only[Vl,XU,Az,Vm]at g;have d:0<p.Laps/\p.Laps<=64:=⟨by omega,by omega⟩;simp only[Vl];rw[Y2]at O;refine Ea (Ea (N (AX p.Parts) (by omega) p.Parts (XR _) (by omega) w1 w2 g.2.2.2) (Ea ?_ (Qa _))) (Qa _);have E:=LK p;rw[Yb d.1,Vk]at E;have:=(inner p i e a (A5 [] p.Parts) d (by rw[<- E];rw[Y2]at w;omega) 0 p.Laps.toNat a (by omega) (by omega)).ev;rw[<- E]at this⊢;rw[Yb d.1];exact this
 exact Ea (loop l 0 [] rfl (XS _) (by simp)).ev (Qa _)
def AT(c:AE)(m:Int):Int:=((c.Mats[m.toNat]?).map (·.Kind)).getD 0
def Al(c:AE)(a b:Int):Bool:=c.Legs.any λl=>(l.From==a)&&(l.To==b)
def CG(c:AE)(len:Nat):Nat->Int->AA Int->Bool
 |_,_,[]=>true
 |i,prev,m::r=>((AT c m==1)==decide (i=0))&&(((AT c m==3)==decide (i+1=len))&&((decide (i=0)||Al c prev m)&&CG c len (i+1) m r))
def Dt(c:AE)(d:Distance)(r:AA Int):Bool:=
 (decide (2<=r.length)&&decide (r.length<=256))&&(CG c r.length 0 0 r&&((bif 0<=d.Extra then !((r.count d.Extra:Int)==0)&&((AT c d.Extra==2)&&Al c d.Extra d.Extra)else true)&&d.Cutoffs.all λx=>decide (x.Lap<=(r.count x.Mat:Int))))
def BQ(c:AE)(d:Distance):Bool:=Dt c d (A5 [] d.Route)
def CO(l:AA Int):AA (Int×Int):=l.foldl (λm k=>QR m k (QH m k 0+1)) []
theorem xG(l:AA Int)(k:Int):CO (l++[k])=QR (CO l) k (QH (CO l) k 0+1):=by unfold CO;simp
theorem ka(l:AA Int)(k:Int):QH (CO l) k 0=(l.count k:Int):=by
 have a:∀(l:AA Int) (m:AA (Int×Int)),QH (l.foldl (λm k=>QR m k (QH m k 0+1)) m) k 0=QH m k 0+l.count k:=by
  intro l
  induction l with
  |nil=>simp
  |cons x l d=>
   grind[rz]
 grind[CO,yF]
theorem yd(d:Int):∀(m:Nat) (l:AA AF) (a:AA Int),AX l<=m->Au d l=true->(∀x∈a,0<=x/\x<=d)->∀x∈A5 a l,0<=x/\x<=d:=by
 intro m
 induction m using Nat.strongRecOn with
 |_ m t=>
 intro l;have j:∀(k:Nat) (a e:AA Int),(∀x∈a,0<=x/\x<=d)->(∀x∈e,0<=x/\x<=d)->∀x∈BW k a e,0<=x/\x<=d:=by
  intro k
  induction k with
  |zero=>intro a e w _;exact w
  |succ k y=>
   grind[BW]
 have u:∀(r:AA AF) (a:AA Int),AX r<=m->Au d r=true->(∀x∈a,0<=x/\x<=d)->∀x∈A5 a r,0<=x/\x<=d:=by
  intro r
  induction r with
  |nil=>intro a _ _ h;exact h
  |cons p r i=>
   intro a z n h;rw[AX,Y2]at z;rw[Au,XU]at n;obtain⟨f,s⟩:=n;refine i _ (by omega) s (j _ _ _ h ?_);rw[LK];rw[S2]at f;cases g:(p.Laps==0)with
   |true=>
    have e0:=by simpa using g
    rw[g,Vk,XU]at f;have:=f.1;unfold Az at this;simp[XU,Vm]at this;rw[e0];intro x q;simp at q;subst q;exact this
   |false=>
    rw[g]at f;simp[Vl,XU,Az,Vm]at f;rw[Yb (show 0<p.Laps by omega),Vk];exact t (AX p.Parts) (by omega) p.Parts [] (XR _) f.2.2.2 (by simp)
 grind
theorem Wi{c:AE}{m:Int}(h0:0<=m)(d:m<=(c.Mats.length:Int)-1):∃x:Mat,AJ c.Mats m=some x/\x.Kind=AT c m:=by
 obtain⟨k,rfl⟩:∃k:Nat,m=k:=⟨m.toNat,by omega⟩;have a:k<c.Mats.length:=by omega
 simp_all[Yi,AT]
theorem qO(c:AE)(a b:Int):QH (Yu Ak true c.Legs) {from_:=a,to_:=b} false=Al c a b:=by
 rw[lX];by_cases h:{from_:=a,to_:=b}∈c.Legs.map Ak
 .rw[Vp h];obtain⟨l,d,e⟩:=Xf.1 h;obtain⟨f,g⟩:=K2.1 e;exact(Xu.2 ⟨l,d,by simp[f,g]⟩).symm
 .rw[Vn h]
  symm
  rw[VI];intro q;obtain⟨l,d,e⟩:=Xu.1 q;simp[XU,Vu]at e
  grind[Ak]
theorem nZ(c:AE)(w:Ae c)(a b:Int):∃v:Int,Ev (λn=>HL n c a b) v/\decide (v<0)= !Al c a b:=by
 have q:c.Legs.length<=4611686018427387904:=by have:=w.legs;omega
 have step:∀i x,At c.Legs i x->Ev (λn=>Im n c a b i) (bif (x.From==a)&&(x.To==b)then .d (.d i)else .k (i+1)):=by
  intro i x e;unfold Im;simp only[e.lt,e.ix,e.nx];refine Ea (Eh λ_=>Qa _) ?_
  grind[Qa]
 have loop:∀(r:AA BE) (i:Nat),c.Legs.drop i=r->i<=c.Legs.length->∃d:AG Unit Int,BH (λn=>Im n c a b) i d/\((r.any λl=>(l.From==a)&&(l.To==b))=true->∃j:Nat,d=.d j)/\((r.any λl=>(l.From==a)&&(l.To==b))=false->d=.k ()):=by
  intro r
  induction r with
  |nil=>
   intro i m u;refine⟨.k (),Ei ?_,λh=>(by simp at h),λ_=>rfl⟩
   grind[Im,QY,Qa]
  |cons x r t=>
   intro i m u;obtain⟨e,k⟩:=Qw q m;have s:=step i x e;rw[List.any_cons];cases h:((x.From==a)&&(x.To==b))with
   |true=>
    rw[h]at s;exact⟨.d i,Ei s,λ_=>⟨i,rfl⟩,λh=>by simp at h⟩
   |false=>
    rw[h]at s;obtain⟨d,f,g⟩:=t (i+1) k (by have:=e.lt';omega);exact⟨d,Eu s f,by simpa using g⟩
 obtain⟨d,f,g,p⟩:=loop c.Legs 0 rfl (XS _);unfold Al;cases h:c.Legs.any λl=>(l.From==a)&&(l.To==b)with
 |true=>
  obtain⟨j,rfl⟩:=g h;exact⟨j,Ea f.ev (Qa _),by simp⟩
 |false=>
  obtain rfl:=p h;exact⟨-1,Ea f.ev (Qa _),by simp⟩
theorem pZ(l:AA Int)(k:Int)(hl:l.length<=1048576):Ev (λn=>I2 n l k) (l.count k:Int):=by
 have loop:∀(r:AA Int) (i:Nat) (a:Nat),l.drop i=r->i<=l.length->a<=i->BH (λn=>IZ n l k) (a,i) (a+r.count k):=by
  intro r
  induction r with
  |nil=>
   grind[BH.done,IZ,QY,Qa]
  |cons x r f=>
   intro i a j q m;obtain⟨d,e⟩:=Qw (by omega) j;have g:=d.lt';have p:i64.wrap (a+1)=a+1:=Ya (by omega);rw[List.count_cons];cases h:(x==k)with
   |true=>
    refine(Eu ?_ (f (i+1) (a+1) e (by omega) (by omega))).eq ?_
    .unfold IZ;simp only[d.lt,d.ix,XH,d.nx,h,p];exact Qa _
    grind
   |false=>
    refine(Eu ?_ (f (i+1) a e (by omega) (by omega))).eq ?_
    .unfold IZ;simp only[d.lt,d.ix,XH,d.nx,h];exact Qa _
    .simp
 exact Ea ((loop l 0 0 rfl (XS _) (XR _)).ev) ((Qa _).eq (by omega))
structure Dr (c:AE):Prop where
 kinds:∀m∈c.Mats,1<=m.Kind/\m.Kind<=3
 dist:∀d∈c.Distances,-1<=d.Extra/\d.Extra<=(c.Mats.length:Int)-1/\Au ((c.Mats.length:Int)-1) d.Route=true
theorem pc{c:AE}(h:Aq c=true):Dr c:=by
 unfold Aq at h;simp[XU,Xt]at h;refine⟨λm a=>?_,λd e=>?_⟩
 .grind[Az]
 simp_all[CJ,Az]
theorem yD{c:AE}(q:Dr c){m:Int}(h0:0<=m)(f:m<=(c.Mats.length:Int)-1):1<=AT c m/\AT c m<=3:=by
 obtain⟨x,a,d⟩:=Wi h0 f;have:=by
  obtain⟨_,e⟩:=G8 a;exact VD e
 rw[<- d];exact q.kinds x this
theorem ng{c:AE}(q:Dr c){d:Distance}(hd:d∈c.Distances):∀x∈A5 [] d.Route,0<=x/\x<=(c.Mats.length:Int)-1:=
 yd _ _ d.Route [] (XR _) (q.dist d hd).2.2 (by simp)
theorem qB(c:AE)(len i:Nat)(prev m:Int)(r:AA Int):CG c len i prev (m::r)=(((AT c m==1)==decide (i=0))&&(((AT c m==3)==decide (i+1=len))&&((decide (i=0)||Al c prev m)&&CG c len (i+1) m r))):=rfl
theorem om(i:Nat):((i:Int)==0)=decide (i=0):=by
 grind
theorem Qha(c:AE)(r:AA Int)(O:2<=r.length)(R:r.length<=256)(Q:∀x∈r,0<=x/\x<=(c.Mats.length:Int)-1):
  Ev (λn=>iter (HH n c (Yu Ak true c.Legs) r) n ([],0)) (bif CG c r.length 0 0 r then .k (CO r)else .d false):=by
 have loop:∀(t:AA Int) (i:Nat) (d:Int),r.drop i=t->i<=r.length->(0<i->At r (i-1) d)->BH (λn=>HH n c (Yu Ak true c.Legs) r) (CO (r.take i),(i:Int)) (bif CG c r.length i d t then .k (CO r)else .d false):=by
  intro t
  induction t with
  |nil=>
   intro i d p s _;refine Ei ?_;unfold HH;simp only[QY p s,Vl,CG,Vk]
   simp_all[VE,Qa]
  |cons m t B=>
   intro i d p s E;obtain⟨e,q⟩:=Qw (by omega) p;have z:=e.lt';obtain⟨L,M⟩:=Q m e.mem;obtain⟨x,F,G⟩:=Wi L M;have J:i64.wrap ((r.length:Int)-1)=((r.length-1:Nat):Int):=by rw[Q4 (by omega) (by omega)];omega
   have H:((i:Int)==((r.length-1:Nat):Int))=decide (i+1=r.length):=by grind
   have N:Ev (λn:Nat=>((bif ((x.Kind==1) != ((i:Int)==0))then some true else(bif ((x.Kind==3) != ((i:Int)==(i64.wrap ((r.length:Int)-1))))then some true else(bif 0<(i:Int) then(AJ r (i64.wrap ((i:Int)-1))).bind λg=>(some (QH (Yu Ak true c.Legs) ({from_:=g,to_:=m:Uh}) false)).bind λk=>some (!k)else some false))):AB Bool))
     (!(((AT c m==1)==decide (i=0))&&(((AT c m==3)==decide (i+1=r.length))&&(decide (i=0)||Al c d m)))):=by
    rw[G,J,H,om];refine Et (Er λ_=>Er λ_=>KP (v:= !Al c d m) (w:=false) (λh=>?_) λ_=>Qa _) ?_
    .have j:0<i:=by simpa using h
     have y:i64.wrap ((i:Int)-1)=((i-1:Nat):Int):=by rw[Q4 (by omega) (by omega)];omega
     rw[y,(E j).ix];simp only[XH,qO];exact Qa _
    grind
   have f:i64.wrap (QH (CO (r.take i)) m 0+1)=QH (CO (r.take i)) m 0+1:=by
    rw[ka];have:(r.take i).count m<=i:=by have:=List.count_le_length (a:=m) (l:=r.take i);simp at this;omega
    exact Q4 (by omega) (by omega)
   have step:Ev (λn=>HH n c (Yu Ak true c.Legs) r (CO (r.take i),(i:Int))) (bif ((AT c m==1)==decide (i=0))&&(((AT c m==3)==decide (i+1=r.length))&&(decide (i=0)||Al c d m))then .k (CO (r.take (i+1)),((i+1:Nat):Int))else .d (.d false)):=by
    unfold HH;simp only[e.lt,Vk,e.ix,XH,e.nx,F];refine Ea N ?_;rw[f, <- xG, <- e.take];cases(((AT c m==1)==decide (i=0))&&(((AT c m==3)==decide (i+1=r.length))&&(decide (i=0)||Al c d m)))<;>exact Qa _
   have P:CG c r.length i d (m::t)=((((AT c m==1)==decide (i=0))&&(((AT c m==3)==decide (i+1=r.length))&&(decide (i=0)||Al c d m)))&&CG c r.length (i+1) m t):=by rw[qB];simp only[Bool.and_assoc]
   rw[P];cases u:(((AT c m==1)==decide (i=0))&&(((AT c m==3)==decide (i+1=r.length))&&(decide (i=0)||Al c d m)))with
   |false=>
    rw[u]at step;exact Ei step
   |true=>
    rw[u]at step;rw[Vw];exact Eu step (B (i+1) m q (by omega) (λ_=>by simpa using e))
 exact(loop r 0 0 rfl (XS _) (by omega)).ev
theorem y_(c:AE)(w:Ae c)(q:Dr c)(d:Distance)(e:d∈c.Distances)(t:∀x∈d.Route,AF.wf x)(u:AX d.Route<=256):
  Ev (λn=>MQ n c d (Yu Ak true c.Legs)) (BQ c d):=by
 have k:=PD d.Route;have j:=ng q e;have a:=kD _ d.Route [] (XR _);unfold MQ BQ;refine Ea (yQ _ _ d.Route (XR _) u (by omega) t (q.dist d e).2.2) ?_;generalize A5 [] d.Route=r at j a⊢;unfold Dt;have e3:=by
  have:r.length<=1048576:=by simp at a;omega
  exact PE this
 rw[e3];have m:(decide ((r.length:Int)-1<1)||decide (256<=(r.length:Int)-1))= !(decide (2<=r.length)&&decide (r.length<=256)):=by
  grind
 refine Ea (Et (Er λ_=>Qa _) m) ?_;cases i:(decide (2<=r.length)&&decide (r.length<=256))with
 |false=>exact Qa _
 |true=>
  simp[XU,Vm]at i;refine Yc (Ea (Qha c r i.1 i.2 j) ?_);cases CG c r.length 0 0 r with
  |false=>exact Qa _
  |true=>
   have y:Ev (λn=>(bif 0<=d.Extra then(some (QH (CO r) d.Extra 0)).bind λh=>(bif (h==0)then some true else(AJ c.Mats d.Extra).bind λf=>(bif (f.Kind != 2)then some true else(some (QH (Yu Ak true c.Legs) ({from_:=d.Extra,to_:=d.Extra:Uh}) false)).bind λg=>some (!g)))else some false))
     (!(bif 0<=d.Extra then !((r.count d.Extra:Int)==0)&&((AT c d.Extra==2)&&Al c d.Extra d.Extra)else true)):=by
    rw[ka];cases l:decide (0<=d.Extra)with
    |false=>exact Qa _
    |true=>
     obtain⟨x,p,s⟩:=Wi (by simpa using l) (q.dist d e).2.1;simp only[XH,p,qO,s];refine Et (Er λ_=>Er λ_=>Qa _) ?_;rw[bne];cases((r.count d.Extra:Int)==0)<;>cases(AT c d.Extra==2)<;>cases Al c d.Extra d.Extra<;>rfl
   refine Ea y ?_;cases(bif 0<=d.Extra then !((r.count d.Extra:Int)==0)&&((AT c d.Extra==2)&&Al c d.Extra d.Extra)else true)with
   |false=>exact Qa _
   |true=>
    refine Yc (Ea ?_ (Qa _));refine JK d.Cutoffs _ (λn x=>Ma n x (CO r)) (by have:=w.cut d e;omega) λx _=>?_;unfold Ma;rw[ka];exact Qa _
theorem QgA(c:AE)(w:Ae c)(q:Dr c)(r:AA Int)(Q:2<=r.length)(X:r.length<=256)(V:∀x∈r,0<=x/\x<=(c.Mats.length:Int)-1):
  Ev (λn=>iter (HF n c r) n 0) (bif CG c r.length 0 0 r then .k ()else .d false):=by
 have loop:∀(t:AA Int) (i:Nat) (a:Int),r.drop i=t->i<=r.length->(0<i->At r (i-1) a)->BH (λn=>HF n c r) (i:Int) (bif CG c r.length i a t then .k ()else .d false):=by
  intro t
  induction t with
  |nil=>
   intro i a p u _;refine Ei ?_;unfold HF;simp only[QY p u,Vl,CG,Vk];exact Qa _
  |cons m t H=>
   intro i a p u J;obtain⟨f,s⟩:=Qw (by omega) p;have F:=f.lt';obtain⟨y,z⟩:=V m f.mem;obtain⟨x,L,M⟩:=Wi y z;have W:=yD q y z;have P:i64.wrap ((r.length:Int)-1)=((r.length-1:Nat):Int):=by rw[Q4 (by omega) (by omega)];omega
   have O:((i:Int)==((r.length-1:Nat):Int))=decide (i+1=r.length):=by grind
   have step:Ev (λn=>HF n c r (i:Int)) (bif ((AT c m==1)==decide (i=0))&&(((AT c m==3)==decide (i+1=r.length))&&(decide (i=0)||Al c a m))then .k ((i+1:Nat):Int)else .d (.d false)):=by
    unfold HF;simp only[f.lt,Vk,f.ix,XH,f.nx,L,M,P,O,om];refine Ea (v:=if i=0 then 1 else if i+1=r.length then 3 else 2) (EA ?_) ?_
    .by_cases e:i=0
     .simp[e]
     .by_cases h:i+1=r.length
      iterate 2 simp[e,h]
    refine Ea (v:= !(((AT c m==1)==decide (i=0))&&(((AT c m==3)==decide (i+1=r.length))&&(decide (i=0)||Al c a m)))) ?_ ?_
    .have G:Ev (λn:Nat=>(bif 0<(i:Int) then(AJ r (i64.wrap ((i:Int)-1))).bind λl=>(HL n c l m).bind λj=>some (decide (j<0))else some false:AB Bool)) (!(decide (i=0)||Al c a m)):=by
      by_cases e:i=0
      .subst e;exact Qa _
      .have E:i64.wrap ((i:Int)-1)=((i-1:Nat):Int):=by rw[Q4 (by omega) (by omega)];omega
       obtain⟨v,N,T⟩:=nZ c w a m;rw[Yb (show(0:Int)<(i:Int)by omega),E,(J (by omega)).ix,YA e];exact Ea N ((Qa _).eq (by rw[T];rfl))
     refine Et (Er λ_=>G) ?_;have k:(AT c m != if i=0 then 1 else if i+1=r.length then 3 else 2)= !(((AT c m==1)==decide (i=0))&&((AT c m==3)==decide (i+1=r.length))):=by
      have d:AT c m=1\/AT c m=2\/AT c m=3:=by omega
      by_cases e:i=0
      .rcases d with g|g|g<;>simp[g,e,show¬1=r.length by omega]
      .by_cases h:i+1=r.length
       .rcases d with g|g|g<;>simp[g,e,h]
       .rcases d with g|g|g<;>simp[g,e,h]
     rw[k];cases((AT c m==1)==decide (i=0))<;>cases((AT c m==3)==decide (i+1=r.length))<;>cases(decide (i=0)||Al c a m)<;>rfl
    grind[Qa]
   have R:CG c r.length i a (m::t)=((((AT c m==1)==decide (i=0))&&(((AT c m==3)==decide (i+1=r.length))&&(decide (i=0)||Al c a m)))&&CG c r.length (i+1) m t):=by rw[qB];simp only[Bool.and_assoc]
   rw[R];cases B:(((AT c m==1)==decide (i=0))&&(((AT c m==3)==decide (i+1=r.length))&&(decide (i=0)||Al c a m)))with
   |false=>
    rw[B]at step;exact Ei step
   |true=>
    rw[B]at step;rw[Vw];exact Eu step (H (i+1) m s (by omega) (λ_=>by simpa using f))
 exact(loop r 0 0 rfl (XS _) (by omega)).ev
theorem zV(c:AE)(w:Ae c)(q:Dr c)(d:Distance)(a:d∈c.Distances)(H:∀x∈d.Route,AF.wf x)(y:AX d.Route<=256):
  Ev (λn=>MV n c d) (BQ c d):=by
 have p:=PD d.Route;have m:=ng q a;have j:=kD _ d.Route [] (XR _);unfold MV BQ;refine Ea (QiO _ _ d.Route (XR _) y (by omega) H (q.dist d a).2.2) ?_;generalize A5 [] d.Route=r at m j⊢;unfold Dt;have E:(decide ((r.length:Int)<2)||decide (256<(r.length:Int)))= !(decide (2<=r.length)&&decide (r.length<=256)):=by
  grind
 refine Ea (Et (Er λ_=>Qa _) E) ?_;cases g:(decide (2<=r.length)&&decide (r.length<=256))with
 |false=>exact Qa _
 |true=>
  simp only[XU,Vm]at g;refine Yc (Ea (QgA c w q r g.1 g.2 m) ?_);cases CG c r.length 0 0 r with
  |false=>exact Qa _
  |true=>
   have z:Ev (λn:Nat=>(bif (d.Extra != (-1))then(AJ c.Mats d.Extra).bind λl=>(bif (l.Kind != 2)then some true else(I2 n r d.Extra).bind λh=>(bif (h==0)then some true else(HL n c d.Extra d.Extra).bind λf=>some (decide (f<0))))else some false))
     (!(bif 0<=d.Extra then !((r.count d.Extra:Int)==0)&&((AT c d.Extra==2)&&Al c d.Extra d.Extra)else true)):=by
    have e:=q.dist d a;have F:(d.Extra != (-1))=decide (0<=d.Extra):=by rw[XW];simp;omega
    rw[F];cases s:decide (0<=d.Extra)with
    |false=>exact Qa _
    |true=>
     obtain⟨x,t,u⟩:=Wi (by simpa using s) e.2.1;obtain⟨v,B,G⟩:=nZ c w d.Extra d.Extra;simp only[XH,t,u];refine Et (Er λ_=>Ea (pZ r _ (by omega)) (Er λ_=>Ea B (Qa _))) ?_;rw[bne,G];cases((r.count d.Extra:Int)==0)<;>cases(AT c d.Extra==2)<;>cases Al c d.Extra d.Extra<;>rfl
   refine Ea z ?_;cases(bif 0<=d.Extra then !((r.count d.Extra:Int)==0)&&((AT c d.Extra==2)&&Al c d.Extra d.Extra)else true)with
   |false=>exact Qa _
   |true=>
    refine Yc (Ea (Y9 d.Cutoffs (λx=>decide (x.Lap<=r.count x.Mat)) (AG.d false) (AG.k ()) (by have:=w.cut d a;omega) (λi x k=>?_) ?_) ?_)
    .unfold Pp;simp only[k.lt,k.ix,XH,k.nx];refine Ea (pZ r _ (by omega)) ?_;have:decide (r.count x.Mat<x.Lap)= !decide (x.Lap<=r.count x.Mat):=by rw[XW];simp
     rw[this];cases decide (x.Lap<=r.count x.Mat)<;>exact Qa _
    .unfold Pp;simp only[Hl];exact Qa _
    .cases(d.Cutoffs.all λx=>decide (x.Lap<=r.count x.Mat))<;>exact Qa _
theorem Nc{a b:Nat}(h:a+b<=4611686018427387904):i64.wrap ((a:Int)+(b:Int))=((a+b:Nat):Int):=by
 rw[Q4 (by omega) (by omega)];omega
def F3(c:AE):Nat:=c.Mats.length+c.Legs.length+c.Distances.length+c.Waves.length+c.Offences.length+c.Categories.length+c.Prizes.length
def U4(d:Distance):Prop:=d.Cutoffs.length<=200/\AX d.Route<=200/\DG d.Route<=16
structure DU (c:AE):Prop where
 lens:F3 c<=200
 name:c.Name.length<=100
 dist:∀d∈c.Distances,U4 d
 ties:c.Ties.length<=200
theorem z9(c:AE)(w:Ae c)(q:BX c)(hl:c.Ties.length<=1048576)(hw:∀x∈c.Ties,Step.wf x):∃b,Ev (λn=>HK n c) b/\(b=true->DU c):=by
 have hm:=w.mats;have hg:=w.legs;have hd:=w.dist;have G:=w.wave;have ho:=w.off;have hc:=w.cat;have hp:=w.prize;have loop:∀(t:AA Distance) (i s:Nat),c.Distances.drop i=t->i<=c.Distances.length->∃f:AG Int Bool,BH (λn=>HA n c) ((s:Int),(i:Int)) f/\(f=.d false\/ ∃v:Nat,f=.k (v:Int)/\(v<=200->s<=v/\ ∀d∈t,U4 d)):=by
  intro t
  induction t with
  |nil=>
   intro i s B F;refine⟨.k (s:Int),Ei ?_,Or.inr ⟨s,rfl,λ_=>⟨XR _,by simp⟩⟩⟩;unfold HA;simp only[QY B F,Vl,XH];exact Qa _
  |cons d t N=>
   intro i s B F;obtain⟨g,E⟩:=Qw (by omega) B;have L:=g.lt';by_cases Y:s<=200
   .have j:=q.len d g.mem;have l:=q.wf d g.mem;have J:=w.cut d g.mem;have u:=sQ _ d.Route (XR _) j l;have H:=sR _ d.Route 17 (XR _) (XR _) j l;have O:i64.wrap ((s:Int)+(d.Cutoffs.length:Int))=((s+d.Cutoffs.length:Nat):Int):=Nc (by omega);have P:i64.wrap (((s+d.Cutoffs.length:Nat):Int)+((min (AX d.Route) 257:Nat):Int))=((s+d.Cutoffs.length+min (AX d.Route) 257:Nat):Int):=Nc (by omega);have step:Ev (λn=>HA n c ((s:Int),(i:Int))) (bif (16:Int)<((min (DG d.Route) 17:Nat):Int) then .d (.d false)else .k (((s+d.Cutoffs.length+min (AX d.Route) 257:Nat):Int),((i+1:Nat):Int))):=by
     unfold HA;simp only[g.lt,Vk,g.ix,XH,g.nx,Yb (show(s:Int)<=200 by omega)];refine Ea u (Ea H ?_);rw[O,P];cases decide ((16:Int)<((min (DG d.Route) 17:Nat):Int))<;>exact Qa _
    by_cases T:DG d.Route<=16
    .rw[YA (show¬(16:Int)<((min (DG d.Route) 17:Nat):Int)by omega)]at step;obtain⟨f,p,k⟩:=N (i+1) (s+d.Cutoffs.length+min (AX d.Route) 257) E (by omega);refine⟨f,Eu step p,?_⟩;rcases k with k|⟨v,k,y⟩
     .exact Or.inl k
     .refine Or.inr ⟨v,k,λG=>?_⟩;obtain⟨k4,z⟩:=y G;refine⟨by omega,λx r=>?_⟩;rcases X3.1 r with rfl|r
      .exact⟨by omega,by omega,T⟩
      .exact z x r
    .rw[Yb (show(16:Int)<((min (DG d.Route) 17:Nat):Int)by omega)]at step;exact⟨.d false,Ei step,Or.inl rfl⟩
   .refine⟨.k (s:Int),Ei ?_,Or.inr ⟨s,rfl,λh=>absurd h Y⟩⟩;unfold HA;simp only[g.lt,Vk,YA (show¬(s:Int)<=200 by omega),XH,Vl];exact Qa _
 obtain⟨f,p,k⟩:=loop c.Distances 0 (F3 c) rfl (XS _);have e:i64.wrap ((i64.wrap ((i64.wrap ((i64.wrap ((i64.wrap ((i64.wrap ((c.Mats.length:Int)+(c.Legs.length:Int)))+(c.Distances.length:Int)))+(c.Waves.length:Int)))+(c.Offences.length:Int)))+(c.Categories.length:Int)))+(c.Prizes.length:Int))=(F3 c:Int):=by
  have W:c.Mats.length+c.Legs.length<=4611686018427387904:=by omega
  have Q:c.Mats.length+c.Legs.length+c.Distances.length<=4611686018427387904:=by omega
  have V:c.Mats.length+c.Legs.length+c.Distances.length+c.Waves.length<=4611686018427387904:=by omega
  have R:c.Mats.length+c.Legs.length+c.Distances.length+c.Waves.length+c.Offences.length<=4611686018427387904:=by omega
  have X:c.Mats.length+c.Legs.length+c.Distances.length+c.Waves.length+c.Offences.length+c.Categories.length<=4611686018427387904:=by omega
  have M:c.Mats.length+c.Legs.length+c.Distances.length+c.Waves.length+c.Offences.length+c.Categories.length+c.Prizes.length<=4611686018427387904:=by omega
  rw[Nc W,Nc Q,Nc V,Nc R,Nc X,Nc M];rfl
 unfold HK;rw[e];rcases k with rfl|⟨v,rfl,y⟩
 .exact⟨false,Ea p.ev (Qa _),λh=>by cases h⟩
 .obtain⟨a,b,u,H,p3,_,_,_,_⟩:=oR _ c.Ties 0 (XR _) (by omega) hl hw;have m:Ev (λn=>MF n c.Ties) (decide ((c.Ties.length:Int)<=20)&&(decide (a<=80)&&decide (b<=300))):=by
   unfold MF;exact Ea u (Ea (Eh λ_=>Eh λ_=>Qa _) (Qa _))
  refine⟨decide ((v:Int)<=200)&&(decide ((c.Name.length:Int)<=100)&&(decide ((c.Ties.length:Int)<=20)&&(decide (a<=80)&&decide (b<=300)))),Ea p.ev (Ea (Eh λ_=>Eh λ_=>Ea m (Qa _)) (Qa _)),λh=>?_⟩;simp only[XU,Vm]at h;obtain⟨k4,z⟩:=y (by omega);exact⟨by omega,by omega,z,by omega⟩
def CA(c:AE):Bool:=
 !(decide (40<(c.Mats.length:Int))||(decide (512<(c.Legs.length:Int))||(decide (8<(c.Distances.length:Int))||(decide (32<(c.Waves.length:Int))||(decide (32<(c.Offences.length:Int))||(decide (32<(c.Categories.length:Int))||decide (32<(c.Prizes.length:Int))))))))
  &&c.Distances.all λd=> !decide (64<(d.Cutoffs.length:Int))
theorem uU(c:AE)(w:Ae c)(q:BX c)(k:DU c):Ev (λn=>L9 n c) (CA c):=by
 unfold L9 CA;refine Ea (Er λ_=>Er λ_=>Er λ_=>Er λ_=>Er λ_=>Er λ_=>Qa _) ?_;cases(decide (40<(c.Mats.length:Int))||(decide (512<(c.Legs.length:Int))||(decide (8<(c.Distances.length:Int))||(decide (32<(c.Waves.length:Int))||(decide (32<(c.Offences.length:Int))||(decide (32<(c.Categories.length:Int))||decide (32<(c.Prizes.length:Int))))))))with
 |true=>exact Qa _
 |false=>
  refine Yc (Ea (Y9 c.Distances (λd=> !decide (64<(d.Cutoffs.length:Int))) (AG.d false) (AG.k ()) (by have:=w.dist;omega) (λi x a=>?_) ?_) ?_)
  .obtain⟨f,e,g⟩:=k.dist x a.mem;unfold PW;simp only[a.lt,a.ix,XH,a.nx];refine Ea (wW _ x.Route 17 (XR _) (by omega) (XR _) (by omega) (q.wf x a.mem)) ?_
   grind[Qa]
  .simp_all[PW,Qa]
  .cases(c.Distances.all λd=> !decide (64<(d.Cutoffs.length:Int)))<;>exact Qa _
theorem yP(c:AE)(w:Ae c)(q:BX c)(k:DU c):Ev (λn=>MX n c) (CA c):=by
 unfold MX CA;refine Ea (Er λ_=>Er λ_=>Er λ_=>Er λ_=>Er λ_=>Er λ_=>Qa _) ?_;cases(decide (40<(c.Mats.length:Int))||(decide (512<(c.Legs.length:Int))||(decide (8<(c.Distances.length:Int))||(decide (32<(c.Waves.length:Int))||(decide (32<(c.Offences.length:Int))||(decide (32<(c.Categories.length:Int))||decide (32<(c.Prizes.length:Int))))))))with
 |true=>exact Qa _
 |false=>
  refine Yc (Ea (Y9 c.Distances (λd=> !decide (64<(d.Cutoffs.length:Int))) (AG.d false) (AG.k ()) (by have:=w.dist;omega) (λi x e=>?_) ?_) ?_)
  .obtain⟨g,h,j⟩:=k.dist x e.mem;have a:=q.len x e.mem;have f:=q.wf x e.mem;unfold PX;simp only[e.lt,e.ix,XH,e.nx];refine Ea (Er λ_=>Ea (sR _ x.Route 17 (XR _) (XR _) a f) (Er λ_=>Ea (sQ _ x.Route (XR _) a f) (Qa _))) ?_
   grind[Qa]
  .simp_all[PX,Qa]
  .cases(c.Distances.all λd=> !decide (64<(d.Cutoffs.length:Int)))<;>exact Qa _
def AV(c:AE):Int:=
 bif CA c then bif CM c then bif Aq c then bif CV c.Ties==0 then bif c.Distances.all (BQ c)then 0 else 72 else CV c.Ties else 71 else 70 else 2
theorem yO(c:AE)(w:Ae c)(q:BX c)(k:DU c)(hl:c.Ties.length<=1048576)(e:∀x∈c.Ties,Step.wf x):Ev (λn=>Hu n c) (AV c):=by
 unfold Hu AV;refine Ea (uU c w q k) ?_;cases CA c with
 |false=>exact Qa _
 |true=>
 refine Yc (Ea (wg c w) ?_);cases CM c with
 |false=>exact Qa _
 |true=>
 refine Yc (Ea (zB c w q) ?_);cases f:Aq c with
 |false=>exact Qa _
 |true=>
 refine Yc (Ea (uS c.Ties hl e) ?_);rw[bne];cases(CV c.Ties==0)with
 |false=>exact Qa _
 |true=>
 have g:Ev (λn=>iter (Ls n c) n ([],0)) (Yu Ak true c.Legs):=by
  refine lj c.Legs Ak true (by have:=w.legs;omega) (λi x m a=>?_) (λm=>?_)
  .unfold Ls;simp only[a.lt,a.ix,a.nx];exact Qa _
  simp_all[Ls,Qa]
 refine Yc (Ea g ?_);have a:Ev (λn=>Rd n c.Distances c (Yu Ak true c.Legs)) (c.Distances.all (BQ c)):=by
  refine JK c.Distances _ (λn x=>RM n x c (Yu Ak true c.Legs)) (by have:=w.dist;omega) λx d=>?_;exact Ea (y_ c w (pc f) x d (q.wf x d) (by have:=(k.dist x d).2.1;omega)) (Qa _)
 refine Ea a ?_
 grind[Qa]
theorem QiR(c:AE)(w:Ae c)(q:BX c)(k:DU c)(hl:c.Ties.length<=1048576)(e:∀x∈c.Ties,Step.wf x):Ev (λn=>IH n c) (AV c):=by
 have a:=k.lens;unfold F3 at a;have g:NS c:=⟨by omega,by omega,by omega,by omega,by omega⟩;unfold IH AV;refine Ea (yP c w q k) ?_;cases CA c with
 |false=>exact Qa _
 |true=>
 refine Yc (Ea (zT c w g) ?_);cases CM c with
 |false=>exact Qa _
 |true=>
 refine Yc (Ea (QiM c w q) ?_);cases f:Aq c with
 |false=>exact Qa _
 |true=>
 refine Yc (Ea (zL c.Ties hl e) ?_);rw[bne];cases(CV c.Ties==0)with
 |false=>exact Qa _
 |true=>
 refine Yc (Ea (Y9 c.Distances (BQ c) (AG.d 72) (AG.k ()) (by omega) (λi x d=>?_) ?_) ?_)
 .unfold Ph;simp only[d.lt,d.ix,XH,d.nx];refine Ea (zV c w (pc f) x d.mem (q.wf x d.mem) (by have:=(k.dist x d.mem).2.1;omega)) ?_;cases BQ c x<;>exact Qa _
 .simp_all[Ph,Qa]
 grind[Qa]
theorem lI{α:Type}{lt:α->α->Prop}(d:∀a b,lt a b->¬lt b a):∀{l m:AA α},l.Pairwise lt->m.Pairwise lt->(∀x,x∈l↔x∈m)->l=m:=by
 intro l
 induction l with
 |nil=>
  intro m _ _ h;cases m with
  |nil=>rfl
  |cons y m=>exact absurd ((h y).2 (by simp)) (by simp)
 |cons x l i=>
  intro m e f h;cases m with
  |nil=>grind
  |cons y m=>
   obtain⟨j,g⟩:=Xc.1 e;obtain⟨k,n⟩:=Xc.1 f
   grind
theorem lW:∀(l:AA Int) (p:Int),(∀x∈l,p<=x)->l.Pairwise (· <= ·)->(IF p l).Pairwise (· < ·)/\(∀x∈IF p l,p<x)/\ ∀x,x∈p::IF p l↔x∈p::l
 |[],p,_,_=>⟨List.Pairwise.nil,by simp[IF],by simp[IF]⟩
 |y::l,p,h,hp=>by
  obtain⟨h1,h2⟩:=Xc.1 hp;unfold IF;by_cases e:y=p
  .subst e;obtain⟨k1,k2,k3⟩:=lW l y h1 h2;rw[beq_self_eq_true,Vk];refine⟨k1,k2,λx=>?_⟩;rw[k3 x];simp
  .have e':(y==p)=false:=by simpa using e
   rw[e',Vl];obtain⟨k1,k2,k3⟩:=lW l y h1 h2;have d:=h y (by simp);refine⟨Xc.2 ⟨k2,k1⟩,λx a=>?_,λx=>?_⟩
   .rcases X3.1 a with rfl|a
    .omega
    .have:=k2 x a;omega
   .rw[X3,k3 x];simp
theorem yu(l:AA Int):(WD (YH B0 l)).Pairwise (· < ·)/\ ∀x,x∈WD (YH B0 l)↔x∈l:=by
 have e:(YH B0 l).Pairwise (· <= ·):=(QV (Sk l)).imp λ{a b} h=>by simp[B0]at h;exact h
 have d:∀x,x∈YH B0 l↔x∈l:=λx=>(Qu B0 l).mem_iff;generalize YH B0 l=m at e d;cases m with
 |nil=>exact⟨List.Pairwise.nil,λx=>by rw[<- d x];rfl⟩
 |cons y m=>
  obtain⟨g,j⟩:=Xc.1 e;obtain⟨f,k,i⟩:=lW m y g j;exact⟨Xc.2 ⟨k,f⟩,λx=>(i x).trans (d x)⟩
theorem oK{α:Type}(l:AA α){a b:Nat}(h:a<=b)(d:b<=l.length):CU l (a:Int) (b:Int)=some ((l.take b).drop a):=by
 grind[CU]
theorem WY{α:Type}(l:AA α){b:Nat}(a:b<=l.length):CU l 0 (b:Int)=some (l.take b):=by
 have:=oK l (XS b) a
 grind
theorem W2{α:Type}(l:AA α){a:Nat}(d:a<=l.length):CU l (a:Int) (l.length:Int)=some (l.drop a):=by
 simp_all[oK]
theorem O8{α:Type}(l m:AA α)(h:l.length+m.length<=4294967296):app l m=some (l++m):=by
 unfold app;rw[XQ (by exact h)];rfl
theorem pg{α:Type}(l:AA α){i:Nat}(x:α)(h:i<l.length):D1 l (i:Int) x=some (l.set i x):=by
 grind[D1]
def A4{α:Type}(q:α->Bool):AA α->Nat->Int
 |[],_=> -1
 |x::l,i=>bif q x then(i:Int)else A4 q l (i+1)
theorem Ev.first{α:Type}{step:Nat->Int->AB (AG Int (AG Unit Int))}(l:AA α)(q:α->Bool)(hl:l.length<=4611686018427387904)
  (k:∀i x,At l i x->Ev (λn=>step n (i:Int)) (bif q x then .d (.d (i:Int))else .k ((i+1:Nat):Int)))(m:Ev (λn=>step n (l.length:Int)) (.d (.k ()))):
  Ev (λn=>(Go.Sw.iter (step n) n 0).bind λb=>match b with|.k _=>some (-1)|.d v=>some v) (A4 q l 0):=by
 have loop:∀(r:AA α) (i:Nat),l.drop i=r->i<=l.length->∃a:AG Unit Int,BH step i a/\(match a with|.k _=>some (-1)|.d v=>some v)=some (A4 q r i):=by
  intro r
  induction r with
  |nil=>
   intro i d j;have:i=l.length:=by have:=Xr.1 d;omega
   subst this;exact⟨.k (),Ei m,rfl⟩
  |cons x r t=>
   intro i d j;obtain⟨f,p⟩:=Qw hl d;have s:=k i x f;unfold A4;cases h:q x with
   |true=>
    rw[h]at s;exact⟨_,Ei s,rfl⟩
   |false=>
    grind[BH.cont]
 obtain⟨a,e,g⟩:=loop l 0 rfl (XS _);exact Ea e.ev (EA g)
theorem sT{α:Type}(q:α->Bool):∀(l:AA α) (i:Nat),(A4 q l i= -1/\l.all (λx=> !q x)=true)\/ ∃j x,A4 q l i=((i+j:Nat):Int)/\l[j]?=some x/\q x=true/\(l.take j).all (λx=> !q x)=true
 |[],_=>.inl ⟨rfl,rfl⟩
 |x::l,i=>by
  unfold A4;cases h:q x with
  |true=>exact .inr ⟨0,x,rfl,rfl,h,rfl⟩
  |false=>
   rcases sT q l (i+1)with⟨h1,h2⟩|⟨j,y,h1,h2,h3,h4⟩
   .grind
   .refine .inr ⟨j+1,y,by grind,h2,h3,by simp[h,h4]⟩
theorem lw{ι α:Type}{F:Nat->ι->AB α}{V:ι->α}:∀(L:AA ι),(∀p∈L,Ev (λn=>F n p) (V p))->∃N,∀n,N<=n->∀p∈L,F n p=some (V p)
 |[],_=>(by simp)
 |x::L,h=>by
  obtain⟨N,hN⟩:=lw L λp hp=>h p (by simp[hp]);obtain⟨M,hM⟩:=h x (by simp);refine⟨N+M,λn hn p hp=>?_⟩
  grind
theorem Ev.anyP{E R:Type}[DecidableEq R]{k:Nat->AA E->AB R}{l:AA E}{r:R}(h:∀p,p.Perm l->Ev (λn=>k n p) r):Ev (λn=>Go.Sw.anyP (k n) l) r:=by
 obtain⟨N,e⟩:=lw (IB l) λp a=>h p (la l p a);exact⟨N,λn d=>j8 λp a=>e n d p (lD l p a)⟩
theorem Ev.isNil{α R:Type}[DecidableEq R]{l:AA α}{x y:Nat->AB R}{v:R}(d:l=[]->Ev x v)(a:Ev y v):Ev (λn=>Go.Sw.isNil l (x n) (y n)) v:=by
 unfold Go.Sw.isNil;cases q:l.isEmpty with
 |false=>exact a
 |true=>
  obtain⟨N,f⟩:=d (List.isEmpty_iff.1 q);obtain⟨M,g⟩:=a;exact⟨N+M,λn e=>by grind⟩
set_option maxRecDepth 4000
def Ah(f:AC):AI:=
 bif f.Kind==1 then .c0 ()else bif f.Kind==2 then .c1 ()else bif f.Kind==3 then .c2 ()else bif f.Kind==4 then .c3 ()else bif f.Kind==5 then .c4 ()else bif f.Kind==6 then .c5 ()
 else bif f.Kind==7 then .c6 ()else bif f.Kind==8 then .c7 ()else bif f.Kind==9 then .c8 ()else bif f.Kind==10 then
  (bif (f.Ruling.Kind==1)||(f.Ruling.Kind==2)then .c9 (0,0,0,0,0,0)else bif f.Ruling.Kind==3 then .c9 (1,9999,0,255,1,1099511627776)else bif f.Ruling.Kind==4 then .c9 (1,9999,0,255,1,64)else .c9 (1,9999,0,255,0,0))
 else bif f.Kind==11 then .c10 ()else bif f.Kind==12 then .c11 ()else bif f.Kind==13 then .c12 ()else .c13 ()
theorem oF(n:Nat)(f:AC)(b:Int):I' n f b=some (Ah f):=by
 unfold I' Ah;cases(f.Kind==1)with
 |true=>rfl
 |false=>
 cases(f.Kind==2)with
 |true=>rfl
 |false=>
 cases(f.Kind==3)with
 |true=>rfl
 |false=>
 cases(f.Kind==4)with
 |true=>rfl
 |false=>
 grind
def FI:AA A6:=[⟨false,3,1,13⟩,⟨false,0,0,31⟩,⟨false,1,1,1048576⟩,⟨false,2,0,1099511627776⟩]
def Dp:AI->AA A6
 |.c0 _=>[⟨false,4,1,9999⟩,⟨false,5,0,7⟩,⟨false,6,0,31⟩,⟨false,7,(-1099511627776),1099511627776⟩,⟨false,8,0,120⟩,⟨false,9,0,1048576⟩,⟨false,10,0,9999⟩,⟨false,11,0,1048576⟩]
 |.c1 _=>[⟨false,12,0,39⟩,⟨false,13,0,255⟩,⟨false,14,0,1048576⟩,⟨false,15,(-1099511627776),1099511627776⟩]
 |.c2 _=>[⟨false,16,0,39⟩,⟨false,17,0,255⟩,⟨false,18,(-1099511627776),1099511627776⟩,⟨false,19,(-1099511627776),1099511627776⟩,⟨false,20,0,1099511627776⟩]
 |.c3 _=>[⟨false,21,0,39⟩,⟨false,22,0,255⟩,⟨false,23,(-1099511627776),1099511627776⟩,⟨false,24,0,39⟩,⟨false,25,0,255⟩,⟨false,26,(-1099511627776),1099511627776⟩,⟨false,27,(-1099511627776),1099511627776⟩,⟨false,28,(-1099511627776),1099511627776⟩]
 |.c4 _=>[⟨false,29,1,9999⟩,⟨false,30,0,255⟩,⟨false,31,(-1099511627776),1099511627776⟩,⟨false,32,(-1099511627776),1099511627776⟩]
 |.c5 _=>[⟨false,33,0,39⟩,⟨false,34,0,255⟩,⟨false,35,(-1099511627776),1099511627776⟩,⟨false,36,(-1099511627776),1099511627776⟩]
 |.c6 _=>[⟨false,37,1,9999⟩,⟨false,38,1,9999⟩]
 |.c7 _=>[⟨false,39,1,1048576⟩,⟨false,40,1,9999⟩,⟨false,41,0,31⟩,⟨false,42,0,255⟩]
 |.c8 _=>[⟨false,43,1,1048576⟩,⟨false,44,0,9999⟩,⟨false,45,0,1125899906842624⟩,⟨false,46,0,1⟩]
 |.c9 x=>[⟨false,47,1,1048576⟩,⟨false,48,1,2⟩,⟨false,49,1,5⟩,⟨false,50,x.1,x.2.1⟩,⟨false,51,x.2.2.1,x.2.2.2.1⟩,⟨false,52,x.2.2.2.2.1,x.2.2.2.2.2⟩]
 |.c10 _=>[⟨false,53,1,1048576⟩,⟨true,0,0,1⟩]
 |.c11 _=>[]
 |.c12 _=>[⟨false,55,0,31⟩,⟨false,56,1,1048576⟩]
 |.c13 _=>[]
def Bg(f:AC):AI->Bool
 |.c3 _=>decide (f.Sync.Min<=f.Sync.Max)
 |.c4 _=>decide (f.Hand.Lo<=f.Hand.Hi)
 |.c5 _=>decide (f.Silence.Lo<=f.Silence.Hi)
 |.c6 _=>decide (f.Pair.A<f.Pair.B)
 |.c13 _=>false
 |_=>true
def A_(f:AC):AA A6:=FI++Dp (Ah f)
def Cj(e:A6):Bool:=bif e.fl then e.off==0 else decide (e.off<57)&& !(e.off==54)
theorem yM(f:AC):∀e∈A_ f,Cj e=true:=by
 have h:∀u,(FI++Dp u).all Cj=true:=by intro u;cases u<;>rfl
 exact Xt.1 (h (Ah f))
theorem kb(f:AC):(A_ f).length<=12:=by
 have h:∀u,(FI++Dp u).length<=12:=by intro u;cases u<;>exact XP rfl
 exact h (Ah f)
def jB:AB A->Bool
 |some (.int .i64 _)=>true
 |_=>false
theorem us{x:AB A}(h:jB x=true):∃v,x=some (.int .i64 v):=by
 unfold jB at h
 grind
theorem wI{f:AC}{b:Int}{e:A6}(h:Cj e=true):∃v,KG (AC.c f) b e=some v:=by
 unfold Cj at h;unfold KG;cases a:e.fl with
 |true=>
  simp_all
 |false=>
  rw[a]at h;simp only[Vl,XU,Vm,Bool.not_eq_true']at h⊢;have all:(List.range 57).all (λo=>(o==54)||jB (AC.c f)[o]?)=true:=by rfl
  have:=Xt.1 all e.off (List.mem_range.2 h.1);rw[h.2,Bool.false_or]at this;obtain⟨v,d⟩:=us this
  simp_all
theorem xL{x:AC}{s v:Int}{e:A6}(h:Cj e=true):∃q,Od AC.put x s e v=some q:=by
 unfold Cj at h;unfold Od;cases a:e.fl with
 |true=>
  simp_all
 |false=>
  rw[a]at h;simp only[Vl,XU,Vm,Bool.not_eq_true']at h⊢;have all:(List.range 57).all (λo=>(o==54)||(AC.put x o v).isSome)=true:=by rfl
  have:=Xt.1 all e.off (List.mem_range.2 h.1);rw[h.2,Bool.false_or]at this;obtain⟨y,d⟩:=Option.isSome_iff_exists.1 this
  simp_all
def CN(f:AC)(b:Int)(e:A6):Int:=(KG (AC.c f) b e).getD 0
def GX(x:AC)(s:Int)(e:A6)(v:Int):AC×Int:=(Od AC.put x s e v).getD (x,s)
theorem nV{f:AC}{b:Int}{e:A6}(h:Cj e=true):KG (AC.c f) b e=some (CN f b e):=by
 obtain⟨v,a⟩:=wI h;unfold CN;rw[a];rfl
theorem ub{x:AC}{s v:Int}{e:A6}(h:Cj e=true):Od AC.put x s e v=some (GX x s e v):=by
 obtain⟨q,a⟩:=xL h;unfold GX;rw[a];rfl
def Hz(f:AC)(b:Int)(e:A6):Bool:= !(decide (CN f b e<e.lo))&& !(decide (e.hi<CN f b e))
def Cp(f:AC)(b:Int):AA A6->AA Int×AC×Int->AG (AA Int×AC×Int) (AA Int×Bool)
 |[],a=>.k a
 |e::r,a=>bif Hz f b e then Cp f b r (a.1++[CN f b e],GX a.2.1 a.2.2 e (CN f b e))else .d ([],false)
theorem Wc{α:Type}(l m:AA α)(h:l.length+m.length<=1000):app l m=some (l++m):=by
 unfold app;have:Nat.ble (l.length+m.length) QE=true:=XQ (XT h (by decide))
 grind
theorem ve(f:AC)(b:Int)(E:AA A6)(hE:∀e∈E,Cj e=true)(hl:E.length<=12):∀(r:AA A6) (i:Nat) (a:AA Int×AC×Int),E.drop i=r->i<=E.length->a.1.length=i->
  BH (λn=>Ia n f b E E) (a.1,a.2.1,a.2.2,(i:Int)) (Cp f b r a):=by
 intro r
 induction r with
 |nil=>
  intro i a j p g;refine Ei ?_;unfold Ia;simp only[QY j p];exact Qa _
 |cons e r s=>
  intro i a j p k;obtain⟨g,m⟩:=Qw (by omega) j;have l:=hE e g.mem;have q:=g.lt';unfold Cp;cases d:Hz f b e with
  |true=>
   have h:=d;unfold Hz at h;simp only[XU,Bool.not_eq_true']at h;refine Eu ?_ (s (i+1) (a.1++[CN f b e],GX a.2.1 a.2.2 e (CN f b e)) m (by omega) (by simp[k]));unfold Ia;simp only[g.lt,g.ix,XH,g.nx,nV l,h.1,h.2,ub l];rw[Wc a.1 [CN f b e] (by simp;omega)];exact Qa _
  |false=>
   refine Ei ?_;unfold Ia;simp only[g.lt,g.ix,XH,nV l];unfold Hz at d;cases t:decide (CN f b e<e.lo)with
   |true=>exact Qa _
   |false=>
    rw[t]at d;simp[Xi,Vw,Bool.not_eq_false']at d;simp[d];exact Qa _
def A7(f:AC):Int:=bif f.Appeal.Suspends then 1 else 0
def FD(f:AC):AC:={Up with Ruling:={Ux with Kind:=f.Ruling.Kind:Ruling},Kind:=f.Kind:AC}
def Hy(f x:AC)(s:Int):AC:=
 let y:AC:=bif f.Kind != 10 then {x with Ruling:={x.Ruling with Kind:=0:Ruling}:AC}else x
 {y with Appeal:={Case:=y.Appeal.Case,Suspends:=s==1:Appeal}:AC}
def DL(f:AC):AA Int×Bool:=bif Bg f (Ah f)then(match Cp f (A7 f) (A_ f) ([],FD f,0)with
  |.k a=>(a.1,Hy f a.2.1 a.2.2==f)
  |.d r=>r)else([],false)
theorem yJ(n:Nat)(f:AC):Mf n ({Up with Ruling:={Ux with Kind:=f.Ruling.Kind:Ruling}:AC}) 0 f=some (A_ f):=by
 have a:Ah ({({Up with Ruling:={Ux with Kind:=f.Ruling.Kind:Ruling}:AC})with Kind:=f.Kind:AC})=Ah f:=rfl;unfold Mf A_;rw[oF];rw[a];unfold I_;generalize Ah f=u;cases u<;>(rfl)
theorem oz(f:AC):Ev (λn=>Mz n f) (DL f):=by
 refine Ea (v:=A7 f) ?_ ?_
 .grind[A7,Qa]
 refine Ea (v:=bif Bg f (Ah f)then .k (Dp (Ah f))else .d ([],false)) ?_ ?_
 .simp[oF];generalize Ah f=u;cases u with
  |c3=>unfold Bg;cases decide (f.Sync.Min<=f.Sync.Max)<;>exact Qa _
  |c4=>unfold Bg;cases decide (f.Hand.Lo<=f.Hand.Hi)<;>exact Qa _
  |c5=>unfold Bg;cases decide (f.Silence.Lo<=f.Silence.Hi)<;>exact Qa _
  |c6=>unfold Bg;cases decide (f.Pair.A<f.Pair.B)<;>exact Qa _
  |_=>exact Qa _
 unfold DL;cases Bg f (Ah f)with
 |false=>exact Qa _
 |true=>
  have e:app FI (Dp (Ah f))=some (A_ f):=Wc _ _ (by have:=kb f;unfold A_ at this;rw[X0]at this;omega);unfold I_;simp[XH];refine Ea (EA e) ?_;refine Ea (EA (yJ 0 f)) (Ea (ve f (A7 f) (A_ f) (yM f) (kb f) (A_ f) 0 ([],FD f,0) rfl (XS _) rfl).ev ?_);cases Cp f (A7 f) (A_ f) ([],FD f,0)with
  |d r=>exact Qa _
  |k a=>
   refine Ea ?_ (Qa _);cases(f.Kind != 10)<;>exact Qa _
def AL(f:AC):Bool:=(DL f).2
theorem tL(f:AC):Ev (λn=>M1 n f) (bif AL f then 0 else 120):=by
 refine Ea (oz f) ?_
 grind[AL,Qa]
theorem yn{f:AC}(h:AL f=true):(f.Kind==0)=false:=by
 cases q:(f.Kind==0)with
 |false=>rfl
 |true=>
  have hk:=by simpa using q
  have a:Ah f=.c13 ():=by unfold Ah;rw[hk];rfl
  unfold AL DL at h;rw[a]at h;cases h
set_option maxRecDepth 4000
def Bc(v:Nat):AA Int:=if h:128<=v then NE .u8 (u8.wrap (v:Int)) 128::Bc (v/128)else[u8.wrap (v:Int)]
termination_by v
decreasing_by omega
theorem kh{v:Nat}(h:128<=v):Bc v=NE .u8 (u8.wrap (v:Int)) 128::Bc (v/128):=by
 rw[Bc,dif_pos h]
theorem S3{v:Nat}(h:¬128<=v):Bc v=[u8.wrap (v:Int)]:=by
 rw[Bc,dif_neg h]
theorem dO(v:Nat):H9 .u64 (v:Int) 7=((v/128:Nat):Int):=by
 show Int.fdiv v (2^7)=_
 grind
theorem pv:∀(k v:Nat),v<128^(k+1)->(Bc v).length<=k+1:=by
 intro k
 induction k with
 |zero=>
  grind[S3]
 |succ k a=>
  grind[kh]
theorem zv:∀(k v:Nat) (l:AA Int),v<128^(k+1)->l.length+k<4294967296->∃(l':AA Int) (a:Nat),BH (λn=>Ib n) (l,(v:Int)) (l',(a:Int))/\l'++[u8.wrap (a:Int)]=l++Bc v/\l'.length<=l.length+k:=by
 intro k
 induction k with
 |zero=>
  intro v l d e;refine⟨l,v,Ei ?_,by rw[S3 (by omega)],XR _⟩
  grind[Ib,Qa]
 |succ k g=>
  intro v l d e;by_cases h:128<=v
  .obtain⟨l',a,f,i,j⟩:=g (v/128) (l++[NE .u8 (u8.wrap v) 128]) (by omega) (by simp;omega);refine⟨l',a,Eu ?_ f,?_,?_⟩
   .grind[Ib,dO,Jw,Qa]
   .rw[i,kh h];simp
   grind
  .refine⟨l,v,Ei ?_,by rw[S3 h],by omega⟩;unfold Ib;simp[YA (show¬128<=(v:Int)by omega)];exact Qa _
theorem rx(v:Nat)(l:AA Int)(d:v<18446744073709551616)(hl:l.length<=1000000):Ev (λn=>HR n l (v:Int)) (l++Bc v):=by
 obtain⟨g,e,a,f,h⟩:=zv 9 v l (by omega) (by omega);refine Ea a.ev ?_
 grind[Jw,Qa]
theorem cT{v:Nat}(hv:v<18446744073709551616):(Bc v).length<=10:=pv 9 v (by omega)
def C6(x:Int):Int:=NW .u64 (K5 .u64 (u64.wrap x) 1) (u64.wrap (H9 .i64 x 63))
theorem TK(x:Int):0<=u64.wrap x/\u64.wrap x<18446744073709551616:=by
 have e:u64.wrap x=x%18446744073709551616:=by
  rfl
 omega
theorem WU(x:Int):∃z:Nat,C6 x=(z:Int)/\z<18446744073709551616:=by
 have h:=TK ((BitVec.ofInt IntKind.u64.bits (K5 .u64 (u64.wrap x) 1)^^^BitVec.ofInt IntKind.u64.bits (u64.wrap (H9 .i64 x 63))).toNat);refine⟨(C6 x).toNat,?_,?_⟩
 .rfl
 .unfold C6 NW;omega
def Bq(x:Int):AA Int:=1::Bc (C6 x).toNat
theorem kj(x:Int):(Bq x).length<=11:=by
 obtain⟨z,d,a⟩:=WU x
 grind[Bq,cT]
theorem zY(l:AA Int)(x:Int)(hl:l.length<=100000):Ev (λn=>I3 n l ({Kind:=1,N:=x,S:=[],L:=[]:Value})) (l++Bq x):=by
 unfold I3 Mw;rw[Jw l 1 (by omega)];simp only[XH];obtain⟨z,e,d⟩:=WU x;have a:=e;unfold C6 at a;rw[a];refine Ea (rx z (l++[1]) d (by simp;omega)) ((Qa _).eq ?_);unfold Bq
 grind
def Bm(x:Int):Value:={Kind:=1,N:=x,S:=[],L:=[]:Value}
def Aj(l:AA Int):Value:={Kind:=3,N:=0,S:=[],L:=l.map Bm:Value}
theorem yZ(x:Int):Ev (λn=>PK n (Bm x)) (0,true):=by
 refine QX ?_;show Ev (λn=>TG (PK n) n (Bm x)) _;unfold TG Bm;cases(x==0)with
 |true=>exact Qa _
 |false=>exact Qa _
theorem zZ(l:AA Int)(hl:l.length<=1000):Ev (λn=>PK n (Aj l)) (1,true):=by
 refine QX ?_;show Ev (λn=>TG (PK n) n (Aj l)) _;unfold TG Aj;refine Ea (Qa _) ?_;refine Ea (v:=AG.k 0) (Ew (λi=>(0,(i:Int))) (l.map Bm).length rfl (λi d=>?_) ?_) (Qa _)
 .have a:=JB (by grind) (XI d);have f:∃y,(l.map Bm)[i]=Bm y:=by
   grind
  obtain⟨y,e⟩:=f;unfold Py;simp only[a.lt,a.ix,XH,a.nx];rw[e];exact Ea (yZ y) (Qa _)
 simp_all[Py,Qa]
def B5(l:AA Int):AA Int:=[3]++Bc l.length++(l.map Bq).flatten
theorem QiK(l:AA Int)(hl:l.length<=1000):Ev (λn=>MM n (Aj l)) (B5 l):=by
 unfold MM;have p:app ([]:AA Int) [3]=some [3]:=rfl;rw[p];simp only[XH];have q:u64.wrap (((Aj l).L.length:Int))=((l.length:Nat):Int):=by
  have:u64.wrap (((Aj l).L.length:Int))=(((Aj l).L.length:Int))%18446744073709551616:=by rfl
  grind[Aj]
 rw[q];have j:=cT (show l.length<18446744073709551616 by omega);refine Ea (rx l.length [3] (by omega) (by simp)) ?_;refine Ea (v:=B5 l) ?_ (Qa _);have h:=QA (step:=λn=>Lu n (Aj l)) (l.map Bm) (λ(a:AA Int) (v:Value)=>a++Bq v.N) ([3]++Bc l.length) (λa i=>(a,(i:Int))) (λa=>a) (by grind) rfl (λi x a d s=>?_) ?_
 .refine Et h ?_;have:∀(m:AA Int) (a:AA Int),(m.map Bm).foldl (λ(a:AA Int) (v:Value)=>a++Bq v.N) a=a++(m.map Bq).flatten:=by
   intro m
   induction m with
   |nil=>intro a;simp
   |cons x m k=>grind[Bm]
  rw[this];rfl
 .have r:∃y,x=Bm y:=by
   obtain⟨y,_,u⟩:=Xf.1 d.mem
   grind
  obtain⟨y,rfl⟩:=r;have g:a.length<=100000:=by
   have:∀(m:AA Int) (a:AA Int),((m.map Bm).foldl (λ(a:AA Int) (v:Value)=>a++Bq v.N) a).length<=a.length+11*m.length:=by
    intro m
    induction m with
    |nil=>intro a;simp
    |cons x m k=>
     grind[kj]
   have t:=this (l.take i) ([3]++Bc l.length)
   grind[List.map_take]
  unfold Lu;have e:decide ((i:Int)<((Aj l).L.length:Int))=true:=d.lt;have f:AJ (Aj l).L (i:Int)=some (Bm y):=d.ix;simp only[e,Vk,f,XH,d.nx];refine Ea (zY a y g) ?_;exact Qa _
 simp_all[Lu,Aj,Qa]
theorem xa{f:AC}{b:Int}:∀(r:AA A6) (a c:AA Int×AC×Int),Cp f b r a=.k c->c.1.length=a.1.length+r.length:=by
 intro r
 induction r with
 |nil=>intro a c h;cases h;rfl
 |cons e r d=>
  grind[Cp]
theorem xZ(f:AC):(DL f).1.length<=12:=by
 unfold DL;cases Bg f (Ah f)with
 |false=>simp
 |true=>
  cases h:Cp f (A7 f) (A_ f) ([],FD f,0)with
  |k a=>
   have:=xa _ _ _ h
   grind[kb]
  |d r=>
   have:∀(E:AA A6) (a:AA Int×AC×Int),Cp f (A7 f) E a=.d r->r=([],false):=by
    intro E
    induction E with
    |nil=>intro a h;cases h
    |cons e E ih=>
     intro a h;unfold Cp at h
     grind
   grind
def CB(f:AC):AA Int×Int:=bif AL f then(B5 (DL f).1,0)else([],120)
theorem qo(f:AC):Ev (λn=>Mv n f) (CB f):=by
 refine Ea (oz f) ?_;have p:=xZ f;unfold CB AL;generalize DL f=r at*;cases h:r.2 with
 |false=>exact Qa _
 |true=>
  refine Ea (v:=r.1.map Bm) ?_ ?_
  .refine Et (QA r.1 (λa x=>a++[Bm x]) [] (λa i=>(a,(i:Int))) (λa=>a) (by omega) rfl (λi x a d l=>?_) ?_) ?_
   .unfold PU;simp only[d.lt,d.ix,XH,d.nx];have k:a.length<=12:=by
     have:∀(m:AA Int) (a:AA Value),(m.foldl (λa x=>a++[Bm x]) a).length=a.length+m.length:=by
      intro m
      induction m with
      |nil=>simp
      |cons x m g=>grind
     grind
    grind[Jw,Bm,Qa]
   .simp_all[PU,Qa]
   .have:∀(m:AA Int) (a:AA Value),m.foldl (λa x=>a++[Bm x]) a=a++m.map Bm:=by
     intro m
     induction m with
     |nil=>simp
     |cons x m g=>grind
    grind
  refine Ea (v:=(B5 r.1,0)) ?_ (Qa _);have j:=zZ r.1 (by omega);have e:({Kind:=3,N:=0,S:=[],L:=r.1.map Bm:Value})=Aj r.1:=rfl;refine Ea (Ea j (Qa _)) ?_;exact Ea (QiK r.1 (by omega)) (Qa _)
def BG(a b:Int):Int:=bif a<b then-1 else bif b<a then 1 else 0
theorem bJ(n:Nat)(a b:Int):Nw n a b=some (BG a b):=by
 unfold Nw Mu BG
 grind
def He:AA Int->Int
 |[]=>0
 |x::r=>bif x != 0 then x else He r
theorem VO(l:AA Int)(hl:l.length<=1000):Ev (λn=>RT n l) (He l):=by
 have loop:∀(r:AA Int) (i:Nat),l.drop i=r->i<=l.length->BH (λn=>Il n l) i (bif He r==0 then AG.k ()else AG.d (He r)):=by
  intro r
  induction r with
  |nil=>
   intro i d g;refine Ei ?_;unfold Il;simp only[QY d g];exact Qa _
  |cons x r j=>
   intro i d g;obtain⟨a,f⟩:=Qw (by omega) d;have h:=a.lt';unfold He;cases q:(x != 0)with
   |true=>
    have e:(x==0)=false:=by grind
    simp[Vk,e];refine Ei ?_;unfold Il;simp only[a.lt,a.ix,XH,q];exact Qa _
   |false=>
    refine Eu ?_ (j (i+1) f (by omega));unfold Il;simp only[a.lt,a.ix,XH,q,a.nx];exact Qa _
 refine Ea (loop l 0 rfl (XS _)).ev ?_
 grind[Qa]
def As(f g:AC):Int:=bif He [BG f.At g.At,BG f.Crew g.Crew,BG f.No g.No] != 0 then He [BG f.At g.At,BG f.Crew g.Crew,BG f.No g.No]else cmpB (CB f).1 (CB g).1
theorem lR(f g:AC):Ev (λn=>HN n f g) (As f g):=by
 unfold HN As;simp[bJ,XH];refine Ea (VO _ (by simp)) ?_;cases(He [BG f.At g.At,BG f.Crew g.Crew,BG f.No g.No] != 0)with
 |true=>exact Qa _
 |false=>
  exact Ea (qo f) (Ea (qo g) (Qa _))
def C8(c:AE)(f:AC):Bool:=(f.Kind==1)&&(AL f&&(!decide ((c.Distances.length:Int)<=f.Starter.Distance)&& !decide ((c.Waves.length:Int)<=f.Starter.Wave)))
def CW(c:AE)(m:AA (Int×AC))(f:AC):AA (Int×AC):=
 bif C8 c f then(bif !(JY m f.Starter.Bib)||decide (As f (QH m f.Starter.Bib Up)<0)then QR m f.Starter.Bib f else m)else m
def A3(c:AE)(l:AA AC):AA (Int×AC):=l.foldl (CW c) []
theorem wZ(c:AE)(l:AA AC)(hl:l.length<=1048576):Ev (λn=>iter (LU n c l) n ([],0)) (A3 c l):=by
 refine QA l (CW c) [] (λa i=>(a,(i:Int))) (λa=>a) (by omega) rfl (λi x a ha _=>?_) ?_
 .unfold LU;simp only[ha.lt,ha.ix,ha.nx];refine Ea (Ea (v:= !C8 c x) ?_ ?_) (Qa _)
  .unfold C8 bne;cases(x.Kind==1)with
   |false=>exact Qa _
   |true=>
    refine Ea (tL x) ?_;cases AL x with
    |false=>exact Qa _
    |true=>
     cases decide (c.Distances.length<=x.Starter.Distance)with
     |true=>exact Qa _
     |false=>
      simp_all[Qa]
  .unfold CW;cases C8 c x with
   |false=>exact Qa _
   |true=>
    refine Ea (Er λ_=>Ea (lR _ _) (Qa _)) ?_;cases(!(JY a x.Starter.Bib)||decide (As x (QH a x.Starter.Bib Up)<0))<;>exact Qa _
 simp_all[LU,Qa]
theorem kg{β:Type}(m:AA (Int×β))(k:Int):JY m k=(Yv m k).isSome:=by
 unfold JY Yv
 grind
theorem S0{β:Type}(m:AA (Int×β))(k:Int):k∈m.map Prod.fst↔ ∃v,Yv m k=some v:=by
 have h:=kg m k;rw[<- Option.isSome_iff_exists, <- h];unfold JY;simp
structure Cm (c:AE) (l:List AC) (m:List (Int×AC)):Prop where
 nodup:(m.map Prod.fst).Nodup
 ok:∀k f,Yv m k=some f->f.Starter.Bib=k/\C8 c f=true/\f∈l
 len:m.length<=l.length
theorem pu{β:Type}(m:AA (Int×β))(k:Int)(v:β):(QR m k v).length<=m.length+1:=by
 have:=congrArg List.length (lC m k v)
 grind
theorem r7{β:Type}{m:AA (Int×β)}(k:Int)(v:β)(h:(m.map Prod.fst).Nodup):((QR m k v).map Prod.fst).Nodup:=by
 have e:=lC m k v
 grind
theorem Ws(c:AE)(l:AA AC):Cm c l (A3 c l):=by
 have j:∀(r:AA AC) (p:AA AC) (m:AA (Int×AC)),Cm c p m->Cm c (p++r) (r.foldl (CW c) m):=by
  intro r
  induction r with
  |nil=>simp
  |cons f r n=>
   intro p m h;have s:Cm c (p++[f]) (CW c m f):=by
    have keep:Cm c (p++[f]) m:=⟨h.nodup,λk g i=>by obtain⟨a,b,d⟩:=h.ok k g i;grind,by have:=h.len;simp;omega⟩;unfold CW;cases q:C8 c f with
    |false=>exact keep
    |true=>
     cases(!(JY m f.Starter.Bib)||decide (As f (QH m f.Starter.Bib Up)<0))with
     |false=>exact keep
     |true=>
      refine⟨r7 _ _ h.nodup,λk g i=>?_,?_⟩
      .simp[Vk]at i;rw[YQ]at i;by_cases e:k=f.Starter.Bib
       .rw[Vp e]at i;cases i;exact⟨e.symm,q,by simp⟩
       .rw[Vn e]at i;exact keep.ok k g i
      .have:=pu m f.Starter.Bib f;have:=h.len;simp[Vk,X0,List.length_singleton];omega
   grind
 have:=j l [] [] ⟨by simp,(λk f h=>by cases h),XR _⟩;simpa[A3]using this
theorem qU{l m:AA Int}(h:l.Perm m):YH B0 l=YH B0 m:=
 JN ((Qu B0 l).trans (h.trans (Qu B0 m).symm)) (λx _ y _ a b=>by simp[B0]at*;omega) (QV (Sk l)) (QV (Sk m))
theorem Sq{n:Nat}(h:n<=1048576):Nat.ble n QE=true:=XQ (XT h (by decide))
theorem xj(n:Nat)(m:AA (Int×AC))(h:m.length<=1048576):L7 n m=some (YH B0 (m.map Prod.fst)):=by
 unfold L7 SX;have a:(map Prod.fst m).length<=1048576:=by grind
 rw[Sq a,Vk];refine j8 λp d=>?_;unfold Cw;rw[Sq (by rw[d.length_eq];exact a)]
 grind[qU]
def Bt(m:AA (Int×AC)):AA AC:=(YH B0 (m.map Prod.fst)).map λk=>QH m k Up
theorem kl(m:AA (Int×AC)):(Bt m).length=m.length:=by
 unfold Bt;rw[XZ,(Qu _ _).length_eq,XZ]
theorem yz(m:AA (Int×AC))(h:m.length<=1048576):Ev (λn=>Mj n m) (Bt m):=by
 unfold Mj RO;simp only[XH];refine Ea ⟨0,λn _=>xj n m h⟩ ?_;have g:(YH B0 (m.map Prod.fst)).length=m.length:=by rw[(Qu _ _).length_eq,XZ]
 refine Ea ?_ (Qa _);unfold Bt;generalize YH B0 (m.map Prod.fst)=ks at g;have e:ks.map (λk=>QH m k Up)=ks.foldl (λa k=>a++[QH m k Up]) []:=by
  have:∀(r:AA Int) (a:AA AC),r.foldl (λa k=>a++[QH m k Up]) a=a++r.map λk=>QH m k Up:=by
   intro r
   induction r with
   |nil=>simp
   |cons x r j=>grind
  grind
 rw[e];refine QA ks (λa k=>a++[QH m k Up]) [] (λa i=>(a,(i:Int))) (λa=>a) (by omega) rfl (λi x a d f=>?_) ?_
 .unfold Ps;simp only[d.lt,d.ix,XH,d.nx];have l:a.length=i:=by
   have:∀(r:AA Int) (a:AA AC),(r.foldl (λa k=>a++[QH m k Up]) a).length=a.length+r.length:=by
    intro r
    induction r with
    |nil=>intro a;rfl
    |cons x r j=>grind
   rw[f,this,Xx];have:=d.lt';simp;omega
  have:=d.lt'
  grind[Jw,Qa]
 simp_all[Ps,Qa]
def A'(f:AC):Int:=f.Starter.Chip
def Ax(e:Int)(c:AE)(l:AA AC):AA Starter×Int:=bif e != 0 then([],e)else
 bif ((Bt (A3 c l)).map A').Nodup then((Bt (A3 c l)).map (·.Starter),0)else([],180)
theorem vz(L:AA AC)(hl:L.length<=1048576):Ev (λn=>iter (HJ n L) n ([],[],0)) (bif (L.map A').Nodup then AG.k (L.map (·.Starter))else AG.d ([],180)):=by
 have loop:∀(r:AA AC) (i:Nat),L.drop i=r->i<=L.length->BH (λn=>HJ n L) ((L.take i).map (·.Starter),Yu A' true (L.take i),i)
   (bif K9 (λ_=>true) A' ((L.take i).map A') r then AG.k (L.map (·.Starter))else AG.d ([],180)):=by
  intro r
  induction r with
  |nil=>
   grind[BH.done,HJ,QY,K9,Qa]
  |cons f r l=>
   intro i k m;obtain⟨a,g⟩:=Qw (by omega) k;have j:=a.lt';have d:=lX A' true false (L.take i) (A' f);simp only[K9];cases q:((L.take i).map A').contains (A' f)with
   |true=>
    have e:A' f∈(L.take i).map A':=by simpa using q
    rw[Vp e]at d;refine Ei ?_;unfold HJ;simp only[a.lt,a.ix,XH];rw[show f.Starter.Chip=A' f from rfl,d];exact Qa _
   |false=>
    have e:¬A' f∈(L.take i).map A':=by
     intro z;have:((L.take i).map A').contains (A' f)=true:=by simpa using z
     rw[q]at this;cases this
    rw[Vn e]at d;have h:=l (i+1) g (by omega);rw[a.take,tC,Xg,Xg]at h;refine Eu ?_ h;unfold HJ;simp only[a.lt,a.ix,XH,a.nx];rw[show f.Starter.Chip=A' f from rfl,d];rw[Jw _ _ (by rw[XZ,Xx];omega)];exact Qa _
 refine Et (loop L 0 rfl (XS _)).ev ?_;have:=kA (λ_=>true) A' L [] (by simp)
 grind
theorem zX(e:Int)(c:AE)(l:AA AC)(hl:l.length<=16)(he:Ev (λn=>Hu n c) e):Ev (λn=>MB n c l) (Ax e c l):=by
 unfold MB Ax;refine Ea he ?_;cases(e != 0)with
 |true=>exact Qa _
 |false=>
  refine Ea (wZ c l (by omega)) ?_;have h:=Ws c l;have a:=h.len;rw[YA (show¬(4000:Int)<(A3 c l).length by omega)];refine Yc (Ea (yz _ (by omega)) (Ea (vz _ (by rw[kl];omega)) ?_))
  grind[Qa]
theorem uO{a b:Int}:BG a b<0↔a<b:=by
 grind[BG]
theorem jN{a b:Int}:BG a b=0↔a=b:=by
 grind[BG]
set_option maxRecDepth 4000
theorem vg(f:AC)(b:Int):∀(E:AA A6) (a:AA Int×AC×Int),Cp f b E a=bif E.all (Hz f b)then .k (a.1++E.map (CN f b),E.foldl (λp e=>GX p.1 p.2 e (CN f b e)) a.2)else .d ([],false):=by
 intro E
 induction E with
 |nil=>simp[Cp]
 |cons e E ih=>
  intro a;unfold Cp
  grind
def B8(f:AC):AC:={Crew:=f.Crew,No:=f.No,At:=f.At,Kind:=f.Kind,Starter:=(bif f.Kind==1 then f.Starter else Up.Starter),Read:=(bif f.Kind==2 then f.Read else Up.Read),Beacon:=(bif f.Kind==3 then f.Beacon else Up.Beacon),Sync:=(bif f.Kind==4 then f.Sync else Up.Sync),Hand:=(bif f.Kind==5 then f.Hand else Up.Hand),Silence:=(bif f.Kind==6 then f.Silence else Up.Silence),Pair:=(bif f.Kind==7 then f.Pair else Up.Pair),Report:=(bif f.Kind==8 then f.Report else Up.Report),Protest:=(bif f.Kind==9 then f.Protest else Up.Protest),Ruling:=(bif f.Kind==10 then f.Ruling else Up.Ruling),Appeal:=(bif f.Kind==11 then f.Appeal else Up.Appeal),Void:=(bif f.Kind==13 then f.Void else Up.Void):AC}
def B4(f:AC):AA Int:=[f.Kind,f.Crew,f.No,f.At]++(
 bif f.Kind==1 then[f.Starter.Bib,f.Starter.Distance,f.Starter.Wave,f.Starter.Slot,f.Starter.Age,f.Starter.Chip,f.Starter.Team,f.Starter.Lot]
 else bif f.Kind==2 then[f.Read.Mat,f.Read.Epoch,f.Read.Chip,f.Read.Local]
 else bif f.Kind==3 then[f.Beacon.Mat,f.Beacon.Epoch,f.Beacon.Local,f.Beacon.True,f.Beacon.Err]
 else bif f.Kind==4 then[f.Sync.MatA,f.Sync.EpochA,f.Sync.LocalA,f.Sync.MatB,f.Sync.EpochB,f.Sync.LocalB,f.Sync.Min,f.Sync.Max]
 else bif f.Kind==5 then[f.Hand.Bib,f.Hand.Position,f.Hand.Lo,f.Hand.Hi]
 else bif f.Kind==6 then[f.Silence.Mat,f.Silence.Epoch,f.Silence.Lo,f.Silence.Hi]
 else bif f.Kind==7 then[f.Pair.A,f.Pair.B]
 else bif f.Kind==8 then[f.Report.Case,f.Report.Bib,f.Report.Offence,f.Report.Position]
 else bif f.Kind==9 then[f.Protest.Case,f.Protest.By,f.Protest.Fee,f.Protest.Form]
 else bif f.Kind==10 then[f.Ruling.Case,f.Ruling.Instance,f.Ruling.Kind,f.Ruling.Bib,f.Ruling.Position,f.Ruling.Amount]
 else bif f.Kind==11 then[f.Appeal.Case,A7 f]
 else bif f.Kind==13 then[f.Void.Crew,f.Void.No]else[])
theorem kinds(f:AC):f.Kind=1\/f.Kind=2\/f.Kind=3\/f.Kind=4\/f.Kind=5\/f.Kind=6\/f.Kind=7\/f.Kind=8\/f.Kind=9\/f.Kind=10\/f.Kind=11\/f.Kind=12\/f.Kind=13\/Ah f=.c13 ():=by
 by_cases e:f.Kind=1; · exact .inl e
 by_cases m:f.Kind=2; · omega
 by_cases j:f.Kind=3; · omega
 by_cases q:f.Kind=4; · omega
 by_cases n:f.Kind=5; · omega
 by_cases i:f.Kind=6; · omega
 by_cases l:f.Kind=7; · omega
 by_cases p:f.Kind=8; · omega
 by_cases k:f.Kind=9; · omega
 by_cases g:f.Kind=10; · omega
 by_cases a:f.Kind=11; · omega
 by_cases h:f.Kind=12; · omega
 by_cases d:f.Kind=13; · omega
 refine .inr (.inr (.inr (.inr (.inr (.inr (.inr (.inr (.inr (.inr (.inr (.inr (.inr ?_))))))))))));unfold Ah
 grind
def FJ(f:AC):AC×Int:=(A_ f).foldl (λp e=>GX p.1 p.2 e (CN f (A7 f) e)) (FD f,0)
theorem jt(f:AC):DL f=bif Bg f (Ah f)then(bif (A_ f).all (Hz f (A7 f))then((A_ f).map (CN f (A7 f)),Hy f (FJ f).1 (FJ f).2==f)else([],false))else([],false):=by
 unfold DL;rw[vg];cases Bg f (Ah f)with
 |false=>rfl
 |true=>
  cases(A_ f).all (Hz f (A7 f))with
  |false=>rfl
  |true=>rfl
theorem lB(f:AC)(h:¬Ah f=.c13 ()):Hy f (FJ f).1 (FJ f).2=B8 f/\(A_ f).map (CN f (A7 f))=B4 f:=by
 rcases kinds f with k|k|k|k|k|k|k|k|k|k|k|k|k|k
 case inr.inr.inr.inr.inr.inr.inr.inr.inr.inr.inl=>
  obtain⟨Cr,No,At,Ki,S,R,B,Sy,Ha,Si,Pa,Re,Pr,Ru,⟨Ca,Su⟩,Vo⟩:=f;subst k;cases Su<;>exact⟨by kernel_rfl,by kernel_rfl⟩
 case inr.inr.inr.inr.inr.inr.inr.inr.inr.inl=>
  obtain⟨Cr,No,At,Ki,S,R,B,Sy,Ha,Si,Pa,Re,Pr,⟨i,d,a,g,j,e⟩,Ap,Vo⟩:=f;subst k;have:∃x,Ah ⟨Cr,No,At,10,S,R,B,Sy,Ha,Si,Pa,Re,Pr,⟨i,d,a,g,j,e⟩,Ap,Vo⟩=.c9 x:=by
   unfold Ah;cases((a==1)||(a==2))with
   |true=>simp
   |false=>
    cases(a==3)with
    |true=>simp
    |false=>cases(a==4)<;>exact⟨_,rfl⟩
  obtain⟨x,l⟩:=this;unfold FJ A_;rw[l];exact⟨by kernel_rfl,by kernel_rfl⟩
 case inr.inr.inr.inr.inr.inr.inr.inr.inr.inr.inr.inr.inr=>grind
 all_goals
  obtain⟨Cr,No,At,Ki,S,R,B,Sy,Ha,Si,Pa,Re,Pr,Ru,Ap,Vo⟩:=f;subst k;exact⟨by kernel_rfl,by kernel_rfl⟩
def Do(f:AC):Bool:=Bg f (Ah f)&&(Dp (Ah f)).all (Hz f (A7 f))
def F5(f:AC):Bool:=FI.all (Hz f (A7 f))
theorem cJ(f:AC):AL f=(F5 f&&Do f&&(B8 f==f)):=by
 unfold AL Do F5;rw[jt];by_cases h:Ah f=.c13 ()
 .simp_all[Bg]
 .obtain⟨a,d⟩:=lB f h;rw[a];unfold A_
  grind
theorem yo{f:AC}(h:AL f=true):(DL f).1=B4 f:=by
 unfold AL at h;rw[jt]at h⊢;by_cases q:Ah f=.c13 ()
 .simp_all[Bg]
 grind[lB]
theorem ry{f:AC}(h:AL f=true):B8 f=f:=by
 simp_all[cJ]
theorem xc{f g:AC}(l:AL f=true)(hg:AL g=true)(h:B4 f=B4 g):f=g:=by
 have e1:=ry l;have e2:=ry hg;rw[<- e1, <- e2];unfold B4 at h;have B:f.Kind=g.Kind:=by
  grind
 have nk:=yn l;rcases kinds f with k|k|k|k|k|k|k|k|k|k|k|k|k|k
 case inr.inr.inr.inr.inr.inr.inr.inr.inr.inr.inr.inr.inr=>
  grind[cJ,Do,Bg]
 all_goals
  have d:=B.symm.trans k;obtain⟨Cr,No,At,Ki,⟨s1,s2,s3,s4,s5,s6,s7,s8⟩,⟨t,au,p,x⟩,⟨b1,b2,b3,b4,b5⟩,⟨y1,y2,y3,y4,y5,y6,y7,y8⟩,⟨h1,h2,h3,h4⟩,⟨i1,i2,i3,i4⟩,⟨p1,p2⟩,⟨u1,u2,u3,u4⟩,⟨o1,o2,o3,o4⟩,⟨r1,r2,r3,r4,r5,r6⟩,⟨a1,a2⟩,⟨v1,v2⟩⟩:=f;obtain⟨Cr',No',At',Ki',⟨av,a0,X,ar,y,N,O,z⟩,⟨e,j,i,a⟩,⟨ag,ak,ai,u,T⟩,⟨q,az,aq,m,aw,aa,W,G⟩,⟨al,ay,P,M⟩,⟨H,Q,L,a3⟩,⟨E,an⟩,⟨r,ax,ae,aj⟩,⟨Y,R,J,n⟩,⟨s,w,af,ao,ac,ah⟩,⟨am,F⟩,⟨V,ab⟩⟩:=g;simp only at k d;subst k;subst d
  grind[A7,B8]
set_option maxRecDepth 4000
theorem Sm(x:Int):u64.wrap x=x%18446744073709551616:=by rfl
theorem jj(x:Int):u8.wrap x=x%256:=by unfold IntKind.wrap;rfl
theorem tZ(a b:Int):NE .u8 a b=(((BitVec.ofInt 8 a|||BitVec.ofInt 8 b).toNat:Nat):Int)%256:=by rfl
theorem m9(a b:Int):NW .u64 a b=(((BitVec.ofInt 64 a^^^BitVec.ofInt 64 b).toNat:Nat):Int)%18446744073709551616:=by rfl
theorem Tf(v:Nat):NE .u8 (u8.wrap (v:Int)) 128=((v%128+128:Nat):Int):=by
 have a:∀m:Fin 256,((BitVec.ofNat 8 m.val|||128#8).toNat)=m.val%128+128:=by decide
 have d:v%256<256:=(by omega);have k:(BitVec.ofNat 8 (v%256)|||128#8).toNat=v%256%128+128:=a ⟨v%256,d⟩;have e:BitVec.ofInt 8 (v%256)=BitVec.ofNat 8 (v%256):=by
  rfl
 have f:BitVec.ofInt 8 128=128#8:=by rfl
 rw[tZ,jj,e,f,k];omega
theorem cE(v:Nat):Bc v=if 128<=v then((v%128+128:Nat):Int)::Bc (v/128)else[(v:Int)]:=by
 by_cases h:128<=v
 .rw[kh h,Vp h,Tf]
 .rw[S3 h,Vn h,jj]
  grind
theorem pw:∀(v w:Nat) (a b:AA Int),Bc v++a=Bc w++b->v=w/\a=b:=by
 intro v
 induction v using Nat.strongRecOn with
 |_ v d=>
 intro w a b h;rw[cE v,cE w]at h
 grind
theorem r8:∀(v:Nat),∀x∈Bc v,0<=x/\x<256:=by
 intro v
 induction v using Nat.strongRecOn with
 |_ v d=>
 intro x a;rw[cE v]at a
 grind
theorem oQ{x:Int}(h0:0<=x)(f:x<9223372036854775808):C6 x=2*x:=by
 unfold C6 K5;have a:H9 .i64 x 63=0:=by
  show Int.fdiv x (2^63)=0
  grind
 have e:(2:Int)^(min (1:Int).toNat IntKind.u64.bits)=2:=by decide
 rw[a,e,m9];simp only[Sm];have d:BitVec.ofInt 64 (0%18446744073709551616)=0#64:=by rfl
 rw[d,BitVec.xor_zero,BitVec.toNat_ofInt];omega
theorem oP{x:Int}(h0:x<0)(f: -9223372036854775808<=x):C6 x= -2*x-1:=by
 unfold C6 K5;have a:H9 .i64 x 63= -1:=by
  show Int.fdiv x (2^63)= -1
  grind
 have e:(2:Int)^(min (1:Int).toNat IntKind.u64.bits)=2:=by decide
 rw[a,e,m9];simp only[Sm];have d:BitVec.ofInt 64 (-1%18446744073709551616)=BitVec.allOnes 64:=by decide
 rw[d,BitVec.xor_allOnes,BitVec.toNat_not,BitVec.toNat_ofInt];omega
def DP(x:Int):Prop:= -9223372036854775808<=x/\x<9223372036854775808
theorem vt{x y:Int}(f:DP x)(e:DP y)(h:C6 x=C6 y):x=y:=by
 obtain⟨a,b⟩:=f;obtain⟨c,d⟩:=e
 grind[oQ,oP]
theorem px:∀(l m:AA Int),l.length=m.length->(∀x∈l,DP x)->(∀x∈m,DP x)->(l.map Bq).flatten=(m.map Bq).flatten->l=m
 |[],[],_,_,_,_=>rfl
 |x::l,y::m,hl,h1,h2,h=>by
  simp[Vf,Vh,Bq,VG,List.cons.injEq,true_and]at h;obtain⟨e1,e2⟩:=pw _ _ _ _ h;obtain⟨z,p1,p2⟩:=WU x;obtain⟨z',q1,q2⟩:=WU y;rw[p1,q1]at e1;have:=vt (h1 x (by simp)) (h2 y (by simp)) (by omega);rw[this,px l m (by grind) (by grind) (by grind) e2]
theorem yE{l m:AA Int}(d:∀x∈l,DP x)(a:∀x∈m,DP x)(h:B5 l=B5 m):l=m:=by
 unfold B5 at h;simp[VG,List.cons.injEq,true_and]at h
 grind[pw,px]
theorem sa(l:AA Int):∀x∈B5 l,0<=x/\x<256:=by
 intro x a;unfold B5 at a;simp only[Vz,Vx,List.mem_flatten,Xf]at a;rcases a with(rfl|a)|⟨m,⟨y,_,rfl⟩,a⟩
 .omega
 .exact r8 _ x a
 .rcases X3.1 a with rfl|a
  .omega
  .exact r8 _ x a
structure BV {α:Type} (c:α->α->Int):Prop where
 swap:∀x y,c y x= -c x y
 trans:∀x y z,c x y<0->c y z<0->c x z<0
 eqt:∀x y z,c x y=0->c x z=c y z
section
variable {α:Type} {c d:α->α->Int}
theorem BV.refl(h:BV c)(x:α):c x x=0:=by have:=h.swap x x;omega
theorem BV.eqr(h:BV c){x y:α}(z:α)(e:c x y=0):c z x=c z y:=by
 rw[h.swap x z,h.swap y z,h.eqt x y z e]
theorem lJ(h:BV c)(k:BV d):BV λx y=>bif c x y != 0 then c x y else d x y:=by
 refine⟨λx y=>?_,λx y z=>?_,λx y z=>?_⟩
 .have e:=h.swap x y;by_cases q:c x y=0
  .have f:c y x=0:=by omega
   rw[q,f];exact k.swap x y
  grind
 .by_cases q:c x y=0
  .have e:=h.eqt x y z q;rw[q,e];by_cases f:c y z=0
   .rw[f];exact k.trans x y z
   grind
  .rw[bne_iff_ne.2 q];by_cases f:c y z=0
   .have e:=h.eqr x f
    grind
   .rw[bne_iff_ne.2 f];intro a b;have:=h.trans x y z a b
    grind
 .by_cases q:c x y=0
  .rw[q,h.eqt x y z q];intro e;rw[k.eqt x y z e]
  grind
theorem BV.on{β:Type}(h:BV c)(f:β->α):BV λx y=>c (f x) (f y):=
 ⟨λx y=>h.swap _ _,λx y z=>h.trans _ _ _,λx y z=>h.eqt _ _ _⟩
end
theorem DH:BV BG:=by
 have e:∀a b,BG a b=if a<b then-1 else if b<a then 1 else 0:=by
  intro a b;unfold BG
  grind
 refine⟨λx y=>?_,λx y z=>?_,λx y z=>?_⟩
 iterate 3 grind
theorem NP:BV Lib.compareBytes:=by
 have f:∀x y:AA UInt8,Lib.compareBytes y x= -Lib.compareBytes x y:=by
  intro x
  induction x with
  |nil=>intro y;cases y<;>simp[Lib.compareBytes]
  |cons a x e=>
   intro y;cases y with
   |nil=>rfl
   |cons b y=>
    unfold Lib.compareBytes
    grind
 have eq:∀x y:AA UInt8,Lib.compareBytes x y=0->x=y:=by
  intro x
  induction x with
  |nil=>intro y h;cases y with
   |nil=>rfl
   |cons b y=>simp[Lib.compareBytes]at h
  |cons a x e=>
   intro y h;cases y with
   |nil=>simp[Lib.compareBytes]at h
   |cons b y=>
    unfold Lib.compareBytes at h
    grind
 refine⟨f,?_,(by grind)⟩;intro x
 induction x with
 |nil=>
  intro y z h k;cases y with
  |nil=>omega
  |cons b y=>cases z with
   |nil=>grind
   |cons d z=>simp[Lib.compareBytes]
 |cons a x e=>
  intro y z h k;cases y with
  |nil=>simp[Lib.compareBytes]at h
  |cons b y=>
   cases z with
   |nil=>simp[Lib.compareBytes]at k
   |cons d z=>
    unfold Lib.compareBytes at h k⊢
    grind
theorem jT:∀{x y:AA UInt8},Lib.compareBytes x y=0->x=y
 |[],[],_=>rfl
 |[],_::_,h=>by simp[Lib.compareBytes]at h
 |_::_,[],h=>by simp[Lib.compareBytes]at h
 |a::x,b::y,h=>by
  unfold Lib.compareBytes at h;by_cases q:a<b
  .grind
  .rw[Vn q]at h;by_cases q2:b<a
   .grind
   .rw[Vn q2]at h;have:a=b:=by
     grind
    rw[this,jT h]
theorem qk:∀{l m:AA Int},(∀x∈l,0<=x/\x<256)->(∀x∈m,0<=x/\x<256)->l.map Yp=m.map Yp->l=m
 |[],[],_,_,_=>rfl
 |[],_::_,_,_,h=>by simp at h
 |_::_,[],_,_,h=>by simp at h
 |x::l,y::m,h1,h2,h=>by
  simp[Vf,List.cons.injEq]at h;have a1:=h1 x (by simp);have a2:=h2 y (by simp);have e:=congrArg UInt8.toNat h.1;unfold Yp at e;rw[UInt8.toNat_ofNat',UInt8.toNat_ofNat']at e;have:x=y:=by omega
  rw[this,qk (by grind) (by grind) h.2]
theorem kZ(f g:AC):As f g=bif BG f.At g.At != 0 then BG f.At g.At else bif BG f.Crew g.Crew != 0 then BG f.Crew g.Crew else bif BG f.No g.No != 0 then BG f.No g.No else cmpB (CB f).1 (CB g).1:=by
 unfold As He He He He
 grind
theorem DT:BV As:=by
 have h:=lJ (DH.on λf=>f.At) (lJ (DH.on λf=>f.Crew) (lJ (DH.on λf=>f.No) (NP.on λf=>(CB f).1.map Yp)));have e:=by
  funext f g;exact kZ f g
 rw[e];exact h
def NA(e:A6):Bool:=decide (-1125899906842624<=e.lo)&&decide (e.hi<=1125899906842624)
theorem yN(f:AC):(A_ f).all NA=true:=by
 unfold A_;rw[List.all_append,XU];refine⟨rfl,?_⟩;rcases kinds f with k|k|k|k|k|k|k|k|k|k|k|k|k|k
 case inr.inr.inr.inr.inr.inr.inr.inr.inr.inl=>
  unfold Ah;rw[k];cases((f.Ruling.Kind==1)||(f.Ruling.Kind==2))with
  |true=>rfl
  |false=>
   cases(f.Ruling.Kind==3)with
   |true=>rfl
   |false=>cases(f.Ruling.Kind==4)<;>rfl
 case inr.inr.inr.inr.inr.inr.inr.inr.inr.inr.inr.inr.inr=>rw[k];rfl
 all_goals
  unfold Ah;rw[k];rfl
theorem r9{f:AC}(h:AL f=true):∀x∈B4 f,DP x:=by
 unfold AL at h;rw[jt]at h;by_cases q:Ah f=.c13 ()
 .rw[q]at h;cases h
 .rw[<- (lB f q).2];cases a:Bg f (Ah f)with
  |false=>grind
  |true=>
   rw[a]at h;cases b:(A_ f).all (Hz f (A7 f))with
   |false=>grind
   |true=>
    intro x j;obtain⟨e,g,rfl⟩:=Xf.1 j;have i:=Xt.1 b e g;have d:=Xt.1 (yN f) e g;unfold Hz at i;unfold NA at d;simp[XU,Bool.not_eq_true',decide_eq_false_iff_not,Vm]at i d;unfold DP;omega
theorem k_{f:AC}(h:AL f=true):CB f=(B5 (B4 f),0):=by
 unfold CB;rw[h,yo h];rfl
theorem Wd{f g:AC}(a:AL f=true)(hg:AL g=true)(h:As f g=0):f=g:=by
 rw[kZ]at h;have z:cmpB (CB f).1 (CB g).1=0:=by
  grind
 rw[k_ a,k_ hg]at z;have e:=qk (sa _) (sa _) (jT z)
 grind[xc,yE,r9]
set_option maxRecDepth 4000
theorem cU{α:Type}{R:α->α->Prop}(d:∀x,¬R x x)(f:∀x y z,R x y->R y z->R x z):∀{l m:AA α},l.Pairwise R->m.Pairwise R->(∀x,x∈l↔x∈m)->l=m
 |[],[],_,_,_=>rfl
 |[],b::m,_,_,h=>by have:=(h b).2 (by simp);cases this
 |a::l,[],_,_,h=>by have:=(h a).1 (by simp);cases this
 |a::l,b::m,hl,hm,h=>by
  rw[Xc]at hl hm;have e:a=b:=by
   rcases X3.1 ((h a).1 (by simp))with e|i
   .exact e
   .rcases X3.1 ((h b).2 (by simp))with e|g
    .exact e.symm
    grind
  subst e;congr 1;refine cU d f hl.2 hm.2 λx=>?_
  grind
def Br(x:AC):AA AC->AA AC
 |[]=>[x]
 |y::r=>bif As y x<0 then y::Br x r else bif y==x then y::r else x::y::r
def AH(l:AA AC):AA AC:=l.foldl (λa x=>bif AL x then Br x a else a) []
def GZ(a b:AC):Prop:=As a b<0
theorem ol(x:AC):¬GZ x x:=by unfold GZ;have:=DT.refl x;omega
theorem aS(x y z:AC):GZ x y->GZ y z->GZ x z:=DT.trans x y z
theorem cA(x:AC):∀(l:AA AC) (z:AC),z∈Br x l↔z=x\/z∈l
 |[],z=>by simp[Br]
 |y::r,z=>by
  unfold Br;cases decide (As y x<0)with
  |true=>
   simp[Vk,X3,cA x r z]
   grind
  |false=>
   grind
def B2(l:AA AC):Prop:=l.Pairwise GZ/\ ∀f∈l,AL f=true
theorem od{x:AC}(a:AL x=true):∀{l:AA AC},B2 l->B2 (Br x l)
 |[],_=>⟨by simp[Br],by simp[Br,a]⟩
 |y::r,h=>by
  obtain⟨h1,h2⟩:=h;rw[Xc]at h1;have hr:B2 r:=⟨h1.2,(by grind)⟩;have ih:=od a hr;refine⟨?_,λf hf=>?_⟩
  .unfold Br;cases q:decide (As y x<0)with
   |true=>
    simp[Vk,Xc];refine⟨λz hz=>?_,ih.1⟩;rcases(cA x r z).1 hz with rfl|hz
    .show As y z<0
     grind
    grind
   |false=>
    simp[Vl];cases q2:(y==x)with
    |true=>simp_all
    |false=>
     simp only[Vl,Xc];have lt:GZ x y:=by
      have g:=Vs q;have d:¬As y x=0:=λe=>by
       have:=Wd (h2 y (by simp)) a e
       grind
      have:=DT.swap x y;unfold GZ;omega
     refine⟨λz hz=>?_,h1⟩;rcases X3.1 hz with rfl|hz
     .exact lt
     .exact aS _ _ _ lt (h1.1 z hz)
  .rcases(cA x (y::r) f).1 hf with rfl|hf
   .exact a
   grind
theorem JX(l:AA AC):B2 (AH l)/\ ∀f,f∈AH l↔f∈l/\AL f=true:=by
 have d:∀(r a:AA AC),B2 a->B2 (r.foldl (λa x=>bif AL x then Br x a else a) a)/\ ∀f,f∈r.foldl (λa x=>bif AL x then Br x a else a) a↔f∈a\/(f∈r/\AL f=true):=by
  intro r
  induction r with
  |nil=>simp
  |cons x r i=>
   intro a h;rw[XC];cases q:AL x with
   |false=>
    grind
   |true=>
    obtain⟨g,e⟩:=i (Br x a) (od q h);refine⟨g,λf=>?_⟩;rw[Vk,e f,cA,X3];constructor
    .rintro((rfl|a)|⟨a,b⟩)
     .exact .inr ⟨.inl rfl,q⟩
     .exact .inl a
     .exact .inr ⟨.inr a,b⟩
    .rintro(a|⟨rfl|a,b⟩)
     .exact .inl (.inr a)
     .exact .inl (.inl rfl)
     .exact .inr ⟨a,b⟩
 obtain⟨g,e⟩:=d l [] ⟨by simp,by simp⟩
 grind[AH]
theorem yp{l m:AA AC}(h:∀f,AL f=true->(f∈l↔f∈m)):AH l=AH m:=by
 obtain⟨d,g⟩:=JX l;obtain⟨a,e⟩:=JX m;refine cU ol aS d.1 a.1 λf=>?_
 grind
def Ad(c:AE)(l:AA AC)(f:AC):Prop:=f∈l/\C8 c f=true/\ ∀g∈l,C8 c g=true->g.Starter.Bib=f.Starter.Bib->¬As g f<0
theorem tB{c:AE}{l:AA AC}{h:AC}(w:h∈l)(h0:C8 c h=true):∃f,f∈l/\C8 c f=true/\(f.Starter.Bib=h.Starter.Bib/\ ∀g∈l,C8 c g=true->g.Starter.Bib=f.Starter.Bib->¬As g f<0):=by
 have fin:∀(s:AA AC),(∃g∈s,C8 c g=true/\g.Starter.Bib=h.Starter.Bib)->∃f∈s,C8 c f=true/\f.Starter.Bib=h.Starter.Bib/\ ∀g∈s,C8 c g=true->g.Starter.Bib=h.Starter.Bib->¬As g f<0:=by
  intro s
  induction s with
  |nil=>simp
  |cons y s p=>
   intro m;by_cases i:C8 c y=true/\y.Starter.Bib=h.Starter.Bib
   .by_cases t:∃g∈s,C8 c g=true/\g.Starter.Bib=h.Starter.Bib
    .obtain⟨f,q,r,u,n⟩:=p t;by_cases j:As y f<0
     .refine⟨y,by simp,i.1,i.2,?_⟩;intro g a d e;rcases X3.1 a with rfl|a
      .have:=DT.refl g;omega
      .intro k;exact n g a d e (DT.trans _ _ _ k j)
     .refine⟨f,by simp[q],r,u,?_⟩;intro g a d e;rcases X3.1 a with rfl|a
      .exact j
      .exact n g a d e
    .refine⟨y,by simp,i.1,i.2,?_⟩;intro g a d e;rcases X3.1 a with rfl|a
     .have:=DT.refl g;omega
     .exact absurd ⟨g,a,d,e⟩ t
   .have t:∃g∈s,C8 c g=true/\g.Starter.Bib=h.Starter.Bib:=by
     obtain⟨g,a,d,e⟩:=m;rcases X3.1 a with rfl|a
     .exact absurd ⟨d,e⟩ i
     .exact⟨g,a,d,e⟩
    obtain⟨f,q,r,u,n⟩:=p t;refine⟨f,by simp[q],r,u,?_⟩;intro g a d e;rcases X3.1 a with rfl|a
    .exact absurd ⟨d,e⟩ i
    .exact n g a d e
 obtain⟨f,q,r,u,n⟩:=fin l ⟨h,w,h0,rfl⟩
 grind
theorem JV{c:AE}{f:AC}(h:C8 c f=true):AL f=true:=by
 simp_all[C8]
theorem Ad.one{c:AE}{l:AA AC}{f g:AC}(a:Ad c l f)(hg:Ad c l g)(e:f.Starter.Bib=g.Starter.Bib):f=g:=by
 have h:=a.2.2 g hg.1 hg.2.1 e.symm;have d:=hg.2.2 f a.1 a.2.1 e;have:=DT.swap f g;exact Wd (JV a.2.1) (JV hg.2.1) (by omega)
theorem rC(c:AE)(l:AA AC):∀b f,Yv (A3 c l) b=some f↔f.Starter.Bib=b/\Ad c l f:=by
 have H:∀(r p:AA AC) (m:AA (Int×AC)),(∀b f,Yv m b=some f↔f.Starter.Bib=b/\Ad c p f)->∀b f,Yv (r.foldl (CW c) m) b=some f↔f.Starter.Bib=b/\Ad c (p++r) f:=by
  intro r
  induction r with
  |nil=>simp
  |cons x r Q=>
   intro p m h;have T:∀b f,Yv (CW c m x) b=some f↔f.Starter.Bib=b/\Ad c (p++[x]) f:=by
    intro b f;unfold CW;cases q:C8 c x with
    |false=>
     simp only[Vl];rw[h b f];unfold Ad
     grind
    |true=>
     simp only[Vk];have L:JY m x.Starter.Bib=(Yv m x.Starter.Bib).isSome:=kg m _;cases e:Yv m x.Starter.Bib with
     |none=>
      rw[e]at L;have B:JY m x.Starter.Bib=false:=by grind
      rw[B];simp only[Xi,Bool.true_or,Vk];rw[YQ];have P:∀g∈p,C8 c g=true->g.Starter.Bib=x.Starter.Bib->False:=by
       intro g d n i;have:∃f,Ad c p f/\f.Starter.Bib=x.Starter.Bib:=by
        obtain⟨f,E,F,N⟩:=tB d n;exact⟨f,⟨E,F,N.2⟩,N.1.trans i⟩
       obtain⟨f,E,F⟩:=this;have:=(h x.Starter.Bib f).2 ⟨F,E⟩;rw[e]at this;cases this
      by_cases w:b=x.Starter.Bib
      .subst w;rw[Vp rfl];constructor
       .rintro⟨⟩;refine⟨rfl,by simp,q,?_⟩;intro g d J M;rcases Vz.1 d with d|d
        .exact(P g d J M).elim
        .rw[Vx]at d;subst d;have:=DT.refl g;omega
       .rintro⟨n,i,G,O⟩;rcases Vz.1 i with d|d
        .exact(P f d G n).elim
        .rw[Vx]at d;rw[d]
      .rw[Vn w,h b f];unfold Ad;simp only[Vz,Vx];constructor
       .rintro⟨a,j,s,t⟩;refine⟨a,.inl j,s,?_⟩;rintro g (d|rfl) n i
        .exact t g d n i
        .exact absurd (a.symm.trans i.symm) w
       .rintro⟨a,j|j,s,t⟩
        .exact⟨a,j,s,λg d n i=>t g (.inl d) n i⟩
        .subst j;exact absurd a.symm w
     |some y=>
      rw[e]at L;have B:JY m x.Starter.Bib=true:=by simpa using L
      have u:=(h x.Starter.Bib y).1 e;have W:QH m x.Starter.Bib Up=y:=by unfold QH;rw[e];rfl
      rw[B,W];simp only[Xh,Bool.false_or];cases lt:decide (As x y<0)with
      |true=>
       have lt':=Vr lt;simp only[Vk];rw[YQ];by_cases w:b=x.Starter.Bib
       .subst w;rw[Vp rfl];constructor
        .rintro⟨⟩;refine⟨rfl,by simp,q,?_⟩;intro g d J M;rcases Vz.1 d with d|d
         .intro k;exact u.2.2.2 g d J (M.trans u.1.symm) (DT.trans _ _ _ k lt')
         .rw[Vx]at d;subst d;have:=DT.refl g;omega
        .rintro⟨n,i,G,O⟩;rcases Vz.1 i with d|d
         .exfalso;have k:=u.2.2.2 f d G (n.trans u.1.symm);have X:=O x (by simp) q n.symm;have R:=DT.swap x f;have Y:=DT.swap y f;have V:As f x<=0:=by omega
          rcases Int.lt_or_eq_of_le V with z|z
          .exact k (DT.trans _ _ _ z lt')
          .have:=DT.eqt f x y z;omega
         .rw[Vx]at d;rw[d]
       .rw[Vn w,h b f];unfold Ad;simp only[Vz,Vx];constructor
        .rintro⟨a,j,s,t⟩;refine⟨a,.inl j,s,?_⟩;rintro g (d|rfl) n i
         .exact t g d n i
         .exact absurd (a.symm.trans i.symm) w
        .rintro⟨a,j|j,s,t⟩
         .exact⟨a,j,s,λg d n i=>t g (.inl d) n i⟩
         .subst j;exact absurd a.symm w
      |false=>
       have lt':=Vs lt;simp only[Vl];rw[h b f];unfold Ad;simp only[Vz,Vx];constructor
       .rintro⟨a,j,s,t⟩;refine⟨a,.inl j,s,?_⟩;rintro g (d|rfl) n i
        .exact t g d n i
        .have:f=y:=Ad.one ⟨j,s,t⟩ u.2 (i.symm.trans u.1.symm);rw[this];exact lt'
       .rintro⟨a,j|j,s,t⟩
        .exact⟨a,j,s,λg d n i=>t g (.inl d) n i⟩
        .subst j;have k:=t y (.inl u.2.1) u.2.2.1 u.1;have R:=DT.swap f y;have:f=y:=Wd (JV s) (JV u.2.2.1) (by omega);subst this;exact⟨a,u.2⟩
   have:=Q (p++[x]) _ T
   grind
 have:=H l [] [] (λb f=>by
  constructor
  .intro h;cases h
  .rintro⟨_,h,_⟩;cases h)
 intro b f;have:=this b f;rw[Vd]at this;exact this
theorem xX{m:AA (Int×AC)}{f:AC}(h:∀b f,Yv m b=some f->f.Starter.Bib=b):f∈Bt m↔Yv m f.Starter.Bib=some f:=by
 unfold Bt;rw[Xf];constructor
 .rintro⟨k,e,rfl⟩;obtain⟨v,d⟩:=(S0 m k).1 ((Qu B0 _).mem_iff.1 e);have:QH m k Up=v:=by unfold QH;rw[d];rfl
  grind
 .intro a;refine⟨f.Starter.Bib,(Qu B0 _).mem_iff.2 ((S0 m _).2 ⟨f,a⟩),?_⟩;unfold QH;rw[a];rfl
def mo(f g:AC):Prop:=f.Starter.Bib<g.Starter.Bib
theorem zr{m:AA (Int×AC)}(l:(m.map Prod.fst).Nodup)(h:∀b f,Yv m b=some f->f.Starter.Bib=b):(Bt m).Pairwise mo:=by
 unfold Bt;rw[List.pairwise_map];have n:=QV (Sk (m.map Prod.fst));have i:=Qu B0 (m.map Prod.fst);have e:=i.symm.nodup l;have g:∀k∈YH B0 (m.map Prod.fst),(QH m k Up).Starter.Bib=k:=by
  intro k g;obtain⟨v,j⟩:=(S0 m k).1 (i.mem_iff.1 g);have:QH m k Up=v:=by unfold QH;rw[j];rfl
  grind
 generalize YH B0 (m.map Prod.fst)=ks at*;have d:ks.Pairwise λa b=>a<b:=by
  refine List.Pairwise.imp₂ ?_ n e
  grind[B0]
 refine List.Pairwise.imp_of_mem (λ{a b} ha hb hab=>?_) d;show(QH m a Up).Starter.Bib<(QH m b Up).Starter.Bib
 grind
theorem xz(c:AE)(l:AA AC)(f:AC):f∈Bt (A3 c l)↔Ad c l f:=by
 simp_all[xX,rC]
theorem QiF(c:AE)(l:AA AC):(Bt (A3 c l)).Pairwise mo:=zr (Ws c l).nodup λb f h=>((rC c l b f).1 h).1
theorem zn{c:AE}{l m:AA AC}(h:∀f,AL f=true->(f∈l↔f∈m)){f:AC}:Ad c l f↔Ad c m f:=by
 constructor
 .rintro⟨a,b,d⟩;exact⟨(h f (JV b)).1 a,b,λg i e j=>d g ((h g (JV e)).2 i) e j⟩
 .rintro⟨a,b,d⟩;exact⟨(h f (JV b)).2 a,b,λg i e j=>d g ((h g (JV e)).1 i) e j⟩
set_option maxRecDepth 4000
def nb(v lo hi:Int):Bool:= !(decide (v<lo))&& !(decide (hi<v))
theorem Ht(v lo hi:Int):nb v lo hi=true↔lo<=v/\v<=hi:=by
 simp_all[nb]
def Bu(f:AC):Bool:=
 bif f.Kind==1 then true&&(nb f.Starter.Bib 1 9999&&(nb f.Starter.Distance 0 7&&(nb f.Starter.Wave 0 31&&(nb f.Starter.Slot (-1099511627776) 1099511627776&&(nb f.Starter.Age 0 120&&(nb f.Starter.Chip 0 1048576&&(nb f.Starter.Team 0 9999&&(nb f.Starter.Lot 0 1048576&&true))))))))
 else bif f.Kind==2 then true&&(nb f.Read.Mat 0 39&&(nb f.Read.Epoch 0 255&&(nb f.Read.Chip 0 1048576&&(nb f.Read.Local (-1099511627776) 1099511627776&&true))))
 else bif f.Kind==3 then true&&(nb f.Beacon.Mat 0 39&&(nb f.Beacon.Epoch 0 255&&(nb f.Beacon.Local (-1099511627776) 1099511627776&&(nb f.Beacon.True (-1099511627776) 1099511627776&&(nb f.Beacon.Err 0 1099511627776&&true)))))
 else bif f.Kind==4 then decide (f.Sync.Min<=f.Sync.Max)&&(nb f.Sync.MatA 0 39&&(nb f.Sync.EpochA 0 255&&(nb f.Sync.LocalA (-1099511627776) 1099511627776&&(nb f.Sync.MatB 0 39&&(nb f.Sync.EpochB 0 255&&(nb f.Sync.LocalB (-1099511627776) 1099511627776&&(nb f.Sync.Min (-1099511627776) 1099511627776&&(nb f.Sync.Max (-1099511627776) 1099511627776&&true))))))))
 else bif f.Kind==5 then decide (f.Hand.Lo<=f.Hand.Hi)&&(nb f.Hand.Bib 1 9999&&(nb f.Hand.Position 0 255&&(nb f.Hand.Lo (-1099511627776) 1099511627776&&(nb f.Hand.Hi (-1099511627776) 1099511627776&&true))))
 else bif f.Kind==6 then decide (f.Silence.Lo<=f.Silence.Hi)&&(nb f.Silence.Mat 0 39&&(nb f.Silence.Epoch 0 255&&(nb f.Silence.Lo (-1099511627776) 1099511627776&&(nb f.Silence.Hi (-1099511627776) 1099511627776&&true))))
 else bif f.Kind==7 then decide (f.Pair.A<f.Pair.B)&&(nb f.Pair.A 1 9999&&(nb f.Pair.B 1 9999&&true))
 else bif f.Kind==8 then true&&(nb f.Report.Case 1 1048576&&(nb f.Report.Bib 1 9999&&(nb f.Report.Offence 0 31&&(nb f.Report.Position 0 255&&true))))
 else bif f.Kind==9 then true&&(nb f.Protest.Case 1 1048576&&(nb f.Protest.By 0 9999&&(nb f.Protest.Fee 0 1125899906842624&&(nb f.Protest.Form 0 1&&true))))
 else bif f.Kind==10 then true&&(nb f.Ruling.Case 1 1048576&&(nb f.Ruling.Instance 1 2&&(nb f.Ruling.Kind 1 5&&(bif (f.Ruling.Kind==1)||(f.Ruling.Kind==2)then nb f.Ruling.Bib 0 0&&(nb f.Ruling.Position 0 0&&(nb f.Ruling.Amount 0 0&&true))else bif f.Ruling.Kind==3 then nb f.Ruling.Bib 1 9999&&(nb f.Ruling.Position 0 255&&(nb f.Ruling.Amount 1 1099511627776&&true))else bif f.Ruling.Kind==4 then nb f.Ruling.Bib 1 9999&&(nb f.Ruling.Position 0 255&&(nb f.Ruling.Amount 1 64&&true))else nb f.Ruling.Bib 1 9999&&(nb f.Ruling.Position 0 255&&(nb f.Ruling.Amount 0 0&&true))))))
 else bif f.Kind==11 then true&&(nb f.Appeal.Case 1 1048576&&(nb (A7 f) 0 1&&true))
 else bif f.Kind==12 then true&&true
 else bif f.Kind==13 then true&&(nb f.Void.Crew 0 31&&(nb f.Void.No 1 1048576&&true))
 else false
theorem jq(f:AC):(f.Kind=1\/f.Kind=2\/f.Kind=3\/f.Kind=4\/f.Kind=5\/f.Kind=6\/f.Kind=7\/f.Kind=8\/f.Kind=9\/f.Kind=10\/f.Kind=11\/f.Kind=12\/f.Kind=13)\/((f.Kind==1)=false/\(f.Kind==2)=false/\(f.Kind==3)=false/\(f.Kind==4)=false/\(f.Kind==5)=false/\(f.Kind==6)=false/\(f.Kind==7)=false/\(f.Kind==8)=false/\(f.Kind==9)=false/\(f.Kind==10)=false/\(f.Kind==11)=false/\(f.Kind==12)=false/\(f.Kind==13)=false):=by
 grind
theorem pX(f:AC):Do f=Bu f:=by
 rcases jq f with k|⟨q,t,w,E,z,y,r,s,u,i,n,h,l⟩
 .rcases k with k|k|k|k|k|k|k|k|k|k|k|k|k
  case inr.inr.inr.inr.inr.inr.inr.inr.inr.inl=>
   obtain⟨Cr,No,At,Ki,S,R,B,Sy,Ha,Si,Pa,Re,Pr,⟨m,p,a,g,e,d⟩,Ap,Vo⟩:=f;simp only at k;subst k;have j:Ah ⟨Cr,No,At,10,S,R,B,Sy,Ha,Si,Pa,Re,Pr,⟨m,p,a,g,e,d⟩,Ap,Vo⟩=(bif (a==1)||(a==2)then AI.c9 (0,0,0,0,0,0)else bif a==3 then .c9 (1,9999,0,255,1,1099511627776)else bif a==4 then .c9 (1,9999,0,255,1,64)else .c9 (1,9999,0,255,0,0)):=rfl;have x:Bu ⟨Cr,No,At,10,S,R,B,Sy,Ha,Si,Pa,Re,Pr,⟨m,p,a,g,e,d⟩,Ap,Vo⟩=(true&&(nb m 1 1048576&&(nb p 1 2&&(nb a 1 5&&(bif (a==1)||(a==2)then nb g 0 0&&(nb e 0 0&&(nb d 0 0&&true))else bif a==3 then nb g 1 9999&&(nb e 0 255&&(nb d 1 1099511627776&&true))else bif a==4 then nb g 1 9999&&(nb e 0 255&&(nb d 1 64&&true))else nb g 1 9999&&(nb e 0 255&&(nb d 0 0&&true))))))):=rfl;rw[x];unfold Do;rw[j];cases((a==1)||(a==2))with
   |true=>rfl
   |false=>
    cases(a==3)with
    |true=>rfl
    |false=>cases(a==4)<;>rfl
  all_goals
   obtain⟨Cr,No,At,Ki,S,R,B,Sy,Ha,Si,Pa,Re,Pr,Ru,Ap,Vo⟩:=f;simp only at k;subst k;rfl
 .have j:Ah f=.c13 ():=by unfold Ah;grind
  unfold Do Bu;rw[j,q,t,w,E,z,y,r,s,u,i,n,h,l];rfl
theorem Jm(n:Nat)(v a b:Int):C5 n v a b=some (nb v a b):=by
 unfold C5 nb;have d:decide (a<=v)= !decide (v<a):=by grind
 have e:decide (v<=b)= !decide (b<v):=by grind
 rw[d,e]
 grind
theorem KD(a:Bool)(b:AB Bool)(c:Bool)(h:b=some c):(bif a then b else some false)=some (a&&c):=by
 grind
theorem Nj(n:Nat)(v:Int):Iq n v=some (nb v 1 9999):=by unfold Iq;rw[Jm];rfl
theorem aT(n:Nat)(v:Int):Nt n v=some (nb v 0 39):=by unfold Nt;rw[Jm];rfl
theorem bT(n:Nat)(v:Int):Nv n v=some (nb v 0 255):=by unfold Nv;rw[Jm];rfl
theorem WZ(n:Nat)(v:Int):Iu n v=some (nb v 0 1048576):=by unfold Iu;rw[Jm];rfl
theorem JU(n:Nat)(v:Int):Nu n v=some (nb v 0 255):=by unfold Nu;rw[Jm];rfl
theorem bN(n:Nat)(v:Int):Ft n v=some (nb v 1 1048576):=by unfold Ft;rw[Jm];rfl
theorem qc(n:Nat)(v:Int):I9 n v=some (nb v 1 1048576):=by unfold I9;rw[Jm];rfl
theorem oH(n:Nat)(v:Int):I4 n v=some (nb v 0 31):=by unfold I4;rw[Jm];rfl
theorem Sl(n:Nat)(v:Int):Fo n v=some (nb v (-1099511627776) 1099511627776):=by unfold Fo;rw[Jm];rfl
theorem yf(n:Nat)(f:AC):MJ n f=some (Bu f):=by
 unfold MJ Bu;cases(f.Kind==1)with
 |true=>
  simp_all[R3,Nj,Sl,WZ,Jm,KD]
 |false=>
 cases(f.Kind==2)with
 |true=>simp_all[aT,bT,Sl,WZ,KD]
 |false=>
 cases(f.Kind==3)with
 |true=>simp_all[aT,bT,Sl,Jm,KD]
 |false=>
 cases(f.Kind==4)with
 |true=>
  unfold P5;simp only[aT,bT,Sl,WZ,Jm,XH,Vk,Vl,KD _ _ _ rfl,Option.some.injEq,Vw,Bool.and_true]
  grind
 |false=>
 cases(f.Kind==5)with
 |true=>
  simp only[Nj,JU,Sl,WZ,Jm,XH,Vk,Vl,KD _ _ _ rfl,Option.some.injEq,Vw,Bool.and_true]
  grind
 |false=>
 cases(f.Kind==6)with
 |true=>
  simp only[aT,bT,Sl,WZ,Jm,XH,Vk,Vl,KD _ _ _ rfl,Option.some.injEq,Vw,Bool.and_true]
  grind
 |false=>
 cases(f.Kind==7)with
 |true=>
  simp only[Nj,Jm,XH,Vk,Vl,KD _ _ _ rfl,Option.some.injEq,Vw,Bool.and_true];rw[XW];simp only[XU,Ht,Vm];omega
 |false=>
 cases(f.Kind==8)with
 |true=>simp only[Nj,bN,JU,Jm,XH,Vk,Vl,KD _ _ _ rfl,Option.some.injEq,Vw,Bool.and_true]
 |false=>
 cases(f.Kind==9)with
 |true=>simp only[Nj,bN,JU,Jm,XH,Vk,Vl,KD _ _ _ rfl,Option.some.injEq,Vw,Bool.and_true]
 |false=>
 cases(f.Kind==10)with
 |true=>
  unfold SC;simp only[bN,Jm,XH,Vk,Vl,Vw];have a:∀v:Int,(v==0)=nb v 0 0:=by intro v;rw[XW,Ht,Vu];omega
  cases nb f.Ruling.Case 1 1048576 with
  |false=>rfl
  |true=>
   cases nb f.Ruling.Instance 1 2 with
   |false=>rfl
   |true=>
    simp only[Xh,Vl,XH,Vw];by_cases g:f.Ruling.Kind=1
    .rw[g];simp only[a];cases nb f.Ruling.Bib 0 0 with
     |false=>rfl
     |true=>cases nb f.Ruling.Position 0 0 with
      |false=>rfl
      |true=>cases nb f.Ruling.Amount 0 0<;>rfl
    by_cases j:f.Ruling.Kind=2
    .rw[j];simp only[a];cases nb f.Ruling.Bib 0 0 with
     |false=>rfl
     |true=>cases nb f.Ruling.Position 0 0 with
      |false=>rfl
      |true=>cases nb f.Ruling.Amount 0 0<;>rfl
    by_cases d:f.Ruling.Kind=3
    .rw[d];simp only[a,Nj,JU,Jm,XH];cases nb f.Ruling.Bib 1 9999 with
     |false=>rfl
     |true=>cases nb f.Ruling.Position 0 255 with
      |false=>rfl
      |true=>cases nb f.Ruling.Amount 1 1099511627776<;>rfl
    by_cases h:f.Ruling.Kind=4
    .rw[h];simp only[a,Nj,JU,Jm,XH];cases nb f.Ruling.Bib 1 9999 with
     |false=>rfl
     |true=>cases nb f.Ruling.Position 0 255 with
      |false=>rfl
      |true=>cases nb f.Ruling.Amount 1 64<;>rfl
    by_cases i:f.Ruling.Kind=5
    .rw[i];simp only[a,Nj,JU,Jm,XH];cases nb f.Ruling.Bib 1 9999 with
     |false=>rfl
     |true=>cases nb f.Ruling.Position 0 255 with
      |false=>rfl
      |true=>cases nb f.Ruling.Amount 0 0<;>rfl
    have e:nb f.Ruling.Kind 1 5=false:=by
     rw[VI,ne_eq,Ht];omega
    rw[e,Vv.2 g,Vv.2 j,Vv.2 d,Vv.2 h,Vv.2 i];rfl
 |false=>
 cases(f.Kind==11)with
 |true=>
  have e:nb (A7 f) 0 1=true:=by unfold A7;cases f.Appeal.Suspends<;>rfl
  simp only[bN,XH,Vk,Vl,e,Vw,Bool.and_true]
 |false=>
 cases(f.Kind==12)with
 |true=>rfl
 |false=>
 cases(f.Kind==13)with
 |true=>simp only[oH,qc,Jm,XH,Vk,Vl,KD _ _ _ rfl,Option.some.injEq,Vw,Bool.and_true]
 |false=>rfl
theorem vn(n:Nat)(f:AC):MA n f=some (B8 f):=by
 rcases jq f with k|⟨j,q,p,m,i,s,l,h,r,g,e,a,d⟩
 .rcases k with k|k|k|k|k|k|k|k|k|k|k|k|k
  all_goals
   obtain⟨Cr,No,At,Ki,S,R,B,Sy,Ha,Si,Pa,Re,Pr,Ru,Ap,Vo⟩:=f;subst k;rfl
 .unfold MA B8
  grind
theorem yr{f:AC}(h:Bu f=true):nb f.Kind 1 13=true:=by
 rw[Ht];rcases jq f with k|⟨l,q,p,n,j,s,m,i,r,g,e,a,d⟩
 .omega
 grind[Bu]
theorem wK(f:AC):F5 f=(nb f.Kind 1 13&&(nb f.Crew 0 31&&(nb f.No 1 1048576&&(nb f.At 0 1099511627776&&true)))):=rfl
theorem p_(n:Nat)(f:AC):J8 n f=some (bif AL f then 0 else 120):=by
 unfold J8;rw[oH,qc,Jm,yf,vn,cJ,pX,wK];simp[XH];have a:= @yr f
 grind
theorem vm(n:Nat)(f:AC):MK n f=some (B4 f):=by
 unfold MK B4;cases(f.Kind==1)with
 |true=>rfl
 |false=>
 cases(f.Kind==2)with
 |true=>rfl
 |false=>
 cases(f.Kind==3)with
 |true=>rfl
 |false=>
 cases(f.Kind==4)with
 |true=>rfl
 |false=>
 cases(f.Kind==5)with
 |true=>rfl
 |false=>
 cases(f.Kind==6)with
 |true=>rfl
 |false=>
 cases(f.Kind==7)with
 |true=>rfl
 |false=>
 cases(f.Kind==8)with
 |true=>rfl
 |false=>
 cases(f.Kind==9)with
 |true=>rfl
 |false=>
 cases(f.Kind==10)with
 |true=>rfl
 |false=>
 cases(f.Kind==11)with
 |true=>
  unfold A7;cases f.Appeal.Suspends<;>rfl
 |false=>
 cases(f.Kind==13)with
 |true=>rfl
 |false=>rfl
theorem zK(l:AA Int)(hl:l.length<=1000):Ev (λn=>RE n l) (l.map Bm):=by
 refine Ea ?_ (Qa _);have e:∀(m:AA Int) (a:AA Value),m.foldl (λa x=>a++[Bm x]) a=a++m.map Bm:=by
  intro m
  induction m with
  |nil=>simp
  |cons x m h=>grind
 refine Et (QA l (λa x=>a++[Bm x]) [] (λa i=>(a,(i:Int))) (λa=>a) (by omega) rfl (λi x a d g=>?_) ?_) (by rw[e];rfl)
 .unfold PR RG;simp only[d.lt,d.ix,XH,d.nx];have f:a.length<=1000:=by grind
  rw[Jw _ _ (by omega)];exact Qa _
 simp_all[PR,Qa]
theorem zu(n:Nat)(x:Int)(h:DP x):Mc n x=some (C6 x):=by
 obtain⟨d,a⟩:=h;unfold Mc;simp only[Sm];by_cases p:0<=x
 .rw[Yb p,oQ p a]
  grind
 .rw[YA p,oP (by omega) d,Q4 (show-9223372036854775808<=x+1 by omega) (by omega),Q4 (by omega) (by omega)]
  grind
theorem Qg8:∀(k v:Nat),v<128^(k+1)->k<=9->v<18446744073709551616->Ev (λn=>N1 n (v:Int)) (Bc v):=by
 intro k
 induction k with
 |zero=>
  intro v d _ _;refine QX ?_;show Ev (λn=>TI (N1 n) n v) _
  grind[TI,S3,Qa]
 |succ k g=>
  intro v d j f;refine QX ?_;show Ev (λn=>TI (N1 n) n v) _;unfold TI;by_cases q:v<128
  .grind[S3,Qa]
  .rw[YA (show¬(v:Int)<128 by omega)];have a:v/128<128^(k+1):=by rw[Nat.div_lt_iff_lt_mul (by decide)];exact d
   have h:u64.wrap (Int.tdiv v 128)=v/128:=by
    rw[Sm,Int.tdiv_eq_ediv_of_nonneg (by omega)];omega
   have i:u8.wrap (u64.wrap ((Int.tmod v 128)+128))=v%128+128:=by
    rw[jj,Sm,Int.tmod_eq_emod_of_nonneg (by omega)];omega
   rw[h,i,cE v,Vp (show 128<=v by omega)];refine Ea (g (v/128) a (by omega) (by omega)) ?_;have e:=pv k (v/128) a;rw[Wc _ _ (by simp;omega)];exact Qa _
theorem qu(v:Nat)(h:v<18446744073709551616):Ev (λn=>N1 n (v:Int)) (Bc v):=Qg8 9 v (by omega) (XR _) h
theorem zH(x:Int)(h:DP x):Ev (λn=>N0 n (Bm x)) (Bq x):=by
 refine QX ?_;show Ev (λn=>TH (N0 n) n (Bm x)) _;unfold TH;have e:((Bm x).Kind==1)=true:=rfl;obtain⟨z,d,a⟩:=WU x;refine Ea (EA (zu 0 x h)) ?_;rw[d];refine Ea (qu z a) ?_
 grind[cT,Wc,Qa,Bq]
theorem zI(l:AA Int)(hl:l.length<=1000)(h:∀x∈l,DP x):Ev (λn=>N0 n (Aj l)) (B5 l):=by
 refine QX ?_;show Ev (λn=>TH (N0 n) n (Aj l)) _;unfold TH;have e:((Aj l).Kind==1)=false:=rfl;have r:((Aj l).Kind==2)=false:=rfl;have w:(Aj l).L=l.map Bm:=rfl;rw[e,r,w];have u:u64.wrap (((l.map Bm).length:Int))=((l.length:Nat):Int):=by
  rw[Sm,XZ];omega
 rw[u];refine Ea (qu l.length (by omega)) ?_;have s:=cT (show l.length<18446744073709551616 by omega);rw[Wc _ _ (by simp;omega)];refine Ea (Qa _) ?_;refine Ea ?_ (Qa _);have d:∀(m:AA Int) (a:AA Int),((m.map Bm).foldl (λa (v:Value)=>a++Bq v.N) a).length<=a.length+11*m.length:=by
  intro m
  induction m with
  |nil=>intro a;simp
  |cons x m t=>
   grind[kj]
 have k:=QA (step:=λn=>Lt n (Aj l) (N0 n)) (l.map Bm) (λa (v:Value)=>a++Bq v.N) ([3]++Bc l.length) (λa i=>(a,(i:Int))) (λa=>a) (by grind) rfl (λi x a f q=>?_) ?_
 .refine Et k ?_;have:∀(m:AA Int) (a:AA Int),(m.map Bm).foldl (λa (v:Value)=>a++Bq v.N) a=a++(m.map Bq).flatten:=by
   intro m
   induction m with
   |nil=>intro a;simp
   |cons x m t=>grind[Bm]
  rw[this];rfl
 .obtain⟨y,z,rfl⟩:=Xf.1 f.mem;have hal:=by
   have j:=d (l.take i) ([3]++Bc l.length);rw[List.map_take, <- q,X0,Xx]at j;simp at j;omega
  unfold Lt;have g:decide ((i:Int)<((Aj l).L.length:Int))=true:=f.lt;have p:AJ (Aj l).L (i:Int)=some (Bm y):=f.ix;simp only[g,Vk,p,XH,f.nx];refine Ea (zH y (h y z)) ?_;have j:=kj y;have:app a (Bq y)=some (a++Bq y):=by
   unfold app;have:Nat.ble (a.length+(Bq y).length) QE=true:=XQ (XT (show _<=1000000 by omega) (by decide));rw[this];rfl
  rw[this];exact Qa _
 simp_all[Lt,Qa]
theorem Qg9(x:Int):Ev (λn=>HU n (Bm x)) true:=by
 refine QX ?_;exact Qa _
theorem QiN(l:AA Int)(hl:l.length<=1000):Ev (λn=>HU n (Aj l)) true:=by
 refine QX ?_;show Ev (λn=>M8 (HU n) n (Aj l)) _;unfold M8;have h:((Aj l).Kind==1)=false:=rfl;have j:((Aj l).Kind==2)=false:=rfl;have k:((Aj l).Kind==3)=true:=rfl;refine Ea (v:=AG.k ()) (Ew (λi=>(i:Int)) (l.map Bm).length rfl (λi f=>?_) ?_) (Qa _)
 .have d:=JB (by grind) (XI f);obtain⟨y,g⟩:∃y,(l.map Bm)[i]=Bm y:=by grind
  unfold Pq;have a:decide (i<((Aj l).L.length:Int))=true:=d.lt;have e:AJ (Aj l).L i=some (l.map Bm)[i]:=d.ix;simp only[a,e,XH,d.nx];rw[g];exact Ea (Qg9 y) (Qa _)
 simp_all[Pq,Aj,Qa]
theorem QiQ(x:Int):Ev (λn=>HV n (Bm x)) 0:=by
 refine QX ?_;exact Qa _
theorem QiP(l:AA Int)(hl:l.length<=1000):Ev (λn=>HV n (Aj l)) 1:=by
 refine QX ?_;show Ev (λn=>M9 (HV n) n (Aj l)) _;unfold M9;have h:((Aj l).Kind != 3)=false:=rfl;refine Ea (v:=0) (Ew (λi=>(0,(i:Int))) (l.map Bm).length rfl (λi f=>?_) ?_) (Qa _)
 .have d:=JB (by grind) (XI f);obtain⟨y,g⟩:∃y,(l.map Bm)[i]=Bm y:=by grind
  unfold Po;have a:decide ((i:Int)<(Aj l).L.length)=true:=d.lt;have e:AJ (Aj l).L i=some (l.map Bm)[i]:=d.ix;simp only[a,e,XH,d.nx];rw[g];exact Ea (QiQ y) (Qa _)
 simp_all[Po,Aj,Qa]
theorem xd(f:AC):(B4 f).length<=12:=by
 unfold B4;cases(f.Kind==1)with
 |true=>simp
 |false=>
 cases(f.Kind==2)with
 |true=>simp
 |false=>
 cases(f.Kind==3)with
 |true=>simp
 |false=>
 cases(f.Kind==4)with
 |true=>simp
 |false=>
 cases(f.Kind==5)with
 |true=>simp
 |false=>
 cases(f.Kind==6)with
 |true=>exact XP rfl
 |false=>
 cases(f.Kind==7)with
 |true=>exact XP rfl
 |false=>
 cases(f.Kind==8)with
 |true=>exact XP rfl
 |false=>
 cases(f.Kind==9)with
 |true=>exact XP rfl
 |false=>
 cases(f.Kind==10)with
 |true=>exact XP rfl
 |false=>
 cases(f.Kind==11)with
 |true=>exact XP rfl
 |false=>cases(f.Kind==13)<;>exact XP rfl
theorem s_(f:AC):Ev (λn=>M4 n f) (CB f):=by
 refine Ea (Wk (Qa _) λn=>p_ n f) ?_;cases a:AL f with
 |false=>
  unfold CB;rw[a];exact Qa _
 |true=>
  rw[k_ a];refine Ea (Wk (Qa _) λn=>vm n f) ?_;have d:=xd f;refine Ea (zK _ (by omega)) (Ea (v:=(B5 (B4 f),0)) ?_ (Qa _));exact Ea (Ea (QiN _ (by omega)) (Ea (QiP _ (by omega)) (Qa _))) (Ea (zI _ (by omega) (r9 a)) (Qa _))
theorem oi:∀a b:AA UInt8,Op.bytesLess a b=decide (Lib.compareBytes a b<0)
 |[],[]=>rfl
 |[],_::_=>rfl
 |_::_,[]=>rfl
 |a::x,b::y=>by
  unfold Op.bytesLess Lib.compareBytes;by_cases h:a<b
  .grind
  .rw[Vn h,YA h];by_cases h2:b<a
   .grind
   .rw[Vn h2];have:a=b:=by
     grind
    rw[this,beq_self_eq_true,oi x y];rfl
theorem pW:∀a b:AA UInt8,Lib.compareBytes a b= -1\/Lib.compareBytes a b=0\/Lib.compareBytes a b=1
 |[],[]=>.inr (.inl rfl)
 |[],_::_=>.inl rfl
 |_::_,[]=>.inr (.inr rfl)
 |a::x,b::y=>by
  unfold Lib.compareBytes;split
  .omega
  .split
   .omega
   .exact pW x y
theorem tM(f g:AC):Ev (λn=>MT n f g) (As f g):=by
 refine QX (QX (QX (QX ?_)));unfold MT;rw[kZ];have j:∀n,Ij n f g 0=(bif f.At<g.At then some (.d (.d (-1)))else bif g.At<f.At then some (.d (.d 1))else some (.k 1)):=λn=>rfl;have i:∀n,Ij n f g 1=(bif f.Crew<g.Crew then some (.d (.d (-1)))else bif g.Crew<f.Crew then some (.d (.d 1))else some (.k 2)):=λn=>rfl;have d:∀n,Ij n f g 2=(bif f.No<g.No then some (.d (.d (-1)))else bif g.No<f.No then some (.d (.d 1))else some (.k 3)):=λn=>rfl;have a:∀n,Ij n f g 3=some (.d (.k ())):=λn=>rfl;simp[iter,j];unfold BG;cases decide (f.At<g.At)with
 |true=>exact Qa _
 |false=>
 cases decide (g.At<f.At)with
 |true=>exact Qa _
 |false=>
 simp[Vl,i];cases decide (f.Crew<g.Crew)with
 |true=>exact Qa _
 |false=>
 cases decide (g.Crew<f.Crew)with
 |true=>exact Qa _
 |false=>
 simp[Vl,d];cases decide (f.No<g.No)with
 |true=>exact Qa _
 |false=>
 cases decide (g.No<f.No)with
 |true=>exact Qa _
 |false=>
 simp[Vl,a,XH];refine Ea (Ev.shift (Ev.shift (Ev.shift (Ev.shift (s_ f))))) (Ea (Ev.shift (Ev.shift (Ev.shift (Ev.shift (s_ g))))) ?_);unfold cmpB;rw[oi];rcases pW ((CB f).1.map Yp) ((CB g).1.map Yp)with h|h|h
 .rw[h];exact Qa _
 .have e:=jT h;rw[h,e,beq_self_eq_true];exact Qa _
 .have:((CB f).1.map Yp==(CB g).1.map Yp)=false:=by
   rw[Vv];intro e;rw[e,NP.refl]at h;cases h
  rw[h,this];exact Qa _
def Bf(x:AC):AA AC->Nat
 |[]=>0
 |y::r=>bif As y x<0 then Bf x r+1 else 0
theorem qM(x:AC):∀l:AA AC,Bf x l<=l.length
 |[]=>XR _
 |y::r=>by
  unfold Bf;have:=qM x r
  grind
theorem rK(x:AC):∀l:AA AC,Br x l=if l[Bf x l]?=some x then l else l.take (Bf x l)++x::l.drop (Bf x l)
 |[]=>by simp[Br]
 |y::r=>by
  unfold Br Bf;cases decide (As y x<0)with
  |true=>
   simp only[Vk];rw[rK x r]
   grind
  |false=>
   simp
theorem uV(l:AA AC)(hl:l.length<=1048576)(a:AA AC)(p:a.length<=1048576){i:Nat}{x:AC}(h:At l i x):
  Ev (λn=>iter (HI n l (a,(i:Int))) n 0) ((Bf x a:Nat):Int):=by
 have loop:∀(r:AA AC) (j:Nat),a.drop j=r->j<=a.length->BH (λn=>HI n l (a,i)) j (j+Bf x r):=by
  intro r
  induction r with
  |nil=>
   intro j e g;refine Ei ?_;unfold HI;simp only[QY e g,Vl];exact Qa _
  |cons y r m=>
   intro j e g;obtain⟨d,f⟩:=Qw (by omega) e;have k:=d.lt';unfold Bf;cases q:decide (As y x<0)with
   |true=>
    refine Eu ?_ ((m (j+1) f (by omega)).eq (by simp[Vk];omega));unfold HI;simp only[d.lt,d.ix,h.ix,XH,d.nx];refine Ea (Ea (tM y x) ((Qa _).eq q)) (Qa _)
   |false=>
    refine Ei ?_;unfold HI;simp only[d.lt,d.ix,h.ix,XH];refine Ea (Ea (tM y x) ((Qa _).eq q)) (Qa _)
 have:=(loop a 0 rfl (XS _)).ev
 grind
theorem kS(x:AC):∀l:AA AC,(Br x l).length<=l.length+1
 |[]=>by simp[Br]
 |y::r=>by
  unfold Br;have:=kS x r
  grind
theorem O7{α:Type}(l m:AA α)(h:l.length+m.length<=4000000):app l m=some (l++m):=by
 unfold app;have:Nat.ble (l.length+m.length) QE=true:=XQ (XT h (by decide))
 grind
theorem cW(l:AA AC)(hl:l.length<=1048575):Ev (λn=>HQ n l) (AH l):=by
 refine Ea (v:=AH l) ?_ (Qa _);refine QA l (λa x=>bif AL x then Br x a else a) [] (λa i=>(a,(i:Int))) (λa=>a) (by omega) rfl (λi x a e h=>?_) ?_
 .have g:a.length<=i:=by
   have:∀(m:AA AC) (a:AA AC),(m.foldl (λa x=>bif AL x then Br x a else a) a).length<=a.length+m.length:=by
    intro m
    induction m with
    |nil=>intro a;simp
    |cons x m k=>
     grind[kS]
   grind
  have f:=e.lt';unfold PO;simp only[e.lt,Vk,e.ix,XH,e.nx,p_];refine Ea ?_ (Qa _);cases j:AL x with
  |false=>exact Qa _
  |true=>
   refine Ea (uV l (by omega) a (by omega) e) ?_;have d:=qM x a;refine Ea (v:=decide (a[Bf x a]?=some x)) ?_ ?_
   .by_cases q:Bf x a<a.length
    .have hg:=XI q;rw[Yb (show((Bf x a:Nat):Int)<(a.length:Int)by omega),Yi hg,hg];refine(Qa _).eq ?_;rw[XW];simp
    .rw[YA (show¬((Bf x a:Nat):Int)<(a.length:Int)by omega)];refine(Qa _).eq ?_;rw[XM (by omega)];simp
   .rw[rK x a];by_cases q:a[Bf x a]?=some x
    .rw[Yb q,Vp q];exact Qa _
    .rw[YA q,Vn q];rw[WY a d,W2 a d];simp only[XH];rw[O7 [] _ (by simp;omega)];simp only[XH];rw[O7 _ [x] (by simp;omega)];simp only[XH];rw[O7 _ _ (by simp;omega)];refine(Qa _).eq ?_;simp
 simp_all[PO,Qa]
theorem uF{α:Type}[DecidableEq α](l m:AA α)(step:Nat->Int->AB (AG Int (AG Unit Bool)))(hl:l.length<=4611686018427387904)
  (p:∀n s,step n s=(bif s<(l.length:Int) then(AJ l s).bind λx=>(AJ m s).bind λy=>(bif (x != y)then some (.d (.d false))else some (.k (i64.wrap (s+1))))else some (.d (.k ())))):
  Ev (λn=>(bif ((l.length:Int) != (m.length:Int))then some false else(Go.Sw.iter (step n) n 0:AB (AG Unit Bool)).bind λb11=>match b11 with|.k sb11=>(some true)|.d sb11=>some sb11)) (decide (l=m)):=by
 by_cases g:l.length=m.length
 .rw[show(l.length != (m.length:Int))=false by grind];have loop:∀(r d:AA α) (i:Nat),l.drop i=r->m.drop i=d->i<=l.length->BH step i (bif r=d then AG.k ()else AG.d false):=by
   intro r
   induction r with
   |nil=>
    grind[BH.done,Qa,QY]
   |cons x r u=>
    intro d i t h w;obtain⟨a,j⟩:=Qw hl t;have q:=a.lt';cases d with
    |nil=>
     have h1:=Xr.1 h;omega
    |cons y d=>
     obtain⟨k,f⟩:=Qw (by omega) h;by_cases e:x=y
     .subst e;refine Eu ?_ ((u d (i+1) j f (by omega)).eq ?_)
      .refine Wk (Qa _) λn=>?_;rw[p,a.lt,a.ix,k.ix,Vk,XH,XH,a.nx];simp
      .simp
     .refine Ei (Wk (Qa _) λn=>?_);rw[p,a.lt,a.ix,k.ix,Vk,XH,XH,bne_iff_ne.2 e];simp[e]
  refine Ea (loop l m 0 rfl rfl (XS _)).ev ?_;cases decide (l=m)<;>exact Qa _
 .rw[show(l.length != (m.length:Int))=true by rw[bne_iff_ne];omega];refine(Qa _).eq ?_;rw[YA λe=>g (by rw[e])]
def A8(b:Int)(s:Starter):Bool:=s.Bib==b
def Dd(x:AA Starter)(b:Int)(i:Nat):AG Unit Int:=match(x.drop i).findIdx? (A8 b)with
 |some j=>.d ((i+j:Nat):Int)
 |none=>.k ()
def G3(x:AA Starter)(b:Int):Int:=match x.findIdx? (A8 b)with
 |some j=>(j:Int)
 |none=> -1
theorem wF{x:AA Starter}{b:Int}{i:Nat}{s:Starter}(h:At x i s)(e:A8 b s=true):Dd x b i=.d (i:Int):=by
 unfold Dd;rw[h.drop,List.findIdx?_cons,e];simp
theorem vT{x:AA Starter}{b:Int}{i:Nat}{s:Starter}(h:At x i s)(e:A8 b s=false):Dd x b i=Dd x b (i+1):=by
 unfold Dd;rw[h.drop,List.findIdx?_cons,e]
 grind
theorem wE(x:AA Starter)(b:Int):Dd x b x.length=.k ():=by
 unfold Dd;simp
theorem x5(x:AA Starter)(b:Int):Dd x b 0=match x.findIdx? (A8 b)with
 |some j=>.d (j:Int)
 |none=>.k ():=by
 unfold Dd;simp
def Kw(x:AA Starter)(b:Int):AB Starter:=x.find? (A8 b)
theorem x6(x:AA Starter)(b:Int):(G3 x b= -1/\Kw x b=none)\/ ∃(j:Nat) (s:Starter),G3 x b=(j:Int)/\Kw x b=some s/\x[j]?=some s:=by
 unfold G3 Kw
 induction x with
 |nil=>simp
 |cons s x g=>
  rw[List.findIdx?_cons,List.find?_cons];cases e:A8 b s with
  |true=>exact .inr ⟨0,s,rfl,rfl,rfl⟩
  |false=>
   rcases g with⟨a,h⟩|⟨j,k,a,h,i⟩
   .grind
   .right;cases q:x.findIdx? (A8 b)with
    |none=>grind
    |some d=>
     rw[q]at a;have:d=j:=by have f:(d:Int)=j:=a;omega
     grind
theorem lU{c:AE}(h:AE.wf c):Ae c:=by
 obtain⟨i,⟨k,m⟩,⟨g,t⟩,⟨p,d⟩,⟨l,f⟩,⟨e,q⟩,⟨j,r⟩,⟨n,s⟩,_⟩:=h;exact⟨i,k,λx a=>(m x a).1,g,p,λx a=>(d x a).1,λx a=>(d x a).2.2.2.1.1,l,λx a=>(f x a).1,e,λx a=>(q x a).1,j,λx a=>(r x a).1,n⟩
theorem lN{c:AE}(h:AE.wf c):BX c:=by
 obtain⟨_,_,_,⟨f,e⟩,_⟩:=h;exact⟨λd a=>(e d a).2.1.1,λd a=>(e d a).2.1.2⟩
theorem jx{c:AE}(h:AE.wf c):c.Ties.length<=1048576/\ ∀x∈c.Ties,Step.wf x:=by
 obtain⟨_,_,_,_,_,_,_,_,a,_⟩:=h;exact a
theorem sB(e:Int)(c:AE)(l:AA AC):(Ax e c l).1.length<=l.length:=by
 unfold Ax;cases(e != 0)with
 |true=>simp
 |false=>
  simp[Vl];cases decide (((Bt (A3 c l)).map A').Nodup)with
  |false=>simp
  |true=>simp only[Vk];rw[XZ,kl];exact(Ws c l).len
def CZ(b:Int):AA Starter->Nat
 |[]=>0
 |y::r=>bif y.Bib<b then CZ b r+1 else 0
theorem qN(b:Int):∀l:AA Starter,CZ b l<=l.length
 |[]=>XR _
 |y::r=>by
  unfold CZ;have:=qN b r
  grind
def Du(s:Starter)(l:AA Starter):AA Starter:=l.take (CZ s.Bib l)++s::l.drop (CZ s.Bib l)
def CY(c:AE)(f:AC):Bool:=(f.Kind==1)&&(!decide ((c.Distances.length:Int)<=f.Starter.Distance)&& !decide ((c.Waves.length:Int)<=f.Starter.Wave))
def A0(c:AE)(out:AA Starter)(f:AC):AA Starter:=bif CY c f&& !(out.any (A8 f.Starter.Bib))then Du f.Starter out else out
theorem xK(s:Starter)(l:AA Starter):(Du s l).length=l.length+1:=by
 unfold Du;simp;omega
theorem zt(c:AE)(a:AA Starter)(f:AC):(A0 c a f).length<=a.length+1:=by
 unfold A0;cases CY c f&& !(a.any (A8 f.Starter.Bib))with
 |true=>simp[Vk];rw[xK];omega
 |false=>simp
theorem wG(c:AE):∀(m:AA AC) (a:AA Starter),(m.foldl (A0 c) a).length<=a.length+m.length:=by
 intro m
 induction m with
 |nil=>simp
 |cons x m d=>
  grind[zt]
theorem zS(x:AA Starter)(b:Int)(d:x.length<=1048576):Ev (λn=>Rl n x b) (G3 x b):=by
 refine Ea (cV x (λi=>(i:Int)) (Dd x b) (by omega) rfl (λi s a=>?_) ?_) ?_
 .cases e:A8 b s with
  |true=>
   refine .inr ?_;rw[wF a e];unfold LZ;simp only[a.lt,a.ix,XH]
   grind[A8,Qa]
  |false=>
   refine .inl ⟨?_,vT a e⟩;unfold LZ;simp only[a.lt,a.ix,XH];unfold A8 at e;rw[e,a.nx];exact Qa _
 .simp_all[LZ,wE,Qa]
 grind[x5,G3,Qa]
theorem vW(x:AA Starter)(b:Int):decide (0<=G3 x b)=x.any (A8 b):=by
 rw[XW,Vm,Xu]
 grind[x6,Kw]
theorem we(a:AA Starter)(m:a.length<=1048576)(f:AC)(i:Int):Ev (λn=>iter (HB n (a,i) f) n 0) ((CZ f.Starter.Bib a:Nat):Int):=by
 have loop:∀(r:AA Starter) (j:Nat),a.drop j=r->j<=a.length->BH (λn=>HB n (a,i) f) j (j+CZ f.Starter.Bib r):=by
  intro r
  induction r with
  |nil=>
   intro j e h;refine Ei ?_;unfold HB;simp only[QY e h,Vl];exact Qa _
  |cons y r l=>
   intro j e h;obtain⟨d,g⟩:=Qw (by omega) e;have k:=d.lt';unfold CZ;cases q:decide (y.Bib<f.Starter.Bib)with
   |true=>
    refine Eu ?_ ((l (j+1) g (by omega)).eq (by simp[Vk];omega));unfold HB;simp only[d.lt,d.ix,XH,d.nx,q];exact Qa _
   |false=>
    refine Ei ?_;unfold HB;simp[d.lt,d.ix,XH,q];exact Qa _
 have:=(loop a 0 rfl (XS _)).ev
 grind
theorem zJ(c:AE)(L:AA AC)(k:L.length<=1048576):Ev (λn=>iter (Lb n c L) n (([]:AA Starter),0)) (L.foldl (A0 c) []):=by
 refine QA L (A0 c) [] (λa i=>(a,(i:Int))) (λa=>a) (by omega) rfl (λi f a e h=>?_) ?_
 .have hal:=by
   have g:=wG c (L.take i) [];rw[<- h,Xx]at g;simp at g;omega
  have j:=e.lt';unfold Lb;simp only[e.lt,e.ix,XH,e.nx];refine Ea (Ea (v:= !(CY c f&& !(a.any (A8 f.Starter.Bib)))) ?_ ?_) (Qa _)
  .unfold CY bne;cases(f.Kind==1)with
   |false=>exact Qa _
   |true=>
    cases decide (c.Distances.length<=f.Starter.Distance)with
    |true=>exact Qa _
    |false=>
     cases decide (c.Waves.length<=f.Starter.Wave)with
     |true=>exact Qa _
     |false=>
      refine Yc (Yc (Ea (zS a _ (by omega)) ?_))
      grind[vW,Qa]
  .unfold A0;cases CY c f&& !(a.any (A8 f.Starter.Bib))with
   |false=>exact Qa _
   |true=>
    refine Ea (we a (by omega) f _) ?_;have d:=qN f.Starter.Bib a;rw[WY a d,W2 a d];simp[XH];rw[O7 [] _ (by simp;omega)]
    grind[O7,Qa,Du]
 simp_all[Lb,Qa]
def J_(s t:Starter):Prop:=s.Bib<t.Bib
theorem p9(s:Starter)(l:AA Starter)(t:Starter):t∈Du s l↔t=s\/t∈l:=by
 grind[Du,List.take_append_drop]
theorem se(s:Starter):∀(l:AA Starter),l.Pairwise J_->(∀t∈l,t.Bib≠s.Bib)->(Du s l).Pairwise J_
 |[],_,_=>by simp[Du]
 |y::r,h,hn=>by
  rw[Xc]at h;unfold Du CZ;cases q:decide (y.Bib<s.Bib)with
  |true=>
   have ih:=se s r h.2 (by grind);simp only[Vk,List.take_succ_cons,VG,Xc];refine⟨λt ht=>?_,ih⟩;rcases(p9 s r t).1 ht with rfl|ht
   .show y.Bib<t.Bib
    grind
   grind
  |false=>
   have q':=Vs q;have hy:=hn y (by simp);simp only[Vl,List.take_zero,List.drop_zero,Vd,Xc];refine⟨λt ht=>?_,h⟩;have h0:J_ s y:=by unfold J_;omega
   rcases X3.1 ht with rfl|ht
   .exact h0
   grind[J_]
theorem oq{c:AE}{f:AC}(a:AL f=true):C8 c f=CY c f:=by
 unfold C8 CY
 grind
theorem yg(c:AE)(L:AA AC)(h:B2 L):(L.foldl (A0 c) []).Pairwise J_/\ ∀s,s∈L.foldl (A0 c) []↔ ∃f,Ad c L f/\f.Starter=s:=by
 have z:∀(r p:AA AC) (a:AA Starter),p++r=L->a.Pairwise J_->(∀s,s∈a↔ ∃f,Ad c p f/\f.Starter=s)->(r.foldl (A0 c) a).Pairwise J_/\ ∀s,s∈r.foldl (A0 c) a↔ ∃f,Ad c L f/\f.Starter=s:=by
  intro r
  induction r with
  |nil=>grind
  |cons f r O=>
   intro p a F H y;have P:f∈L:=by grind
   have N:=h.2 f P;have G:∀g∈p,As g f<0:=by
    intro g d;have:=h.1;rw[<- F,List.pairwise_append]at this;exact this.2.2 g d f (by simp)
   have keep:∀g,Ad c p g->Ad c (p++[f]) g:=by
    rintro g ⟨i,j,M⟩;refine⟨by simp[i],j,?_⟩;intro k m n w;rcases Vz.1 m with m|m
    .grind
    .rw[Vx]at m;subst m;have:=G g i;have:=DT.swap g k;omega
   have u:∀g,Ad c (p++[f]) g->g∈p->Ad c p g:=by
    rintro g ⟨i,j,M⟩ d;exact⟨d,j,λk m n w=>M k (by simp[m]) n w⟩
   refine O (p++[f]) (A0 c a f) (by rw[<- F];simp) ?_ ?_
   .unfold A0;cases q:CY c f&& !(a.any (A8 f.Starter.Bib))with
    |false=>exact H
    |true=>
     rw[XU,Bool.not_eq_true',List.any_eq_false]at q;exact se _ _ H λt B e=>(q.2 t B (by unfold A8;rw[e];simp))
   .intro s;unfold A0;cases q:CY c f&& !(a.any (A8 f.Starter.Bib))with
    |false=>
     simp only[Vl];rw[y s];constructor
     .rintro⟨g,i,j⟩;exact⟨g,keep g i,j⟩
     .rintro⟨g,i,j⟩;rcases Vz.1 i.1 with d|d
      .exact⟨g,u g i d,j⟩
      .rw[Vx]at d;subst d;exfalso;have E:=i.2.1;rw[oq N]at E;rw[E,Vw,Bool.not_eq_false',Xu]at q;obtain⟨t,B,x⟩:=q;obtain⟨k,n,w⟩:=(y t).1 B;have m:k.Starter.Bib=g.Starter.Bib:=by
        rw[w];unfold A8 at x;simpa using x
       exact i.2.2 k (by simp[n.1]) n.2.1 m (G k n.1)
    |true=>
     rw[XU,Bool.not_eq_true',List.any_eq_false]at q;simp only[Vk];rw[p9,y s];constructor
     .rintro(rfl|⟨g,i,j⟩)
      .refine⟨f,⟨by simp,by rw[oq N];exact q.1,?_⟩,rfl⟩;intro g d i j;rcases Vz.1 d with d|d
       .exfalso;obtain⟨k,n,w,J⟩:=tB (c:=c) (l:=p) d i;refine q.2 k.Starter ((y _).2 ⟨k,⟨n,w,J.2⟩,rfl⟩) ?_;unfold A8;rw[J.1,j];simp
       .rw[Vx]at d;subst d;have:=DT.refl g;omega
      .exact⟨g,keep g i,j⟩
     .rintro⟨g,i,j⟩;rcases Vz.1 i.1 with d|d
      .exact .inr ⟨g,u g i d,j⟩
      .rw[Vx]at d;subst d;exact .inl j.symm
 exact z L [] [] rfl (by simp) (λs=>by
  constructor
  .intro h;cases h
  .rintro⟨f,⟨h,_⟩,_⟩;cases h)
theorem zw(c:AE)(l:AA AC):(AH l).foldl (A0 c) []=(Bt (A3 c l)).map (·.Starter):=by
 obtain⟨d,g⟩:=JX l;obtain⟨e,f⟩:=yg c (AH l) d;refine cU (λx h=>by unfold J_ at h;omega) (λx y z a b=>by unfold J_ at*;omega) e ?_ λs=>?_
 .rw[List.pairwise_map];exact QiF c l
 grind[xz,zn]
theorem Jo(l:AA AC):(AH l).length<=l.length:=by
 have:∀(m a:AA AC),(m.foldl (λa x=>bif AL x then Br x a else a) a).length<=a.length+m.length:=by
  intro m
  induction m with
  |nil=>simp
  |cons x m d=>
   grind[kS]
 have:=this l [];simpa[AH]using this
theorem z_(L:AA Starter)(m:L.length<=1048576):Ev (λn=>iter (HE n L) n 0) (bif (L.map (·.Chip)).Nodup then AG.k ()else AG.d ([],180)):=by
 have h:=jX (step:=λn=>HE n L) L (λ_=>true) (λs=>s.Chip) (AG.d ([],180)) (AG.k ()) (by omega) (λi x a _ hk=>?_) (λi x a h=>by cases h) (λi x a _ hk=>?_) ?_
 .grind
 .have g:=a.lt';unfold HE;simp only[a.lt,a.nx];have k:=cC (step:=λn=>D2 n L i) L i (λs=>s.Chip) x.Chip (AG.d (AG.d (AG.d ([],180)))) (AG.k ()) (by omega) (by omega) (λj y l d f=>?_) (λj y l d f=>?_) ?_
  .rw[hk]at k;exact Ea k (Qa _)
  .unfold D2;have e:(x.Chip==y.Chip)=false:=by grind
   simp only[Yb (show j<(i:Int)by omega),a.ix,d.ix,XH,e,d.nx];exact Qa _
  .unfold D2;have e:(x.Chip==y.Chip)=true:=by grind
   simp only[Yb (show(j:Int)<i by omega),a.ix,d.ix,XH,e];exact Qa _
  grind[D2,Qa]
 .have g:=a.lt';unfold HE;simp only[a.lt,a.nx];have k:=cC (step:=λn=>D2 n L (i:Int)) L i (λs=>s.Chip) x.Chip (AG.d (AG.d (AG.d ([],180)))) (AG.k ()) (by omega) (by omega) (λj y l d f=>?_) (λj y l d f=>?_) ?_
  .rw[hk]at k;exact Ea k (Qa _)
  .unfold D2;have e:(x.Chip==y.Chip)=false:=by rw[Vv];exact λe=>Vs f e.symm
   simp only[Yb (show j<(i:Int)by omega),a.ix,d.ix,XH,e,d.nx];exact Qa _
  .unfold D2;have e:(x.Chip==y.Chip)=true:=by rw[Vu];exact(Vr f).symm
   simp only[Yb (show(j:Int)<i by omega),a.ix,d.ix,XH,e];exact Qa _
  grind[D2,Qa]
 simp_all[HE,Qa]
theorem Qgz(e:Int)(c:AE)(l:AA AC)(hl:l.length<=16)(he:Ev (λn=>IH n c) e):Ev (λn=>MN n c l) (Ax e c l):=by
 unfold MN Ax;refine Ea he ?_;cases(e != 0)with
 |true=>exact Qa _
 |false=>
  refine Ea (cW l (by omega)) ?_;have d:=Jo l;refine Ea (zJ c (AH l) (by omega)) ?_;rw[zw];have a:((Bt (A3 c l)).map (·.Starter)).length<=l.length:=by rw[XZ,kl];exact(Ws c l).len
  rw[YA (show¬4000<(((Bt (A3 c l)).map (·.Starter)).length:Int)by omega)];refine Yc (Ea (z_ _ (by omega)) ?_);have f:((Bt (A3 c l)).map (·.Starter)).map (·.Chip)=(Bt (A3 c l)).map A':=by rw[List.map_map];rfl
  grind[Qa]
def BF(k i:Int)(f:AC):Bool:=(f.Kind==10)&&((f.Ruling.Case==k)&&(f.Ruling.Instance==i))
def A2(k:Int)(f:AC):Bool:=(f.Kind==8)&&(f.Report.Case==k)
def DC(k:Int)(f:AC):Bool:=(f.Kind==11)&&(f.Appeal.Suspends&&(f.Appeal.Case==k))
def A1(f:AC):AB Int:=bif f.Kind==10 then some f.Ruling.Case else bif f.Kind==8 then some f.Report.Case else bif (f.Kind==11)&&f.Appeal.Suspends then some f.Appeal.Case else none
def AO(P:AA AC)(k:Int):Ue:=⟨k,P.filter (BF k 0),P.filter (BF k 1),P.filter (BF k 2),(P.filter (A2 k)).map (·.Report),P.any (DC k)⟩
theorem S8{k i:Int}{f:AC}(h:BF k i f=true):A1 f=some k:=by
 simp_all[BF,A1]
theorem qe{k:Int}{f:AC}(h:A2 k f=true):A1 f=some k:=by
 simp_all[A2,A1]
theorem rV{k:Int}{f:AC}(h:DC k f=true):A1 f=some k:=by
 simp_all[DC,A1]
theorem cX{α:Type}{p:α->Bool}{l:AA α}(h:∀x∈l,p x=false):l.filter p=[]:=by
 simp_all
theorem LF{b:Bool}(h:¬b=true):b=false:=by grind
theorem zN{P:AA AC}{k:Int}(h:∀f∈P,A1 f≠some k):AO P k=D_ k:=by
 unfold AO D_;rw[cX λf a=>LF λq=>h f a (S8 q),cX λf a=>LF λq=>h f a (S8 q),cX λf a=>LF λq=>h f a (S8 q),
  cX λf a=>LF λq=>h f a (qe q),show P.any (DC k)=false from List.any_eq_false.2 λf a q=>h f a (rV q)]
 rfl
theorem Yo{α:Type}(p:α->Bool)(l:AA α)(x:α):(l++[x]).filter p=bif p x then l.filter p++[x]else l.filter p:=by
 grind
theorem tA{P:AA AC}{f:AC}{k:Int}(h:A1 f≠some k):AO (P++[f]) k=AO P k:=by
 unfold AO;rw[Yo,Yo,Yo,Yo,LF λq=>h (S8 q),LF λq=>h (S8 q),LF λq=>h (S8 q),LF λq=>h (qe q),List.any_append,List.any_cons,List.any_nil,
  LF λq=>h (rV q)]
 simp
structure Ag (P:List AC) (fs:List Ue):Prop where
 num:(fs.map (·.number)).Nodup
 each:∀x∈fs,x=AO P x.number
 mem:∀k,k∈fs.map (·.number)↔ ∃f∈P,A1 f=some k
theorem Ag.nil:Ag [] []:=⟨List.nodup_nil,(λ_ h=>by cases h),λk=>by simp⟩
theorem Ag.skip{P:AA AC}{fs:AA Ue}{f:AC}(h:Ag P fs)(d:A1 f=none):Ag (P++[f]) fs:=by
 refine⟨h.num,λx a=>?_,λk=>?_⟩
 .rw[tA (by grind)];exact h.each x a
 .rw[h.mem k]
  grind
theorem Ag.put{P:AA AC}{fs:AA Ue}{f:AC}{k:Int}{g:Ue->Ue}(h:Ag P fs)(n:A1 f=some k)(B:∀x,(g x).number=x.number)(hg:g (AO P k)=AO (P++[f]) k):Ag (P++[f]) (FR (Cu fs k) k g):=by
 have u:∀x∈Cu fs k,x=AO P x.number:=by
  by_cases q:∃x∈fs,x.number=k
  .rw[Wf q];exact h.each
  .have i:=λx d e=>q ⟨x,d,e⟩;rw[Wq i];intro x d;rcases Vz.1 d with z|z
   .exact h.each x z
   .rw[Vx.1 z];refine(zN λa p e=>?_).symm;obtain⟨x,d,G⟩:=Xf.1 ((h.mem k).2 ⟨a,p,e⟩)
    grind
 have r:((Cu fs k).map (·.number)).Nodup:=by
  by_cases q:∃x∈fs,x.number=k
  .rw[Wf q];exact h.num
  .have i:=λx d e=>q ⟨x,d,e⟩;rw[Wq i,Xg,List.nodup_append];refine⟨h.num,by simp,?_⟩;intro a p b F;obtain⟨x,d,rfl⟩:=Xf.1 p;have hb':=by simpa  using F
   rw[hb'];exact i x d
 have t:∀j,j∈(Cu fs k).map (·.number)↔j=k\/j∈fs.map (·.number):=by
  intro j;by_cases q:∃x∈fs,x.number=k
  .rw[Wf q];constructor
   .exact .inr
   .rintro(rfl|z)
    .obtain⟨x,d,e⟩:=q;exact Xf.2 ⟨x,d,e⟩
    .exact z
  .rw[Wq λx d e=>q ⟨x,d,e⟩,Xg,Vz];simp[Vf,Vg,Vx];exact Or.comm
 have l:(FR (Cu fs k) k g).map (·.number)=(Cu fs k).map (·.number):=by
  unfold FR;rw[List.map_map];refine List.map_congr_left λx _=>?_;show(bif x.number=k then g x else x).number=x.number;cases decide (x.number=k)with
  |true=>exact B x
  |false=>rfl
 refine⟨by rw[l];exact r,λx d=>?_,λj=>?_⟩
 .obtain⟨y,E,rfl⟩:=Xf.1 d;have w:=u y E;cases q:decide (y.number=k)with
  |true=>
   have i:=Vr q;show g y=AO _ (g y).number;rw[B,i, <- hg, <- i, <- w]
  |false=>
   have i:=Vs q;rw[tA (by rw[n];intro z;cases z;exact i rfl)];exact w
 .rw[l,t,h.mem j];constructor
  .rintro(rfl|⟨a,s,m⟩)
   .exact⟨f,by simp,n⟩
   .exact⟨a,by simp[s],m⟩
  .rintro⟨a,s,m⟩;rcases Vz.1 s with z|z
   .exact .inr ⟨a,z,m⟩
   .rw[Vx.1 z,n]at m;cases m;exact .inl rfl
theorem Ag.room{P:AA AC}{fs:AA Ue}{k:Int}(h:Ag P fs)(hl:P.length<1048576):Ov (Cu fs k)=true:=by
 have e:∀n,n<=P.length->Nat.ble (n+1) QE=true:=λn d=>Sq (by omega);have one:∀j,(λx=>Nat.ble (x.r0.length+1) QE&&Nat.ble (x.r1.length+1) QE&&Nat.ble (x.r2.length+1) QE&&Nat.ble (x.reports.length+1) QE) (AO P j)=true:=by
  simp_all[AO,List.length_filter_le]
 refine Xt.2 λx a=>?_;by_cases q:∃x∈fs,x.number=k
 .rw[Wf q]at a;rw[h.each x a];exact one _
 .rw[Wq (by grind)]at a;rcases Vz.1 a with z|z
  .rw[h.each x z];exact one _
  grind[D_]
theorem cZ{f:AC}(h:AL f=true):F5 f=true/\Bu f=true/\B8 f=f:=by
 simp_all[cJ,pX]
theorem xl{f:AC}(h:AL f=true)(k:f.Kind=10):(1<=f.Ruling.Case/\(f.Ruling.Instance=1\/f.Ruling.Instance=2))/\(0<=f.Ruling.Bib/\f.Ruling.Bib<=9999)/\f.Report=Up.Report:=by
 obtain⟨_,d,m⟩:=cZ h;have e:f.Report=(B8 f).Report:=by rw[m]
 have n:(B8 f).Report=bif f.Kind==8 then f.Report else Up.Report:=rfl
 rw[n,k]at e;refine⟨?_,?_,e⟩
 .unfold Bu at d;rw[k]at d;have g:(true&&(nb f.Ruling.Case 1 1048576&&(nb f.Ruling.Instance 1 2&&(nb f.Ruling.Kind 1 5&&(bif (f.Ruling.Kind==1)||(f.Ruling.Kind==2)then nb f.Ruling.Bib 0 0&&(nb f.Ruling.Position 0 0&&(nb f.Ruling.Amount 0 0&&true))else bif f.Ruling.Kind==3 then nb f.Ruling.Bib 1 9999&&(nb f.Ruling.Position 0 255&&(nb f.Ruling.Amount 1 1099511627776&&true))else bif f.Ruling.Kind==4 then nb f.Ruling.Bib 1 9999&&(nb f.Ruling.Position 0 255&&(nb f.Ruling.Amount 1 64&&true))else nb f.Ruling.Bib 1 9999&&(nb f.Ruling.Position 0 255&&(nb f.Ruling.Amount 0 0&&true)))))))=true:=d;simp only[XU,Ht]at g;omega
 .unfold Bu at d;rw[k]at d;have g:(true&&(nb f.Ruling.Case 1 1048576&&(nb f.Ruling.Instance 1 2&&(nb f.Ruling.Kind 1 5&&(bif (f.Ruling.Kind==1)||(f.Ruling.Kind==2)then nb f.Ruling.Bib 0 0&&(nb f.Ruling.Position 0 0&&(nb f.Ruling.Amount 0 0&&true))else bif f.Ruling.Kind==3 then nb f.Ruling.Bib 1 9999&&(nb f.Ruling.Position 0 255&&(nb f.Ruling.Amount 1 1099511627776&&true))else bif f.Ruling.Kind==4 then nb f.Ruling.Bib 1 9999&&(nb f.Ruling.Position 0 255&&(nb f.Ruling.Amount 1 64&&true))else nb f.Ruling.Bib 1 9999&&(nb f.Ruling.Position 0 255&&(nb f.Ruling.Amount 0 0&&true)))))))=true:=d;simp only[XU]at g;obtain⟨_,_,_,_,a⟩:=g;cases j:((f.Ruling.Kind==1)||(f.Ruling.Kind==2))with
  |true=>rw[j]at a;simp[Vk,XU,Ht]at a;omega
  |false=>
   rw[j,Vl]at a;cases i:(f.Ruling.Kind==3)with
   |true=>rw[i]at a;simp[Vk,XU,Ht]at a;omega
   |false=>
    rw[i,Vl]at a;cases l:(f.Ruling.Kind==4)with
    |true=>rw[l]at a;simp[Vk,XU,Ht]at a;omega
    |false=>rw[l]at a;simp[Vl,XU,Ht]at a;omega
theorem oJ{f:AC}(k:f.Kind=10)(j:Int):BF f.Ruling.Case j f=(f.Ruling.Instance==j):=by
 unfold BF;rw[k];simp
theorem QiG{P:AA AC}{fs:AA Ue}{f:AC}(h:Ag P fs)(hl:P.length<1048576)(s:AL f=true):∃fs',Ba fs f=some fs'/\Ag (P++[f]) fs':=by
 unfold Ba;cases a:(f.Kind==10)with
 |true=>
  have k:=by simpa using a
  obtain⟨⟨_,n⟩,_⟩:=xl s k;have l:A1 f=some f.Ruling.Case:=by unfold A1;rw[a];rfl
  have r:A2 f.Ruling.Case f=false:=by unfold A2;rw[k];rfl
  have m:DC f.Ruling.Case f=false:=by unfold DC;rw[k];rfl
  simp only[h.room hl];rcases n with n|n
  .refine⟨FR (Cu fs f.Ruling.Case) f.Ruling.Case λx=>{x with r1:=x.r1++[f]},by rw[n];rfl,h.put l (λx=>rfl) ?_⟩
   grind[AO,oJ]
  .refine⟨FR (Cu fs f.Ruling.Case) f.Ruling.Case λx=>{x with r2:=x.r2++[f]},by rw[n];rfl,h.put l (λx=>rfl) ?_⟩
   grind[AO,oJ]
 |false=>
  have g:∀j i,BF j i f=false:=λj i=>by unfold BF;rw[a];rfl
  cases e:(f.Kind==8)with
  |true=>
   have k:=by simpa using e
   have l:A1 f=some f.Report.Case:=by unfold A1;rw[a,e];rfl
   have t:A2 f.Report.Case f=true:=by unfold A2;rw[k];simp
   have m:DC f.Report.Case f=false:=by unfold DC;rw[k];rfl
   simp only[h.room hl];refine⟨FR (Cu fs f.Report.Case) f.Report.Case λx=>{x with reports:=x.reports++[f.Report]},rfl,h.put l (λx=>rfl) ?_⟩;unfold AO;rw[Yo,Yo,Yo,Yo,g,g,g,t,List.any_append,List.any_cons,List.any_nil,m];simp
  |false=>
   have r:∀j,A2 j f=false:=λj=>by unfold A2;rw[e];rfl
   cases d:(f.Kind==11)with
   |true=>
    cases q:f.Appeal.Suspends with
    |true=>
     have l:A1 f=some f.Appeal.Case:=by unfold A1;rw[a,e,d,q];rfl
     have p:DC f.Appeal.Case f=true:=by unfold DC;rw[d,q];simp
     refine⟨FR (Cu fs f.Appeal.Case) f.Appeal.Case λx=>{x with appeal:=true},rfl,h.put l (λx=>rfl) ?_⟩;unfold AO;rw[Yo,Yo,Yo,Yo,g,g,g,r,List.any_append,List.any_cons,List.any_nil,p];simp
    |false=>exact⟨_,rfl,h.skip (by unfold A1;rw[a,e,d,q];rfl)⟩
   |false=>exact⟨_,rfl,h.skip (by unfold A1;rw[a,e,d];rfl)⟩
def Dq(l m:AA AC):Prop:=∀f,AL f=true->(f∈l↔f∈m)
theorem Dq.symm{l m:AA AC}(h:Dq l m):Dq m l:=λf hf=>(h f hf).symm
theorem Dq.filter{l m:AA AC}(h:Dq l m)(p:AC->Bool):Dq (l.filter p) (m.filter p):=λf hf=>by rw[Xe,Xe,h f hf]
def Fy(k:Int)(r f:AC):AC:=bif AL f&&A2 k f then(bif (r.Kind==0)||decide (As f r<0)then f else r)else r
structure FO (k:Int) (P:List AC) (r:AC):Prop where
 none:(r.Kind==0)=true->r=Up/\ ∀f∈P,AL f=true->A2 k f=false
 some:(r.Kind==0)=false->r∈P/\AL r=true/\A2 k r=true/\ ∀f∈P,AL f=true->A2 k f=true->¬As f r<0
theorem qf{k:Int}{f:AC}(h:A2 k f=true):(f.Kind==0)=false:=by
 simp_all[A2]
theorem FO.nil(k:Int):FO k [] Up:=⟨(by simp),λh=>by cases h⟩
theorem FO.step{k:Int}{P:AA AC}{r f:AC}(h:FO k P r):FO k (P++[f]) (Fy k r f):=by
 unfold Fy;cases q:AL f&&A2 k f with
 |false=>
  have n:¬(AL f=true/\A2 k f=true):=λz=>by grind
  refine⟨λz=>⟨(h.none z).1,λg j i=>?_⟩,λz=>?_⟩
  .rcases Vz.1 j with w|w
   .exact(h.none z).2 g w i
   grind
  .obtain⟨a,b,c,d⟩:=h.some z
   grind
 |true=>
  rw[XU]at q;simp[Vk];cases z:(r.Kind==0)with
  |true=>
   simp[Bool.true_or,Vk];refine⟨λw=>(by rw[qf q.2]at w;cases w),λ_=>⟨by simp,q.1,q.2,λg j i l=>?_⟩⟩;rcases Vz.1 j with w|w
   .rw[(h.none z).2 g w i]at l;cases l
   .rw[Vx.1 w];have:=DT.refl f;omega
  |false=>
   simp[Bool.false_or];obtain⟨a,b,c,d⟩:=h.some z;cases y:decide (As f r<0)with
   |true=>
    have m:=Vr y;simp[Vk];refine⟨λw=>(by rw[qf q.2]at w;cases w),λ_=>⟨by simp,q.1,q.2,λg j i l=>?_⟩⟩;rcases Vz.1 j with w|w
    .intro e;exact d g w i l (DT.trans _ _ _ e m)
    .rw[Vx.1 w];have:=DT.refl f;omega
   |false=>
    have m:=Vs y;simp[Vl];refine⟨λw=>(by grind),λ_=>⟨by simp[a],b,c,λg j i l=>?_⟩⟩
    grind
section
variable {α β:Type}
theorem lp(q:α->Bool):∀(l a:AA α),l.foldl (λa x=>bif q x then a++[x]else a) a=a++l.filter q
 |[],a=>by simp
 |x::l,a=>by
  rw[XC,lp q l,Xd]
  grind
theorem yT{step:Nat->AA α×Int->AB (AG (AA α×Int) (AA α))}(l:AA α)(q:α->Bool)(hl:l.length<=1048576)
  (g:∀i x a,At l i x->a.length<=i->Ev (λn=>step n (a,(i:Int))) (.k ((bif q x then a++[x]else a),((i+1:Nat):Int))))
  (h:∀a,Ev (λn=>step n (a,(l.length:Int))) (.d a)):Ev (λn=>Go.Sw.iter (step n) n ([],0)) (l.filter q):=by
 have e:l.filter q=l.foldl (λa x=>bif q x then a++[x]else a) []:=by rw[lp];rfl
 rw[e];refine QA l (λa x=>bif q x then a++[x]else a) [] (λa i=>(a,(i:Int))) (λa=>a) (by omega) rfl (λi x a f d=>g i x a f ?_) (h _);rw[d,lp,Vd]
 grind
theorem qT{l:AA α}[DecidableEq (AA α)](hl:l.length<=1048576):isNil l (some ([]:AA α)) ((app ([]:AA α) l).bind λx=>some x)=some l:=by
 have:app [] l=some l:=by rw[O8 _ _ (by simp;omega)];rfl
 unfold isNil
 grind
theorem u_{F:Nat->α->α->AB β}{V:α->α->β}(l:AA α)(h:∀x∈l,∀y∈l,Ev (λn=>F n x y) (V x y)):∃N,∀n,N<=n->∀x∈l,∀y∈l,F n x y=some (V x y):=by
 obtain⟨N,d⟩:=lw (F:=λn p=>F n p.1 p.2) (V:=λp=>V p.1 p.2) (l.flatMap λx=>l.map λy=>(x,y)) (by
  grind)
 exact⟨N,λn a x f y e=>d n a (x,y) (by grind)⟩
def NJ(c:α->α->Int)(x y:α):Bool:=decide (c x y<0)
theorem Sr{c:α->α->Int}(d:BV c)(l:AA α):KH (NJ c) l:=by
 refine⟨λx _=>?_,λx _ y _ z _ f g=>?_,λx _ y _ z _ f g=>?_⟩
 .have:=d.refl x;exact Vt (by omega)
 .have f:=Vr f;have g:=Vr g;exact Vq (d.trans x y z f g)
 .have f:=Vs f;have g:=Vs g;refine Vt λh=>?_;have a:=d.swap x y;have b:=d.swap y z;by_cases e:c x y=0
  .rw[d.eqt x y z e]at h;exact g h
  .by_cases i:c y z=0
   .rw[<- d.eqr x i]at h;exact f h
   .have j:=d.trans z y x (by omega) (by omega);have:=d.swap x z;omega
theorem n4[DecidableEq α]{f:Nat->α->α->AB Int}{l:AA α}{c:α->α->Int}(hl:l.length<=1048576)(q:∀x∈l,∀y∈l,Ev (λn=>f n x y) (c x y))(a:BV c)(p:∀x∈l,∀y∈l,c x y=0->x=y):
  Ev (λn=>IE (f n) l) (YH (NJ c) l):=by
 obtain⟨N,s⟩:=u_ l q;refine⟨N,λn r=>?_⟩;have h:=s n r;have k:=xO (XP (Sq hl)) c h (λx _=>by have:=a.refl x;omega) (λx _ y _ z _=>a.trans x y z) (λx e y d z m i j=>by
   have:=(Sr a l).ntrans x e y d z m (Vt i) (Vt j);exact Vs this) (λx e y d i j=>p x e y d (by have:=a.swap x y;omega))
 show IE (f n) l=some (YH (NJ c) l);rw[k];congr 1;obtain⟨_,_,t,_,_⟩:=bZ k;have g:∀x∈l,∀y∈l,C9 (f n) x y=NJ c x y:=λx e y d=>by unfold C9 NJ;grind
 refine JN ((Qu _ l).trans (Qu _ l).symm) (λx e y d i j=>?_) ?_ (QV (Sr a l))
 .grind[Qu]
 grind[List.Pairwise.imp_of_mem,QV,Qu]
end
def Dn(p:AC):AA AC->AA AC
 |[]=>[]
 |x::r=>bif As x p==0 then Dn x r else x::Dn x r
def dd:AA AC->AA AC
 |[]=>[]
 |x::r=>x::Dn x r
theorem nn{x p:AC}{r:AA AC}(q:(As x p==0)=true):Dn p (x::r)=Dn x r:=by
 simp_all[Dn]
theorem nX{x p:AC}{r:AA AC}(q:(As x p==0)=false):Dn p (x::r)=x::Dn x r:=by
 show(bif As x p==0 then Dn x r else x::Dn x r)=_;rw[q];rfl
theorem nY:∀(r:AA AC) (p:AC),(∀x∈r,¬As x p<0)->r.Pairwise (λa b=>¬As b a<0)->(∀x∈p::r,AL x=true)->(Dn p r).Pairwise GZ/\(∀x∈Dn p r,GZ p x)/\ ∀x,x∈p::Dn p r↔x∈p::r
 |[],p,_,_,_=>⟨List.Pairwise.nil,(λ_ h=>by cases h),λ_=>Iff.rfl⟩
 |y::r,p,h1,h2,h3=>by
  rw[Xc]at h2;obtain⟨i1,i2,i3⟩:=nY r y h2.1 h2.2 (by grind);have hy:=h1 y (by simp);unfold Dn;cases q:As y p==0 with
  |true=>
   have q':=by simpa using q
   have e:=Wd (h3 y (by simp)) (h3 p (by simp)) q'
   grind
  |false=>
   have q':=by simpa using q
   have f:GZ p y:=by
    have:=DT.swap y p;unfold GZ;omega
   simp only[Vl];refine⟨(by simp_all),λx d=>?_,λx=>?_⟩
   .rcases X3.1 d with rfl|d
    .exact f
    .exact aS _ _ _ f (i2 x d)
   grind
theorem V0{S:AA AC}(h:S.Pairwise λa b=>¬As b a<0)(e:∀x∈S,AL x=true):(dd S).Pairwise GZ/\ ∀x,x∈dd S↔x∈S:=by
 cases S with
 |nil=>exact⟨List.Pairwise.nil,λ_=>Iff.rfl⟩
 |cons a r=>
  rw[Xc]at h;obtain⟨g,d,f⟩:=nY r a h.1 h.2 e;exact⟨Xc.2 ⟨d,g⟩,f⟩
theorem aY(x y:AC):Ev (λn=>M3 n x y) (As x y==0):=Ea (lR x y) (Qa _)
theorem ob{l:AA AC}{a j:Nat}{x:AC}(h:l[a+j]?=some x){m:Int}(e:m=(l.length:Int)):K7 l (a:Int) m (j:Int)=some x:=by
 have d:=(XJ.1 h).1;unfold K7;rw[Vq (show 0<=(a:Int)by omega),Vq (show 0<=(j:Int)by omega),Vq (show a+j<m by omega)];exact Yi h
theorem ou{α:Type}{l r:AA α}{i:Nat}{x:α}(h:l.drop i=x::r):l[i]?=some x/\l.drop (i+1)=r/\i<l.length:=by
 have h1:=by
  have:=congrArg (λl=>l[0]?) h;simpa using this
 grind[List.drop_eq_getElem_cons]
theorem zf(a:AA AC)(hl:a.length<=1048576)(d:Nat):∀(r s:AA AC) (i j:Nat) (p:AC),s.length=a.length->s.drop (d+(j+1))=r->s[d+j]?=some p->i<d+(j+1)->d+(j+1)<=s.length->
  ∃(s':AA AC) (e:Nat),BH (λn=>Ig n a (d:Int)) (s,(i:Int),((j+1:Nat):Int)) (s',(e:Int))/\e<=s'.length/\s'.take e=s.take i++Dn p r:=by
 intro r
 induction r with
 |nil=>
  intro s i j p f g E H G;refine⟨s,i,Ei ?_,by omega,by simp[Dn]⟩;have:=Xr.1 g
  grind[Ig,Qa]
 |cons x r w=>
  intro s i j p f g E H G;obtain⟨k,B,F⟩:=ou g;have y:=ob k (show(a.length:Int)=(s.length:Int)by rw[f]);have z:=ob E (show(a.length:Int)=(s.length:Int)by rw[f]);have w1:i64.wrap (((j+1:Nat):Int)-1)=(j:Int):=by rw[Q4 (by omega) (by omega)];omega
  have w2:i64.wrap (((j+1:Nat):Int)+1)=((j+1+1:Nat):Int):=Ya (by omega);have u:decide (((j+1:Nat):Int)<((toNat (a.length:Int)-toNat (d:Int):Nat):Int))=true:=Vq (by omega);have h:i<s.length:=by omega
  cases q:As x p==0 with
  |true=>
   obtain⟨s',e,m,t,l⟩:=w s i (j+1) x f (by rw[show d+(j+1+1)=d+(j+1)+1 by omega];exact B) k (by omega) (by omega);refine⟨s',e,Eu ?_ m,t,by rw[l,nn q]⟩;unfold Ig;simp only[u,Vk,y,w1,z,XH];refine Ea (aY x p) ?_;rw[q];simp only[Xh,Vl,XH,w2];exact Qa _
  |false=>
   have J:(s.set i x).length=a.length:=by rw[X2];exact f
   obtain⟨s',e,m,t,l⟩:=w (s.set i x) (i+1) (j+1) x J (by rw[show d+(j+1+1)=d+(j+1)+1 by omega,List.drop_set_of_lt (by omega)];exact B) (by rw[XN (by omega)];exact k) (by omega) (by rw[X2];omega);have w3:i64.wrap ((i:Int)+1)=((i+1:Nat):Int):=Ya (by omega);refine⟨s',e,Eu ?_ m,t,?_⟩
   .unfold Ig;simp only[u,Vk,y,w1,z,XH];refine Ea (aY x p) ?_;rw[q];simp only[Xi,Vk,XH,w2,Yi (XI h),pg s x h,w3];exact Qa _
   .rw[l,List.take_add_one,Xa h,List.take_set_of_le (XR _)];rw[nX q];simp
theorem ze(a:AA AC)(hl:a.length<=1048576):∀(r:AA AC) (k:Nat) (p:AC),a.drop (k+1)=r->a[k]?=some p->k+1<=a.length->∃b:AG Unit (AA AC),BH (λn=>IY n a) ((k+1:Nat):Int) b/\((b=.k ()/\Dn p r=r)\/b=.d (a.take (k+1)++Dn p r)):=by
 intro r
 induction r with
 |nil=>
  intro k p j l u;refine⟨.k (),Ei ?_,.inl ⟨rfl,rfl⟩⟩;have:=Xr.1 j
  grind[IY,Qa]
 |cons x r t=>
  intro k p j l u;obtain⟨g,s,f⟩:=ou j;have w1:i64.wrap ((k+1:Nat)-1)=k:=by rw[Q4 (by omega) (by omega)];omega
  have w2:i64.wrap ((k+1:Nat)+1)=k+1+1:=Ya (by omega);have m:decide ((k+1:Nat)<(a.length:Int))=true:=Vq (by omega);cases q:As x p==0 with
  |true=>
   obtain⟨w,y,i,d,h⟩:=zf a hl (k+1) r a (k+1) 0 x rfl s g (by omega) (by omega);refine⟨.d (a.take (k+1)++Dn p (x::r)),Ei ?_,.inr rfl⟩;unfold IY;simp only[m,Yi g,w1,Yi l,XH];refine Ea (aY x p) ?_;rw[q];simp only[W2 a (Nat.le_of_lt f),XH];refine Ea i.ev ?_;simp only[WY w d];rw[h];rw[nn q];exact Qa _
  |false=>
   obtain⟨b,i,d⟩:=t (k+1) x s g f;have e:=nX (r:=r) q;refine⟨b,Eu ?_ i,?_⟩
   .unfold IY;simp only[m,Yi g,w1,Yi l,XH];refine Ea (aY x p) ?_;rw[q];simp only[w2];exact Qa _
   .rcases d with⟨d,h⟩|d
    .exact .inl ⟨d,by rw[e,h]⟩
    .rw[d,e,List.take_add_one,g];simp
theorem zh(a:AA AC)(hl:a.length<=1048576):Ev (λn=>R7 n a) (dd a):=by
 match a,hl with
 |[],_=>exact Qa _
 |[x],_=>exact Qa _
 |x::y::r,hl=>
  obtain⟨b,f,e⟩:=ze (x::y::r) hl (y::r) 0 x rfl rfl (by simp);refine Ea f.ev ?_;rcases e with⟨rfl,d⟩|rfl
  .show Ev (λn=>some (x::y::r)) (x::Dn x (y::r));rw[d];exact Qa _
  .exact Qa _
theorem xv(l:AA AC)(d:∀f∈l,AL f=true)(hl:l.length<=1048576):Ev (λn=>MC n l) (AH l):=by
 unfold MC P';simp only[qT hl,XH];have p:=Qu (NJ As) l;refine Ea (n4 hl (λx _ y _=>lR x y) DT λx i y g e=>Wd (d x i) (d y g) e) (Ea (zh _ (by rw[p.length_eq];exact hl)) ?_);have s:(YH (NJ As) l).Pairwise λa b=>¬As b a<0:=List.Pairwise.imp (λq=>Vs q) (QV (Sr DT l));obtain⟨h,k⟩:=V0 s (by grind);obtain⟨c1,j⟩:=JX l;refine Et (Qa _) (cU ol aS h c1.1 λf=>?_)
 grind
def H4(x y:Ue):Int:=BG x.number y.number
theorem WV:BV H4:=DH.on λx:Ue=>x.number
def CX(fs:AA Ue):AA Ue:=YH (NJ H4) fs
theorem oo{fs:AA Ue}(h:(fs.map (·.number)).Nodup){x y:Ue}(d:x∈fs)(f:y∈fs)(e:x.number=y.number):x=y:=by
 induction fs with
 |nil=>cases d
 |cons a r g=>
  grind
theorem xi{p q:AA Ue}(h:p.Perm q)(e:(q.map (·.number)).Nodup):CX p=CX q:=by
 have hp:=(h.map _).nodup_iff.2 e;refine JN ((Qu _ p).trans (h.trans (Qu _ q).symm)) (λx g y f d a=>?_) (QV (Sr WV p)) (QV (Sr WV q));have d:=Vs d;have a:=Vs a;refine oo hp ((Qu _ p).mem_iff.1 g) ((Qu _ p).mem_iff.1 f) (jN.1 ?_);have:=WV.swap x y;show H4 x y=0;omega
def SP(x y:Ue):Prop:=x.number<y.number
theorem pk{p:AA Ue}(e:(p.map (·.number)).Nodup):(CX p).Pairwise SP:=by
 have a:((CX p).map (·.number)).Nodup:=((Qu _ p).map _).nodup_iff.2 e;have s:=QV (Sr WV p);have hm':=by
  unfold List.Nodup at a;rw[List.pairwise_map]at a;exact a
 refine List.Pairwise.imp₂ (λx y d f=>?_) s hm';have d:¬BG y.number x.number<0:=Vs d;rw[uO]at d;unfold SP;omega
theorem t6(x y:Ue):Ev (λn=>I8 n x y) (H4 x y==0):=by
 unfold I8 Iy;simp[bJ];exact Qa _
theorem zg(fs:AA Ue)(hl:fs.length<=1048576)(d:fs.Pairwise SP):Ev (λn=>Ml n fs) ():=by
 unfold Ml;cases q:decide ((fs.length:Int)<2)with
 |true=>exact Qa _
 |false=>
  refine Ea (v:=()) ?_ (Qa _);refine Ew (λi=>((i+1:Nat):Int)) (fs.length-1) rfl (λi g=>?_) ?_
  .have f:fs[i+1]?=some fs[i+1]:=(by simp);have a:fs[i]?=some fs[i]:=(by simp);have w1:i64.wrap (((i+1:Nat):Int)-1)=(i:Int):=by rw[Q4 (by omega) (by omega)];omega
   have w2:i64.wrap (((i+1:Nat):Int)+1)=((i+1+1:Nat):Int):=Ya (by omega);unfold Pf;rw[Vq (show(((i+1:Nat):Int)<(fs.length:Int))by omega)];simp only[Vk,Yi f,w1,Yi a,XH];refine Ea (t6 _ _) ?_;have lt:=VA.1 d i (i+1) (by omega) (by omega) (by omega);have e:(H4 fs[i+1] fs[i]==0)=false:=by
    rw[Vv];intro z;have z2:=jN.1 z;unfold SP at lt;omega
   grind[Qa]
  grind[Pf,Qa]
theorem zM(fs:AA Ue)(hl:fs.length<=1048576)(a:(fs.map (·.number)).Nodup):Ev (λn=>L4 n fs) (CX fs):=by
 unfold L4 P_;simp only[qT hl,XH];refine Ea (v:=CX fs) (n4 hl (λx _ y _=>?_) WV λx f y d e=>oo a f d (jN.1 e)) ?_
 .unfold Iy;simp[bJ];exact Qa _
 .refine Ea (zg _ ?_ (pk a)) (Qa _);unfold CX;rw[(Qu _ fs).length_eq];exact hl
theorem kP(fs:AA Ue)(k:Int):(Cu fs k).length<=fs.length+1:=by
 grind[Cu]
theorem ke(fs:AA Ue)(k:Int)(g:Ue->Ue):(FR fs k g).length=fs.length:=by unfold FR;simp
theorem uM{fs a:AA Ue}{k i:Int}{f:AC}(h:Ck fs k i f=some a):a.length=fs.length:=by
 grind[Ck,ke]
theorem xS{fs a:AA Ue}{f:AC}(h:Ba fs f=some a):a.length<=fs.length+1:=by
 unfold Ba at h;cases g:(f.Kind==10)with
 |true=>
  rw[g,Vk]at h;cases d:Ov (Cu fs f.Ruling.Case)with
  |true=>rw[d,Vk]at h;rw[uM h];exact kP _ _
  |false=>grind
 |false=>
  rw[g,Vl]at h;cases d:(f.Kind==8)with
  |true=>
   rw[d,Vk]at h;cases e:Ov (Cu fs f.Report.Case)with
   |true=>rw[e,Vk]at h;cases h;rw[ke];exact kP _ _
   |false=>grind
  |false=>
   rw[d,Vl]at h;cases e:(f.Kind==11)with
   |true=>
    rw[e,Vk]at h;cases i:f.Appeal.Suspends with
    |true=>rw[i,Vk]at h;cases h;rw[ke];exact kP _ _
    |false=>grind
   |false=>grind
theorem yR(C:AA AC)(m:∀f∈C,AL f=true)(hl:C.length<=1048576):∃fs,Ev (λn=>Go.Sw.iter (Cs n C) n (([]:AA Ue),0)) fs/\Ag C fs/\fs.length<=C.length:=by
 have loop:∀(r:AA AC) (i:Nat) (s:AA Ue),C.drop i=r->i<=C.length->Ag (C.take i) s->s.length<=i->∃fs,BH (λn=>Cs n C) (s,i) fs/\Ag C fs/\fs.length<=C.length:=by
  intro r
  induction r with
  |nil=>
   grind[BH.done,Cs,QY,Qa]
  |cons f r l=>
   intro i s j w t p;obtain⟨a,g⟩:=Qw (by omega) j;have h:=a.lt';obtain⟨q,d,e⟩:=QiG t (by grind) (m f a.mem);rw[<- a.take]at e;obtain⟨fs,k,u⟩:=l (i+1) q g (by omega) e (by have:=xS d;omega);refine⟨fs,Eu ?_ k,u⟩;unfold Cs;simp only[a.lt,a.ix,XH,d,a.nx];exact Qa _
 obtain⟨fs,d,e⟩:=loop C 0 [] rfl (XS _) Ag.nil (XR _);exact⟨fs,d.ev,e⟩
theorem rv:∀(p:AA (Int×Ue)) (s:AA Ue) (n:Nat),s.length+p.length<=1048576->H7 (LP n) (Pt n) s p=some (s++p.map Prod.snd)
 |[],s,n,_=>by unfold H7 Pt;simp
 |e::p,s,n,h=>by
  rw[XY]at h;have h1:LP n s e=some (.k (s++[e.2])):=by
   unfold LP;rw[Jw _ _ (by omega)];rfl
  unfold H7;rw[h1];show H7 _ _ (s++[e.2]) p=_;rw[rv p _ n (by simp;omega)];simp
theorem Ag.perm{C:AA AC}{fs gs:AA Ue}(h:Ag C fs)(p:gs.Perm fs):Ag C gs:=
 ⟨(p.map _).nodup_iff.2 h.num,λx hx=>h.each x (p.mem_iff.1 hx),λk=>by rw[(p.map _).mem_iff];exact h.mem k⟩
theorem wY(l:AA AC)(hl:l.length<=100):∃fs,Ev (λn=>Iv n l) fs/\Ag (AH l) fs/\fs.Pairwise SP/\fs.length<=(AH l).length:=by
 have k:∀f∈l.filter AL,AL f=true:=(by simp);have e:AH (l.filter AL)=AH l:=yp (by grind);obtain⟨c1,u⟩:=JX l;have r:=Jo l;obtain⟨fs,q,g,m⟩:=yR (AH l) c1.2 (by omega);refine⟨CX fs,?_,g.perm (Qu _ fs),pk g.num,by unfold CX;rw[(Qu _ fs).length_eq];exact m⟩;refine Ea (yT l AL (by omega) (λi x a d t=>?_) λa=>?_) ?_
 .have j:=d.lt';unfold PT;simp only[d.lt,d.ix,XH,d.nx];refine Ea (tL x) ?_
  grind[Jw,Qa]
 .simp_all[PT,Qa]
 refine Ea ((xv _ k (by grind)).eq e) (Ea q ?_);refine Ev.anyP λp h=>?_;have w:p.length=fs.length:=by rw[h.length_eq];unfold Hm;simp
 have pm:=by
  have:=h.map Prod.snd;unfold Hm at this;rw[List.map_map]at this;have s:(fs.map (Prod.snd ∘ λx=>(x.number,x)))=fs:=by
   conv=>rhs;rw[<- List.map_id fs]
   rfl
  rw[s]at this;exact this
 simp only[rv p [] _ (by simp;omega),Vd,XH];refine Ea (zM _ (by grind) ((pm.map _).nodup_iff.2 g.num)) ?_;rw[xi pm g.num];exact Qa _
def Dl(C:AA AC):AA Int:=WD (YH B0 (C.filterMap A1))
theorem ki(C:AA AC):(Dl C).Pairwise (· < ·)/\ ∀k,k∈Dl C↔ ∃f∈C,A1 f=some k:=by
 grind[yu,Dl]
def BB(C:AA AC):AA Ue:=(Dl C).map (AO C)
theorem xy{C:AA AC}{fs:AA Ue}(h:Ag C fs)(s:fs.Pairwise SP):fs=BB C:=by
 obtain⟨f,g⟩:=ki C;have e:fs.map (·.number)=Dl C:=by
  refine lI (lt:=λa b:Int=>a<b) (λa b h=>by omega) ?_ f λk=>?_
  .rw[List.pairwise_map];exact s
  .rw[h.mem k,g k]
 unfold BB;rw[<- e,List.map_map];have:∀x∈fs,(AO C ∘ λx:Ue=>x.number) x=x:=λx d=>(h.each x d).symm
 conv=>lhs;rw[<- List.map_id fs]
 exact List.map_congr_left λx d=>(this x d).symm
theorem qq(l:AA AC)(hl:l.length<=100):Ev (λn=>Iv n l) (BB (AH l)):=by
 grind[wY,xy]
theorem yY(C:AA AC):(BB C).length<=C.length:=by
 unfold BB Dl;rw[XZ];have e:∀(l:AA Int) (p:Int),(IF p l).length<=l.length:=by
  intro l
  induction l with
  |nil=>intro p;exact XR _
  |cons x r d=>
   grind[IF]
 have a:∀l:AA Int,(WD l).length<=l.length:=λl=>by
  cases l with
  |nil=>exact XR _
  |cons x r=>grind[WD]
 refine XT (a _) ?_;rw[(Qu _ _).length_eq]
 grind
def CI(x:Ue):Bool:=x.appeal&&(!x.r1.isEmpty&&x.r2.isEmpty)
def Am(x:Ue):AB Ruling:=bif CI x then none else((x.r2++x.r1).head?).map (·.Ruling)
theorem q_{C:AA AC}{k:Int}{f:AC}(h:f∈(AO C k).r1\/f∈(AO C k).r2):f∈C/\f.Kind=10/\f.Ruling.Case=k:=by
 have one:∀i,f∈C.filter (BF k i)->f∈C/\f.Kind=10/\f.Ruling.Case=k:=λi h=>by
  simp_all[BF]
 rcases h with h|h
 iterate 2 exact one _ h
theorem lY{C:AA AC}{k:Int}{g:Ruling}(h:Am (AO C k)=some g):g.Case=k:=by
 unfold Am at h;cases q:CI (AO C k)with
 |true=>grind
 |false=>
  rw[q,Vl,Option.map_eq_some_iff]at h;obtain⟨f,e,d⟩:=h;have a:=List.mem_of_head? e;rw[<- d];exact(q_ ((Vz.1 a).symm)).2.2
def DN(x:Ue):Int×AB Ruling×AA Report:=(x.number,Am x,x.reports)
section
variable {α β:Type}
theorem kN(f:α->AB β):∀(l:AA α) (a:AA β),l.foldl (λa x=>a++(f x).toList) a=a++l.filterMap f
 |[],a=>by simp
 |x::l,a=>by
  rw[XC,kN f l,List.filterMap_cons]
  grind
theorem aP{step:Nat->AA β×Int->AB (AG (AA β×Int) (AA β))}(l:AA α)(f:α->AB β)(hl:l.length<=1048576)
  (h:∀i x a,At l i x->a.length<=i->Ev (λn=>step n (a,(i:Int))) (.k (a++(f x).toList,((i+1:Nat):Int))))
  (j:∀a,Ev (λn=>step n (a,(l.length:Int))) (.d a)):Ev (λn=>Go.Sw.iter (step n) n ([],0)) (l.filterMap f):=by
 have e:l.filterMap f=l.foldl (λa x=>a++(f x).toList) []:=by rw[kN];rfl
 rw[e];refine QA l (λa x=>a++(f x).toList) [] (λa i=>(a,(i:Int))) (λa=>a) (by omega) rfl (λi x a g d=>h i x a g ?_) (j _);rw[d,kN,Vd]
 grind
theorem oh(l:AA α):decide (0<(l.length:Int))= !l.isEmpty:=by
 cases l with
 |nil=>rfl
 |cons a l=>simp
theorem wN(l:AA α):((l.length:Int)==0)=l.isEmpty:=by
 cases l with
 |nil=>rfl
 |cons a l=>
  rfl
end
theorem wn(c:AE)(a:AE.wf c):∃b,Ev (λn=>HK n c) b/\(b=true->DU c/\Ev (λn=>Hu n c) (AV c)):=by
 have w:=lU a;have q:=lN a;obtain⟨d,f⟩:=jx a;obtain⟨b,g,fb⟩:=z9 c w q d f;exact⟨b,g,λe=>⟨fb e,yO c w q (fb e) d f⟩⟩
abbrev Bi:=Int×AB Ruling×AA Report
def AQ(l:AA AC):AA Bi:=(BB (AH l)).map DN
structure PG (K:List Bi):Prop where
 inc:(K.map (·.1)).Pairwise (· < ·)
 rul:∀x∈K,∀g,x.2.1=some g->g.Case=x.1
 rep:∀x∈K,∀r,x.2.2.head? =some r->r.Case=x.1
theorem og(l:AA AC):PG (AQ l):=by
 have a:∀x∈AQ l,∃k,x=DN (AO (AH l) k):=λx a=>by
  unfold AQ BB at a
  grind
 refine⟨?_,λx h g j=>?_,λx h r e=>?_⟩
 .unfold AQ BB;rw[List.map_map,List.map_map];have:(((λx:Bi=>x.1) ∘ DN) ∘ AO (AH l))=λk=>k:=rfl
  grind[List.map_id',ki]
 .obtain⟨k,rfl⟩:=a x h;exact lY j
 .obtain⟨k,rfl⟩:=a x h;have i:=List.mem_of_head? e;obtain⟨f,d,rfl⟩:=Xf.1 (show r∈((AH l).filter (A2 k)).map (·.Report)from i);have:=(Xe.1 d).2;unfold A2 at this;rw[XU,Vu,Vu]at this;exact this.2
theorem Wr(l:AA AC):(AQ l).length<=l.length:=by
 grind[AQ,yY,Jo]
theorem yx(l:AA AC)(hl:l.length<=100):Ev (λn=>MW n l) ((AQ l).filterMap λx=>x.2.2.head?):=by
 unfold MW;refine Ea (qq l hl) ?_;have e:(AQ l).filterMap (λx=>x.2.2.head?)=(BB (AH l)).filterMap λx=>x.reports.head? :=by
  unfold AQ;rw[List.filterMap_map];rfl
 have k:(BB (AH l)).length<=100:=by grind[Wr,AQ]
 rw[e];generalize BB (AH l)=fs at k;refine Ea (aP fs (λx=>x.reports.head?) (by omega) (λi x a d f=>?_) λa=>?_) (Qa _)
 .unfold PZ;simp only[d.lt,Vk,d.ix,XH,d.nx,oh];have:=d.lt';cases h:x.reports with
  |nil=>exact(Qa _).eq (by simp)
  |cons r j=>
   have g:AJ (r::j) 0=some r:=rfl;simp only[List.isEmpty_cons,Xi,Vk,g,XH]
   grind[O8,Qa]
 simp_all[PZ,Qa]
theorem wb(x:Ue):Ev (λn=>Mb n x) (match Am x with|some g=>(g,true)|none=>(Ux,false)):=by
 have d:AJ ([x.r0,x.r1,x.r2]:AA (AA AC)) 1=some x.r1:=rfl;have a:AJ ([x.r0,x.r1,x.r2]:AA (AA AC)) 2=some x.r2:=rfl;unfold Mb;refine Ea (v:=CI x) ?_ ?_
 .unfold Rh;simp only[d,a,XH,oh,wN];refine Ea (v:=CI x) ?_ (Qa _)
  grind[CI,Qa]
 unfold Am;cases k:CI x with
 |true=>exact Qa _
 |false=>
  simp only[Vl];have e:decide ((0:Int)<2)=true:=rfl;have c1:decide ((0:Int)<1)=true:=rfl;have l:decide ((0:Int)<0)=false:=rfl;have w1:i64.wrap (2-1)=1:=rfl;have j:i64.wrap (1-1)=0:=rfl;refine Ea (v:=match(x.r2++x.r1).head? with|some f=>AG.d (f.Ruling,true)|none=>AG.k ()) (BH.ev ?_) ?_
  .cases i:x.r2 with
   |cons f r=>
    simp_all[Ei,AJ,HD,Qa]
   |nil=>
    refine Eu (s':=1) ?_ ?_
    .simp_all[HD,Qa]
    rw[Vd];cases h:x.r1 with
    |cons f r=>
     simp_all[Ei,AJ,HD,Qa]
    |nil=>
     refine Eu (s':=0) ?_ (Ei ?_)
     .simp_all[HD,Qa]
     simp_all[HD,Qa]
  grind[Qa]
theorem t3(l:AA AC)(hl:l.length<=100):Ev (λn=>Ly n l) ((AQ l).filterMap λx=>x.2.1):=by
 unfold Ly;refine Ea (qq l hl) ?_;have e:(AQ l).filterMap (λx=>x.2.1)=(BB (AH l)).filterMap Am:=by
  unfold AQ;rw[List.filterMap_map];rfl
 have f:(BB (AH l)).length<=100:=by grind[Wr,AQ]
 rw[e];generalize BB (AH l)=fs at f;refine Ea (aP fs Am (by omega) (λi x a d j=>?_) λa=>?_) (Qa _)
 .unfold Pm;simp only[d.lt,Vk,d.ix,XH,d.nx];have:=d.lt';refine Ea (wb x) ?_;cases h:Am x with
  |none=>exact(Qa _).eq (by simp)
  |some g=>
   simp only[Vk]
   grind[O8,Qa]
 simp_all[Pm,Qa]
section
variable {S T B:Type} {step:Nat->S->AB (AA T×AG S B)} {s s':S} {b:B} {xs ys:AA T}
def HY(step:Nat->S->AB (AA T×AG S B))(s:S)(ys:AA T)(b:B):Prop:=∃N,∀n k,N<=n->N<=k->KL (step n) k s=some (ys,b)
theorem HY.done(h:Ev (λn=>step n s) (ys,.d b)):HY step s ys b:=by
 obtain⟨N,h⟩:=h;refine⟨N+1,λn k f d=>?_⟩;obtain⟨a,rfl⟩:∃a,k=a+1:=⟨k-1,by omega⟩;have e:step n s=some (ys,.d b):=h n (by omega);unfold KL;rw[e];rfl
theorem HY.cont(h:Ev (λn=>step n s) (xs,.k s'))(q:HY step s' ys b):HY step s (xs++ys) b:=by
 obtain⟨N,h⟩:=h;obtain⟨M,q⟩:=q;refine⟨max N M+1,λn k f d=>?_⟩;obtain⟨a,rfl⟩:∃a,k=a+1:=⟨k-1,by omega⟩;have e:step n s=some (xs,.k s'):=h n (by omega);unfold KL
 grind
theorem HY.ev(h:HY step s ys b):Ev (λn=>KL (step n) n s) (ys,b):=by
 obtain⟨N,h⟩:=h;exact⟨N,λn a=>h n n a a⟩
end
def DZ(c:AE)(k:Int):AB Report->AB Ud
 |none=>none
 |some r=>bif decide (r.Offence<0)||decide ((c.Offences.length:Int)<=r.Offence)then none else
  (AJ c.Offences r.Offence).map λo=>{number:=k,bib:=r.Bib,penalty:={Position:=r.Position,Time:=o.Time,Laps:=o.Laps,Out:=o.Out}}
def F_(k:Int)(g:Ruling):AB Ud:=
 bif g.Kind==5 then some {number:=k,bib:=g.Bib,penalty:={Position:=g.Position,Time:=0,Laps:=0,Out:=true}}else
 bif g.Kind==4 then some {number:=k,bib:=g.Bib,penalty:={Position:=g.Position,Time:=0,Laps:=g.Amount,Out:=false}}else
 bif g.Kind==3 then some {number:=k,bib:=g.Bib,penalty:={Position:=g.Position,Time:=g.Amount,Laps:=0,Out:=false}}else none
def Ac(c:AE)(x:Bi):AB Ud:=
 match x.2.1 with
 |some g=>bif (g.Kind==5)||((g.Kind==4)||(g.Kind==3))then F_ x.1 g else bif g.Kind==2 then none else DZ c x.1 x.2.2.head?
 |none=>DZ c x.1 x.2.2.head?
def Be(K:AA Bi)(k:Int):AB Bi:=K.find? λx=>x.1==k
theorem sG(x:Bi)(K:AA Bi)(k:Int):Be (x::K) k=if x.1=k then some x else Be K k:=by
 unfold Be
 grind
theorem sH{K:AA Bi}{k:Int}(h:k∉K.map (·.1)):Be K k=none:=by
 refine List.find?_eq_none.2 λx a q=>h ?_
 grind
theorem pt:∀{K:AA Bi},(K.map (·.1)).Nodup->∀{x:Bi},x∈K->Be K x.1=some x
 |[],_,x,h=>by cases h
 |y::K,hn,x,h=>by
  rw[Vf,List.nodup_cons]at hn;rw[sG];rcases X3.1 h with rfl|h
  .simp
  .rw[Vn λq=>hn.1 (by rw[q];exact Xf.2 ⟨x,h,rfl⟩)];exact pt hn.2 h
theorem b_{β:Type}(key:β->Int)(f:Bi->AB β):∀(K:AA Bi) (m:AA (Int×β)),(K.map (·.1)).Nodup->(∀x∈K,∀y,f x=some y->key y=x.1)->∀k,
  Yv ((K.filterMap f).foldl (λm y=>QR m (key y) y) m) k=match(Be K k).bind f with|some v=>some v|none=>Yv m k
 |[],m,_,_,k=>rfl
 |x::K,m,hn,hk,k=>by
  rw[Vf,List.nodup_cons]at hn;have hk':∀x∈K,∀y,f x=some y->key y=x.1:=(by grind);rw[List.filterMap_cons,sG];cases hf:f x with
  |none=>
   simp only;rw[b_ key f K m hn.2 hk' k];by_cases e:x.1=k
   .simp_all[sH]
   grind
  |some y=>
   simp only[XC];rw[b_ key f K _ hn.2 hk' k];have hy:=hk x (by simp) y hf;by_cases e:x.1=k
   .simp_all[sH,YQ]
   .rw[Vn e];cases(Be K k).bind f with
    |some v=>rfl
    |none=>
     simp only;rw[YQ,Vn (by omega)]
theorem lA{β:Type}(a:β->Int):∀(L:AA β) (m:AA (Int×Bool)),(m.map Prod.fst).Nodup->(((L.foldl (λm y=>QR m (a y) true) m).map Prod.fst).Nodup/\(L.foldl (λm y=>QR m (a y) true) m).length<=m.length+L.length/\ ∀k,k∈(L.foldl (λm y=>QR m (a y) true) m).map Prod.fst↔k∈m.map Prod.fst\/k∈L.map a)
 |[],m,h=>(by grind)
 |y::L,m,h=>by
  rw[XC];obtain⟨i1,i2,i3⟩:=lA a L (QR m (a y) true) (r7 _ _ h);refine⟨i1,?_,λk=>?_⟩
  .grind[pu]
  .rw[i3,Vf,X3];have:k∈(QR m (a y) true).map Prod.fst↔k=a y\/k∈m.map Prod.fst:=by
    rw[S0,S0];constructor
    .rintro⟨v,d⟩;rw[YQ]at d
     grind
    .rintro(z|⟨v,d⟩)
     .exact⟨true,by rw[YQ,Vp z]⟩
     .by_cases z:k=a y
      .exact⟨true,by rw[YQ,Vp z]⟩
      simp_all[YQ]
   grind
def H0:AA (Int×Uc):=QR (QR (QR [] 3 ⟨115⟩) 4 ⟨116⟩) 5 ⟨117⟩
theorem wR(k:Int):Yv H0 k=if k=5 then some ⟨117⟩else if k=4 then some ⟨116⟩else if k=3 then some ⟨115⟩else none:=by
 unfold H0;rw[YQ,YQ,YQ];rfl
theorem qX{β:Type}(m:AA (Int×β))(k:Int)(z:β):QH m k z=(Yv m k).getD z:=rfl
section
variable {c:AE} {K:AA Bi} {m1:AA (Int×Report)×AA (Int×Bool)} {m2:AA (Int×Ruling)×AA (Int×Bool)} {S:AA Int}
theorem wd(t:∀k,Yv m1.1 k=(Be K k).bind λx=>x.2.2.head?)(u:∀k,Yv m2.1 k=(Be K k).bind λx=>x.2.1){i:Nat}{x:Bi}(h:At S i x.1)(y:Be K x.1=some x):
  Ev (λn=>Ih n c m1 m2 H0 S (i:Int)) ((Ac c x).toList,.k ((i+1:Nat):Int)):=by
 unfold Ih;simp only[h.lt,Vk,h.ix,XH,h.nx,qX,kg,t,u,y,wR];have s:∀(r:AB Report),Ev (λn=>((bif (!r.isSome)then some true else(bif (r.getD Uw).Offence<0 then some true else some (decide ((c.Offences.length:Int)<=(r.getD Uw).Offence)))):AB Bool).bind λf=>(bif f then some ([],.k ((i+1:Nat):Int))else(AJ c.Offences (r.getD Uw).Offence).bind λd=>yl ({number:=x.1,bib:=(r.getD Uw).Bib,penalty:={Position:=(r.getD Uw).Position,Time:=d.Time,Laps:=d.Laps,Out:=d.Out:AD}:Ud}) (some ([],.k ((i+1:Nat):Int)))))
   (((DZ c x.1 r).toList,.k ((i+1:Nat):Int)):(AA Ud)×AG Int Unit):=by
  intro r;cases r with
  |none=>exact Qa _
  |some r=>
   simp only[Option.isSome_some,Xh,Vl,Option.getD_some,DZ];cases q:decide (r.Offence<0)with
   |true=>exact Qa _
   |false=>
    cases p:decide ((c.Offences.length:Int)<=r.Offence)with
    |true=>exact Qa _
    |false=>
     simp only[Vl,XH,Bool.or_self];have a:=Vs q;have b:=Vs p;have:AJ c.Offences r.Offence=some (c.Offences[r.Offence.toNat]'(by omega)):=by
      unfold AJ
      grind
     rw[this];exact Qa _
 cases w:x.2.1 with
 |none=>
  simp_all[Ac,O0]
 |some g=>
  simp only[XH,Option.isSome_some,Vk,w,Option.getD_some];by_cases j:g.Kind=5
  .have e:Ac c x=some {number:=x.1,bib:=g.Bib,penalty:={Position:=g.Position,Time:=0,Laps:=0,Out:=true}}:=by unfold Ac F_;grind
   rw[e];simp only[j,if_true,O0,XH,Vk];exact Qa _
  by_cases l:g.Kind=4
  .have e:Ac c x=some {number:=x.1,bib:=g.Bib,penalty:={Position:=g.Position,Time:=0,Laps:=g.Amount,Out:=false}}:=by unfold Ac F_;grind
   rw[e];simp only[l,if_true,O0,XH,Vk];exact Qa _
  by_cases m:g.Kind=3
  .have e:Ac c x=some {number:=x.1,bib:=g.Bib,penalty:={Position:=g.Position,Time:=g.Amount,Laps:=0,Out:=false}}:=by unfold Ac F_;grind
   rw[e];simp only[m,if_true,O0,XH,Vk];exact Qa _
  simp only[Vn j,Vn l,Vn m,O0,XH];have e:Ac c x=bif g.Kind==2 then none else DZ c x.1 x.2.2.head? :=by
   unfold Ac
   grind
  rw[e];cases(g.Kind==2)with
  |true=>exact Qa _
  |false=>
   grind
theorem ow(d:∀k,Yv m1.1 k=(Be K k).bind λx=>x.2.2.head?)(a:∀k,Yv m2.1 k=(Be K k).bind λx=>x.2.1)(f:S.length<=1000):∀(r:AA Bi) (i:Nat),S.drop i=r.map (·.1)->i<=S.length->(∀x∈r,Be K x.1=some x)->
  HY (λn=>Ih n c m1 m2 H0 S) (i:Int) (r.filterMap (Ac c)) ()
 |[],i,hd,hi,_=>by
  refine HY.done ?_;unfold Ih;simp only[QY hd hi,Vl];exact Qa _
 |x::r,i,hd,hi,hx=>by
  rw[Vf]at hd;obtain⟨ha,hd'⟩:=Qw (by omega) hd;have hlt:=ha.lt';have e:(x::r).filterMap (Ac c)=(Ac c x).toList++r.filterMap (Ac c):=by
   grind
  rw[e];exact HY.cont (wd d a ha (hx x (by simp))) (ow d a f r (i+1) hd' (by omega) (by grind))
end
theorem x_{l:AA Int}(h:l.Pairwise (· < ·)):l.Nodup:=h.imp λh=>by omega
theorem yA{l:AA Int}(h:l.Nodup):(YH B0 l).Pairwise (· < ·):=by
 have nd:(YH B0 l).Nodup:=(Qu _ _).nodup_iff.2 h;refine(List.Pairwise.and (QV (Sk l)) nd).imp λ{a b} q=>?_
 grind[B0]
theorem t5(c:AE)(l:AA AC)(hl:l.length<=100):Ev (λn=>L' n l c) ((AQ l).filterMap (Ac c),()):=by
 have ok:=og l;have nd:=x_ ok.inc;have Q:=Wr l;unfold L';refine Ea (yx l hl) ?_;have L:((AQ l).filterMap λx=>x.2.2.head?).length<=100:=(by grind);have P:((AQ l).filterMap λx=>x.2.1).length<=100:=(by grind);have M:=b_ (λr:Report=>r.Case) (λx:Bi=>x.2.2.head?) (AQ l) [] nd ok.rep;have F:=b_ (λg:Ruling=>g.Case) (λx:Bi=>x.2.1) (AQ l) [] nd ok.rul;obtain⟨w,J,E⟩:=lA (λr:Report=>r.Case) ((AQ l).filterMap λx=>x.2.2.head?) [] (by simp);refine Ea (v:=(((AQ l).filterMap λx=>x.2.2.head?).foldl (λm y=>QR m y.Case y) [],((AQ l).filterMap λx=>x.2.2.head?).foldl (λm y=>QR m y.Case true) [])) ?_ ?_
 .generalize((AQ l).filterMap λx=>x.2.2.head?)=R at L;have e:∀(R:AA Report) (a:AA (Int×Report)) (b:AA (Int×Bool)),R.foldl (λ(m:AA (Int×Report)×AA (Int×Bool)) y=>(QR m.1 y.Case y,QR m.2 y.Case true)) (a,b)=(R.foldl (λm y=>QR m y.Case y) a,R.foldl (λm y=>QR m y.Case true) b):=by
   intro R
   induction R with
   |nil=>simp
   |cons y R ih=>grind
  rw[<- e];refine QA R (λ(m:AA (Int×Report)×AA (Int×Bool)) y=>(QR m.1 y.Case y,QR m.2 y.Case true)) ([],[]) (λm i=>(m.1,m.2,(i:Int))) (λm=>m) (by omega) rfl (λi x m ha _=>?_) ?_
  .unfold PY;simp only[ha.lt,Vk,ha.ix,XH,ha.nx];exact Qa _
  simp_all[PY,Qa]
 refine Ea (t3 l hl) ?_;simp only;generalize hb:((AQ l).filterMap λx=>x.2.2.head?).foldl (λm y=>QR m y.Case true) []=b0 at w J E;obtain⟨t,O,z⟩:=lA (λg:Ruling=>g.Case) ((AQ l).filterMap λx=>x.2.1) b0 w;refine Ea (v:=(((AQ l).filterMap λx=>x.2.1).foldl (λm y=>QR m y.Case y) [],((AQ l).filterMap λx=>x.2.1).foldl (λm y=>QR m y.Case true) b0)) ?_ ?_
 .generalize((AQ l).filterMap λx=>x.2.1)=R at P;have e:∀(R:AA Ruling) (a:AA (Int×Ruling)) (b:AA (Int×Bool)),R.foldl (λ(m:AA (Int×Ruling)×AA (Int×Bool)) y=>(QR m.1 y.Case y,QR m.2 y.Case true)) (a,b)=(R.foldl (λm y=>QR m y.Case y) a,R.foldl (λm y=>QR m y.Case true) b):=by
   intro R
   induction R with
   |nil=>simp
   |cons y R ih=>grind
  rw[<- e];refine QA R (λ(m:AA (Int×Ruling)×AA (Int×Bool)) y=>(QR m.1 y.Case y,QR m.2 y.Case true)) ([],b0) (λm i=>(m.1,m.2,(i:Int))) (λm=>m) (by omega) rfl (λi x m ha _=>?_) ?_
  .unfold Pd;simp only[ha.lt,Vk,ha.ix,XH,ha.nx];exact Qa _
  .unfold Pd;simp only[Hl,Vl];exact Qa _
 simp only;generalize hc:((AQ l).filterMap λx=>x.2.1).foldl (λm y=>QR m y.Case true) b0=b1 at t O z;refine Ea (v:=H0) (Qa _) ?_;unfold RC;simp only[XH];have T:b1.length<=200:=by grind
 refine Ea (v:=YH B0 (b1.map Prod.fst)) ⟨0,λn _=>?_⟩ ?_
 .unfold R_ SX;have B:(map Prod.fst b1).length<=1048576:=by grind
  rw[Sq B,Vk];refine j8 λp G=>?_;unfold Cw;rw[Sq (by rw[G.length_eq];exact B)]
  grind[qU]
 have e:YH B0 (b1.map Prod.fst)=((AQ l).filter λx=>x.2.1.isSome||x.2.2.head?.isSome).map (·.1):=by
  refine lI (lt:=λa b:Int=>a<b) (λa b h=>by omega) (yA t) ?_ λk=>?_
  .exact ok.inc.sublist ((List.filter_sublist).map _)
  .rw[(Qu _ _).mem_iff,z,E];simp only[Vg,List.not_mem_nil,false_or,Xf,List.mem_filterMap,Xe,Bool.or_eq_true];constructor
   .rintro(⟨r,⟨x,d,s⟩,rfl⟩|⟨g,⟨x,d,j⟩,rfl⟩)
    .exact⟨x,(by grind),(ok.rep x d r s).symm⟩
    .exact⟨x,(by grind),(ok.rul x d g j).symm⟩
   .rintro⟨x,⟨d,h|h⟩,rfl⟩
    .obtain⟨g,j⟩:=Option.isSome_iff_exists.1 h;exact .inr ⟨g,⟨x,d,j⟩,ok.rul x d g j⟩
    .obtain⟨r,s⟩:=Option.isSome_iff_exists.1 h;exact .inl ⟨r,⟨x,d,s⟩,ok.rep x d r s⟩
 have N:(YH B0 (b1.map Prod.fst)).length<=1000:=by grind
 have u:=ow (c:=c) (K:=AQ l) (m1:=(((AQ l).filterMap λx=>x.2.2.head?).foldl (λm y=>QR m y.Case y) [],b0)) (m2:=(((AQ l).filterMap λx=>x.2.1).foldl (λm y=>QR m y.Case y) [],b1)) (S:=YH B0 (b1.map Prod.fst))
  (λk=>by rw[M k];cases(Be (AQ l) k).bind λx=>x.2.2.head? <;>rfl) (λk=>by rw[F k];cases(Be (AQ l) k).bind λx=>x.2.1<;>rfl) N
  ((AQ l).filter λx=>x.2.1.isSome||x.2.2.head?.isSome) 0 (by grind) (XS _) (λx d=>pt nd (by grind))
 have H:((AQ l).filter λx=>x.2.1.isSome||x.2.2.head?.isSome).filterMap (Ac c)=(AQ l).filterMap (Ac c):=by
  rw[List.filterMap_filter];refine congrArg (λf=>(AQ l).filterMap f) (funext λx=>?_);by_cases q:(x.2.1.isSome||x.2.2.head?.isSome)=true
  .rw[Vp q]
  .rw[Vn q];rw[Bool.not_eq_true,XV,Option.isSome_eq_false_iff,Option.isSome_eq_false_iff,Option.isNone_iff_eq_none,Option.isNone_iff_eq_none]at q;unfold Ac;rw[q.1,q.2];rfl
 rw[H]at u;unfold ap;refine Ea u.ev ((Qa _).eq ?_);simp
def Bp(c:AE)(l:AA AC)(b:Int):AA Ud:=((AQ l).filterMap (Ac c)).filter λx=>x.bib==b
def BS(e:Int)(c:AE)(l:AA AC)(b:Int):AA Int×AA AD:=bif e != 0 then([],[])else((Bp c l b).map (·.number),(Bp c l b).map (·.penalty))
theorem k9(b:Int)(n:Nat):∀(a:AA Ud) (s:AA Int×AA AD),s.1.length+a.length<=1000->s.2.length+a.length<=1000->F6 (LQ n b) a s=some (.k (s.1++(a.filter λx=>x.bib==b).map (·.number),s.2++(a.filter λx=>x.bib==b).map (·.penalty)))
 |[],s,_,_=>by simp[F6]
 |y::a,s,h1,h2=>by
  simp only[XY]at h1 h2;unfold F6;have e:LQ n b s y=some (.k (bif y.bib==b then(s.1++[y.number],s.2++[y.penalty])else s)):=by
   unfold LQ;cases(y.bib==b)with
   |false=>rfl
   |true=>
    simp only[Vk];rw[O8 _ _ (by simp;omega)];simp only[XH];rw[O8 _ _ (by simp;omega)];rfl
  rw[e];show F6 _ a _=_;rw[Xd];cases(y.bib==b)with
  |false=>exact k9 b n a s (by omega) (by omega)
  |true=>
   simp only[Vk,if_true];rw[k9 b n a _ (by simp;omega) (by simp;omega)];simp
theorem wT(e:Int)(c:AE)(l:AA AC)(b:Int)(hl:l.length<=100)(he:Ev (λn=>Hu n c) e):Ev (λn=>Fu n c l b) (BS e c l b):=by
 unfold Fu BS P7;refine Ea he ?_;cases(e != 0)with
 |true=>exact Qa _
 |false=>
  simp only[Vl,XH];refine Ea (t5 c l hl) ?_
  grind[Wr,Bp,k9,Qa]
set_option maxRecDepth 100000
theorem uo:Rn 300=some true:=by kernel_rfl
theorem wX{c:AE}{b:Bool}(l:AA AC)(a:Ev (λn=>HK n c) b):Ev (λn=>MR n c l) (b&&decide ((l.length:Int)<=14)):=by
 unfold MR;refine Ea (v:=b&&decide ((l.length:Int)<=14)) (Ea a (Eh λ_=>Qa _)) (Qa _)
theorem xu(l m:AA AD)(hl:l.length<=1048576):Ev (λn=>HT n l m) (decide (l=m)):=uF l m (λn=>ZB n l m) (by omega) λn s=>rfl
theorem lQ(e:Int)(c:AE)(l:AA AC)(b:Int):(BS e c l b).1.length<=l.length/\(BS e c l b).2.length<=l.length:=by
 unfold BS Bp;cases(e != 0)with
 |true=>simp
 |false=>
  simp only[Vl,XZ]
  grind[Wr]
def Bn(x:AD):AA AD->AA AD
 |[]=>[x]
 |y::r=>bif x.Position<y.Position then y::Bn x r else x::y::r
def DJ(P:AA AD)(x:AD):AA AD:=(Bn x P.reverse).reverse
def B3(l:AA AD):AA AD:=l.foldl DJ []
theorem rJ(x:AD):∀r:AA AD,(Bn x r).length=r.length+1
 |[]=>rfl
 |y::r=>by
  unfold Bn;cases decide (x.Position<y.Position)with
  |true=>simp[rJ x r]
  |false=>rfl
theorem bS(P:AA AD)(x:AD):(DJ P x).length=P.length+1:=by grind[DJ,rJ]
theorem bP{α:Type}(P R:AA α)(x y:α):D1 (P++x::R) (P.length:Int) y=some (P++y::R):=by
 rw[pg _ _ (by simp)];simp
theorem Wg{α:Type}(P R:AA α)(x:α):AJ (P++x::R) (P.length:Int)=some x:=Yi (by simp)
theorem nf(x:AD):∀(Pr R:AA AD),Pr.length<=1000->BH (λn=>Io n 0) (Pr.reverse++x::R,(Pr.length:Int)) ((Bn x Pr).reverse++R)
 |[],R,_=>by
  refine Ei ?_;unfold Io;exact Ea (v:=false) (Qa _) (Qa _)
 |y::Pr,R,hl=>by
  simp only[XY]at hl;have e0:(y::Pr).reverse++x::R=Pr.reverse++y::x::R:=by simp
  have e:(y::Pr).reverse++x::R=(Pr.reverse++[y])++x::R:=by simp
  have a:((y::Pr).length:Int)=((Pr.reverse++[y]).length:Int):=by simp
  have g:AJ (Pr.reverse++y::x::R) ((y::Pr).length:Int)=some x:=by rw[<- e0,e,a];exact Wg _ _ _
  have w1:i64.wrap (((y::Pr).length:Int)-1)=(Pr.reverse.length:Int):=by grind[Q4]
  have f:AJ (Pr.reverse++y::x::R) (Pr.reverse.length:Int)=some y:=Wg _ _ _;have j:D1 (Pr.reverse++y::x::R) ((y::Pr).length:Int) y=some (Pr.reverse++y::y::R):=by
   rw[<- e0,e,a,bP];simp
  have i:AJ (Pr.reverse++y::y::R) (Pr.reverse.length:Int)=some y:=Wg _ _ _;have k:D1 (Pr.reverse++y::y::R) (Pr.reverse.length:Int) x=some (Pr.reverse++x::y::R):=bP _ _ _ _;have cmp:∀n,L8 n x y=some (BG x.Position y.Position):=λn=>by
   grind[L8,M2,bJ]
  have h:decide (BG x.Position y.Position<0)=decide (x.Position<y.Position):=by
   grind[BG]
  rw[e0];cases q:decide (x.Position<y.Position)with
  |true=>
   have d:=nf x Pr (y::R) (by omega);rw[show(Pr.length:Int)=(Pr.reverse.length:Int)by simp]at d;refine(Eu ?_ d).eq ?_
   .simp_all[Io,Qa]
   simp_all[Bn]
  |false=>
   refine Ei (Et (v:=.d (Pr.reverse++y::x::R)) ?_ ?_)
   .unfold Io;simp only[g,w1,f,XH,cmp,h,q]
    simp_all[Qa]
   .rw[show Bn x (y::Pr)=bif x.Position<y.Position then y::Bn x Pr else x::y::Pr from rfl,q];simp
theorem qv:∀(R P:AA AD),P.length+R.length<=1000->1<=P.length->BH (λn=>IT n 0 ((P.length+R.length:Nat):Int)) (P++R,(P.length:Int)) (R.foldl DJ P)
 |[],P,hl,h1=>by
  simp_all[Ei,IT,Qa]
 |x::R,P,hl,h1=>by
  simp only[XY]at hl;have ih:=qv R (DJ P x) (by rw[bS];omega) (by rw[bS];omega);have e:(DJ P x).length+R.length=P.length+(x::R).length:=by grind[bS]
  rw[e]at ih;rw[XC];refine Eu ?_ ih;unfold IT;have a:decide ((P.length:Int)<((P.length+(x::R).length:Nat):Int))=true:=Yb (by grind);simp only[a,Vk];have h:=nf x P.reverse R (by grind);rw[List.reverse_reverse,List.length_reverse]at h;refine Ea h.ev ?_
  grind[DJ,Ya,Qa]
theorem S_(l:AA AD):(B3 l).length=l.length:=by
 have:∀(l P:AA AD),(l.foldl DJ P).length=P.length+l.length:=by
  intro l
  induction l with
  |nil=>intro P;rfl
  |cons x l a=>grind[bS]
 simp_all[B3]
theorem yc{α:Type}{l r:AA α}{o:AB (AA α)}(h:o=some r)(hl:l.length=r.length):LB l o=some r:=by
 simp_all[LB]
theorem Ev.keep{α:Type}{l r:AA α}{o:Nat->AB (AA α)}(h:Ev o r)(hl:l.length=r.length):Ev (λn=>LB l (o n)) r:=by
 obtain⟨N,h⟩:=h;exact⟨N,λn a=>yc (h n a) hl⟩
theorem xw(l:AA AD)(hl:l.length<=1000):∃u,Ev (λn=>It n l) (l,u):=by
 refine⟨(),?_⟩;unfold It;have e:∀(r:AA AD) (i:Nat),l.drop i=r->i<=l.length->HY (λn=>Lq n l) (i:Int) r ():=by
  intro r
  induction r with
  |nil=>
   intro i d g;refine HY.done ?_;unfold Lq;simp only[QY d g,Vl];exact Qa _
  |cons x r j=>
   intro i d g;obtain⟨a,f⟩:=Qw (by omega) d;refine HY.cont (xs:=[x]) ?_ (j (i+1) f (by have:=a.lt';omega));unfold Lq;simp only[a.lt,Vk,a.ix,XH,a.nx];exact Qa _
 have h:=e l 0 (by simp) (XS _);unfold ap;refine Ea h.ev ((Qa _).eq ?_);simp
theorem pS(n:Nat):∀(ys s:AA AD),s.length+ys.length<=1000->F6 (IN n) ys s=some (.k (s++ys))
 |[],s,_=>by simp[F6]
 |y::ys,s,h=>by
  simp only[XY]at h;unfold F6 IN;rw[O8 _ _ (by simp;omega)];show F6 _ ys _=_;have:=pS n ys (s++[y]) (by simp;omega);unfold IN at this
  grind
theorem VP(l:AA AD)(hl:l.length<20):Ev (λn=>Mg n l) (B3 l):=by
 unfold Mg Rr SA RI RV;simp only[XH];obtain⟨u,a⟩:=xw l (by omega);have d:Ev (λn=>((It n l).bind λy1=>(F6 (IN n) y1.1 []:AB (AG (AA AD) (AA AD))).bind λD8=>match D8 with|.k s14=>(some s14)|.d s14=>some s14)) l:=by
  refine Ea a ?_
  grind[pS,Qa]
 refine Ea (Ea (by grind) (Ea (Ev.keep ?_ (S_ l).symm) (Qa _))) (Qa _);unfold RU Rq RP;refine Ea (Ev.keep ?_ (S_ l).symm) (Qa _);simp only[Yb (show(l.length:Int)<20 by omega),Vk];refine Ea (Ev.keep (Ea (v:=B3 l) ?_ (Qa _)) (S_ l).symm) (Qa _);have w1:i64.wrap (0+1)=1:=rfl;rw[w1];cases l with
 |nil=>
  refine(Ei ?_).ev;unfold IT;exact Qa _
 |cons x l=>
  have:=qv l [x] (by grind) (by simp);have e:(((x::l).length:Nat):Int)=(([x].length+l.length:Nat):Int):=by grind
  rw[e];exact this.ev
def DR:Int->AA AD->AA AD
 |_,[]=>[]
 |room,p::r=>{p with Laps:=if room<p.Laps then room else p.Laps}::DR (i64.wrap (room-(if room<p.Laps then room else p.Laps))) r
theorem pU:∀(room:Int) (l:AA AD),(DR room l).length=l.length
 |_,[]=>rfl
 |room,p::r=>by rw[DR,XY,pU,XY]
theorem na:∀(R P:AA AD) (x0:AA AD) (room:Int),x0.length=P.length+R.length->x0.length<=1000->BH (λn=>LX n x0) (P++R,room,(P.length:Int)) (P++DR room R)
 |[],P,x0,room,hx,hl=>by
  simp_all[Ei,LX,DR,Qa]
 |p::R,P,x0,room,hx,hl=>by
  simp only[XY]at hx;have ih:=na R (P++[{p with Laps:=if room<p.Laps then room else p.Laps}]) x0 (i64.wrap (room-(if room<p.Laps then room else p.Laps))) (by simp;omega) hl;have e:∀z:AD,(P++[z])++R=P++z::R:=λz=>by simp
  rw[e]at ih;refine(Eu ?_ ih).eq (by rw[DR];simp);unfold LX;simp only[Yb (show(P.length:Int)<(x0.length:Int)by omega),Vk,Wg,XH,bP]
  grind[Ya,Qa]
mutual
def Kz:AF->AA Int
 |⟨m,laps,ps⟩=>bif laps==0 then[m]else(List.replicate laps.toNat (Av ps)).flatten
def Av:AA AF->AA Int
 |[]=>[]
 |p::r=>Kz p++Av r
end
theorem Sj(p:AF):Kz p=bif p.Laps==0 then[p.Mat]else(List.replicate p.Laps.toNat (Av p.Parts)).flatten:=by cases p;rfl
theorem Wt(p:AF)(r:AA AF):Av (p::r)=Kz p++Av r:=by rw[Av]
theorem qA:∀(k:Nat) (out lap:AA Int),(BW k out lap).length<=256->BW k out lap=out++(List.replicate k lap).flatten
 |0,out,lap,_=>by simp[BW]
 |k+1,out,lap,h=>by
  rw[BW]at h⊢;by_cases hb:256<out.length
  .grind
  .rw[Vn hb]at h⊢;rw[qA k _ _ h,Xm,Vh,Ve]
theorem jr{a:Int}{p:AF}(h:Cx a p=true):p.Laps=0\/(1<=p.Laps/\p.Laps<=64/\Au a p.Parts=true):=by
 rw[S2]at h;cases d:(p.Laps==0)with
 |true=>grind
 |false=>
  simp_all[Az]
theorem wj(t:Int):∀(m:Nat) (l:AA AF) (e:AA Int),AX l<=m->Au t l=true->(A5 e l).length<=256->A5 e l=e++Av l:=by
 intro m
 induction m using Nat.strongRecOn with
 |_ m u=>
 intro l
 induction l with
 |nil=>grind[A5,Av]
 |cons p r i=>
  intro e w g n;rw[Ju,List.all_cons,XU, <- Ju]at g;have j:N2 p+AX r<=m:=by rw[AX]at w;omega
  rw[A5]at n⊢;by_cases k:256<(BW (p.Laps.toNat+(bif 0<p.Laps then 0 else 1)) e (Ci p)).length
  .grind
  .have q:=qA _ _ _ (Nat.le_of_not_lt k);rw[i _ (by omega) g.2 n,q,Wt,Ve];congr 2;rcases jr g.1 with x|⟨a,b,d⟩
   .simp_all[LK,Sj]
   .have h:decide (0<p.Laps)=true:=Yb (by omega);have s:(p.Laps==0)=false:=(by grind);have f:(Ci p).length<=256:=by
     rw[q,h]at k;simp only[Vk,Xw]at k;have:p.Laps.toNat=(p.Laps.toNat-1)+1:=by omega
     grind
    rw[LK,h,Vk]at f;rw[Y2]at j;have:=u (AX p.Parts) (by omega) p.Parts [] (XR _) d f;rw[LK,Sj,h,s,Vk,Vk,Vl,Xw,this,Vd]
theorem vy(R:Int):∀(m:Nat) (l:AA AF) (e:AA Int),AX l<=m->Au R l=true->l.length<=1048576->(∀x∈l,AF.wf x)->e.length+(Av l).length<=256->Ev (λn=>Nx n l e) (e++Av l):=by
 intro m
 induction m using Nat.strongRecOn with
 |_ m J=>
 intro l e V F O T M;rw[Ju,Xt]at F;refine QX ?_;show Ev (λn=>dC (Nx n) n l e) _;unfold dC;have inner:∀(p:AF) (w:AA Int),0<=p.Laps->p.Laps<=64->(∀o:AA Int,o.length+w.length<=256->Ev (λn=>Nx n p.Parts o) (o++w))->∀(k j:Nat) (o:AA Int),j+k=p.Laps.toNat->o.length+(List.replicate k w).flatten.length<=256->
   BH (λn=>IU n (Nx n) p) (o,(j:Int)) (o++(List.replicate k w).flatten):=by
  intro p w E N q k
  induction k with
  |zero=>
   intro j o H _;refine Ei ?_;unfold IU;simp only[YA (show¬((j:Int)<p.Laps)by omega),Vl,List.replicate_zero,List.flatten_nil,Vc];exact Qa _
  |succ k t=>
   intro j o H g;rw[Xm,Vh]at g⊢;simp only[X0]at g;refine(Eu ?_ (t (j+1) (o++w) (by omega) (by grind))).eq (by simp);unfold IU;simp only[Yb (show(j:Int)<p.Laps by omega),Vk];refine Ea (q o (by omega)) ?_;rw[Ya (by omega)];exact Qa _
 have loop:∀(r:AA AF) (i:Nat) (o:AA Int),l.drop i=r->i<=l.length->o.length+(Av r).length<=256->BH (λn=>Lf n l (Nx n)) (o,(i:Int)) (o++Av r):=by
  intro r
  induction r with
  |nil=>
   intro i o q B _;refine Ei ?_;unfold Lf;simp only[QY q B,Vl,Av,Vc];exact Qa _
  |cons p r u=>
   intro i o q B g;obtain⟨f,s⟩:=Qw (by omega) q;have G:=f.lt';rw[Wt,X0]at g;have Q:=Jk f.mem;rw[Y2]at Q;obtain⟨w1,w2⟩:=Yw (T p f.mem);have L:=F p f.mem;refine(Eu ?_ (u (i+1) (o++Kz p) s (by omega) (by grind))).eq (by rw[Wt,Ve]);unfold Lf;simp only[f.lt,Vk,f.ix,XH,f.nx];rcases jr L with E|⟨a,b,d⟩
   .have h:(p.Laps==0)=true:=by simp[E]
    have z:Kz p=[p.Mat]:=by rw[Sj,h];rfl
    rw[z]at g⊢;refine Ea (v:=o++[p.Mat]) ?_ ?_
    .rw[h];refine Ot ?_
     grind[O8,Qa]
    .refine Ea (v:=o++[p.Mat]) ((Ei ?_).ev) (Qa _)
     simp_all[IU,Qa]
   .have h:(p.Laps==0)=false:=(by grind);have z:Kz p=(List.replicate p.Laps.toNat (Av p.Parts)).flatten:=by rw[Sj,h];rfl
    rw[z]at g⊢;refine Ea (v:=o) ?_ ?_
    .rw[h];exact Qa _
    .refine Ea ((inner p (Av p.Parts) (by omega) b (λP y=>J (AX p.Parts) (by omega) p.Parts P (XR _) d w1 w2 y) p.Laps.toNat 0 o (by omega) (by omega)).ev) (Qa _)
 exact Ea ((loop l 0 e (by simp) (XS _) M).ev) (Qa _)
structure FT (c:AE):Prop where
 parts:∀d∈c.Distances,Au ((c.Mats.length:Int)-1) d.Route=true
 route:∀d∈c.Distances,2<=(A5 [] d.Route).length/\(A5 [] d.Route).length<=256
 len:∀d∈c.Distances,d.Route.length<=1048576
 wf:∀d∈c.Distances,∀x∈d.Route,AF.wf x
 legs:c.Legs.length<=512
theorem FT.exp{c:AE}(g:FT c){d:Distance}(a:d∈c.Distances):A5 [] d.Route=Av d.Route:=by
 have:=wj _ _ d.Route [] (XR _) (g.parts d a) (g.route d a).2
 grind
theorem zi{c:AE}(g:FT c){d:Distance}(a:d∈c.Distances):Ev (λn=>Mp n d.Route) (Av d.Route):=by
 unfold Mp;have h:=(g.route d a).2;rw[g.exp a]at h;refine Ea ((vy _ _ d.Route [] (XR _) (g.parts d a) (g.len d a) (g.wf d a) (by simpa using h)).eq (Vd _)) (Qa _)
theorem uT{c:AE}(he:Ev (λn=>Hu n c) 0){i:Nat}{d:Distance}(e:c.Distances[i]?=some d):Ev (λn=>Mn n c (i:Int)) (d,0):=by
 unfold Mn;refine Ea he ?_;have a:=(XJ.1 e).1
 simp_all[YA,Qa,Yi]
theorem vu(c:AE)(hl:c.Legs.length<=512):∃m,Ev (λn=>Go.Sw.iter (Lc n c) n (([]:AA (Ua×BE)),0)) m:=by
 refine⟨_,QA c.Legs (λ(m:AA (Ua×BE)) x=>QR m ({from_:=x.From,to_:=x.To:Ua}) x) [] (λm i=>(m,(i:Int))) (λm=>m) (by omega) rfl (λi x m ha _=>?_) ?_⟩
 .unfold Lc;simp only[ha.lt,Vk,ha.ix,XH,ha.nx];exact Qa _
 .unfold Lc;simp only[Hl,Vl];exact Qa _
theorem xr{c:AE}(g:FT c)(he:Ev (λn=>Hu n c) 0){i:Nat}{d:Distance}(f:c.Distances[i]?=some d):Ev (λn=>MI n c (i:Int)) (Av d.Route,0):=by
 have e:=VD f;have h:=(g.route d e).2;rw[g.exp e]at h;unfold MI Rb;obtain⟨m,a⟩:=vu c g.legs;refine Ea (v:=(0,Av d.Route)) ?_ (by simp only[bne_self_eq_false,Vl];exact Qa _);refine Ea (v:=AY.c2 (Av d.Route,m)) ?_ (Qa _);refine Ea (uT he f) (Yc (Ea (v:=()) (Qa _) (Ea (zi g e) ?_)));have w:i64.wrap (256-((Av d.Route).length:Int))=256-((Av d.Route).length:Int):=Q4 (by omega) (by omega);simp only[w,YA (show¬(256-((Av d.Route).length:Int)<0)by omega),Vl];exact Ea a (Qa _)
theorem xT{α:Type}{step:Nat->Int->AB (AG Int (AG Unit Int))}(l:AA α)(q:α->Bool)(hl:l.length<=1048576)
  (s:∀i x,At l i x->Ev (λn=>step n (i:Int)) (bif q x then .d (.d (i:Int))else .k ((i+1:Nat):Int)))(w:Ev (λn=>step n (l.length:Int)) (.d (.k ()))):
  (∃i x,At l i x/\l.find? q=some x/\Ev (λn=>Go.Sw.iter (step n) n 0) (.d (i:Int)))\/l.find? q=none/\Ev (λn=>Go.Sw.iter (step n) n 0) (.k ()):=by
 have k:∀(r:AA α) (i:Nat),l.drop i=r->i<=l.length->(∃j x,At l j x/\r.find? q=some x/\BH step (i:Int) (.d (j:Int)))\/r.find? q=none/\BH step (i:Int) (.k ()):=by
  intro r
  induction r with
  |nil=>
   intro i f p;have:i=l.length:=by have:=Xr.1 f;omega
   simp_all[Ei]
  |cons x r u=>
   intro i f p;obtain⟨g,t⟩:=Qw (by omega) f;have m:=g.lt';have h:=s i x g;rw[List.find?_cons];cases e:q x with
   |true=>rw[e]at h;exact .inl ⟨i,x,g,rfl,Ei h⟩
   |false=>
    grind[BH.cont]
 rcases k l 0 (by simp) (XS _)with⟨j,x,a,b,d⟩|⟨a,b⟩
 .exact .inl ⟨j,x,a,b,d.ev⟩
 .exact .inr ⟨a,b.ev⟩
theorem vZ{c:AE}(w:Ae c)(q:BX c)(h:AV c=0):FT c:=by
 unfold AV at h;cases e:CA c with
 |false=>grind
 |true=>
  rw[e]at h;cases j:CM c with
  |false=>grind
  |true=>
   rw[j]at h;cases a:Aq c with
   |false=>grind
   |true=>
    rw[a]at h;simp only[Vk]at h;have i:c.Distances.all (BQ c)=true:=by
     grind
    unfold Aq at a;simp only[XU]at a;obtain⟨_,_,_,g,_⟩:=a;unfold CA at e;simp only[XU,Bool.not_eq_true',XV,decide_eq_false_iff_not]at e;rw[Xt]at i g;refine⟨λd f=>?_,λd f=>?_,q.len,q.wf,?_⟩
    .simp_all[CJ]
    .simp_all[BQ,Dt]
    omega
theorem lH{e:Int}{c:AE}{l:AA AC}{s:Starter}(h:s∈(Ax e c l).1):e=0/\ ∃f∈l,C8 c f=true/\f.Starter=s:=by
 unfold Ax at h;cases a:(e != 0)with
 |true=>grind
 |false=>
  rw[a]at h;simp only[bne_eq_false_iff_eq]at a;cases m:decide (((Bt (A3 c l)).map A').Nodup)with
  |false=>grind
  |true=>
   rw[m]at h;simp only[Vl,Vk]at h;obtain⟨f,g,rfl⟩:=Xf.1 h;unfold Bt at g;obtain⟨k,j,rfl⟩:=Xf.1 g;have d:=(Qu _ _).mem_iff.1 j;obtain⟨v,i⟩:=(S0 _ _).1 d;have:=(Ws c l).ok k v i;refine⟨a,v,this.2.2,this.2.1,?_⟩;rw[qX,i];rfl
theorem sE{e:Int}{c:AE}{l:AA AC}{s:Starter}(h:s∈(Ax e c l).1):0<=s.Distance/\s.Distance<(c.Distances.length:Int):=by
 obtain⟨_,f,_,a,rfl⟩:=lH h;unfold C8 at a;simp only[XU,Vu,Bool.not_eq_true',decide_eq_false_iff_not]at a;obtain⟨g,d,j,_⟩:=a;obtain⟨_,i,_⟩:=cZ d
 simp_all[Bu,Ht]
def Dj(c:AE)(s:Starter):Int:=match c.Distances[s.Distance.toNat]? with
 |some d=>bif 0<=d.Extra then 256-((Av d.Route).length:Int)else 0
 |none=>0
def NI(e:Int)(c:AE)(l:AA AC)(b:Int):AA AD:=bif (Ax e c l).2 != 0 then[]else match(Ax e c l).1.find? λs=>s.Bib==b with
 |none=>[]
 |some s=>DR (Dj c s) (B3 (BS e c l b).2)
theorem vi(e:Int)(c:AE)(l:AA AC)(b:Int):(NI e c l b).length<=l.length:=by
 unfold NI;cases((Ax e c l).2 != 0)with
 |true=>simp
 |false=>
  simp only[Vl];cases(Ax e c l).1.find? λs=>s.Bib==b with
  |none=>simp
  |some s=>
   grind[pU,S_,lQ]
theorem VQ(e:Int)(c:AE)(l:AA AC)(b:Int)(hl:l.length<=15)(he:Ev (λn=>Hu n c) e)(g:e=0->FT c):Ev (λn=>Fq n c l b) (NI e c l b):=by
 unfold Fq NI;refine Ea (zX e c l (by omega) he) ?_;cases B:((Ax e c l).2 != 0)with
 |true=>exact Qa _
 |false=>
  simp only[Vl];have u:=sB e c l;have k:∀s∈(Ax e c l).1,e=0/\0<=s.Distance/\s.Distance<(c.Distances.length:Int):=λs k=>⟨(lH k).1,sE k⟩;generalize(Ax e c l).1=S at u k;have w:=xT (step:=λn=>Lj n S b) S (λs=>s.Bib==b) (by omega) (λi x f=>by
    unfold Lj;simp only[f.lt,Vk,f.ix,XH,f.nx]
    grind[P1,Qa]) (by
    simp_all[Lj,Qa])
  rcases w with⟨i,s,f,m,h⟩|⟨m,h⟩
  .rw[m];simp only;refine Ea (v:=(i:Int)) (by unfold L_;exact Ea h (Qa _)) ?_;obtain⟨t,y,E⟩:=k s f.mem;subst t;have p:=g rfl;obtain⟨j,q⟩:∃j:Nat,s.Distance=(j:Int):=⟨s.Distance.toNat,by omega⟩;have a:c.Distances[j]?=some (c.Distances[j]'(by omega)):=(by simp);generalize c.Distances[j]'(by omega)=d at a;have r:=(p.route d (by grind)).2;rw[p.exp (by grind)]at r;have er:Dj c s=bif 0<=d.Extra then 256-((Av d.Route).length:Int)else 0:=by
    grind[Dj]
   rw[er];simp only[YA (show¬((i:Int)<0)by omega),Vl,f.ix,XH,q,Yi a];refine Ea (v:=bif 0<=d.Extra then 256-((Av d.Route).length:Int)else 0) ?_ ?_
   .refine KP (λ_=>?_) λ_=>Qa _;refine Ea (xr p he a) ?_
    grind[Q4,Qa]
   refine Ea (wT 0 c l b (by omega) he) ?_;have z:=(lQ 0 c l b).2;generalize(bif 0<=d.Extra then 256-((Av d.Route).length:Int)else 0)=room;refine Ea (VP _ (by omega)) (Ea ?_ (Qa _));have:=na (B3 (BS 0 c l b).2) [] (B3 (BS 0 c l b).2) room (by simp) (by rw[S_];omega);exact this.ev
  .rw[m];simp only;refine Ea (v:= -1) (by unfold L_;exact Ea h (Qa _)) ?_;exact Qa _
theorem kc{α R:Type}{step:Nat->Int->AB (AG Int (AG Unit R))}(l:AA α)(q:α->Bool)(v:α->R)(hl:l.length<=4611686018427387904)
  (j:∀i x,At l i x->Ev (λn=>step n (i:Int)) (bif q x then .d (.d (v x))else .k ((i+1:Nat):Int)))(e:Ev (λn=>step n (l.length:Int)) (.d (.k ()))):
  Ev (λn=>Go.Sw.iter (step n) n 0) ((l.find? q).elim (.k ()) λx=>.d (v x)):=by
 have loop:∀(r:AA α) (i:Nat),l.drop i=r->i<=l.length->BH step i ((r.find? q).elim (.k ()) λx=>.d (v x)):=by
  intro r
  induction r with
  |nil=>
   intro i a d;have:i=l.length:=by have:=Xr.1 a;omega
   subst this;exact Ei e
  |cons x r g=>
   intro i a d;obtain⟨h,f⟩:=Qw hl a
   grind[BH.done,BH.cont]
 exact(loop l 0 rfl (XS _)).ev
theorem wD{α:Type}(q:α->Bool)(l:AA α):(l.find? q).isSome=l.any q:=by
 grind
theorem JW(C:AA AC)(k i:Int)(hl:C.length<=1048576):Ev (λn=>HO n C k i) (A4 (BF k i) C 0):=by
 refine Ev.first C (BF k i) (by omega) (λj x a=>?_) ?_
 .unfold Px;simp only[a.lt,a.ix,XH,a.nx];refine Ea (v:=BF k i x) (Wk (Qa _) λn=>?_) ?_
  .unfold BF
   grind
  .cases BF k i x<;>exact Qa _
 simp_all[Px,Qa]
theorem z8{c:AE}(h:AV c=0):CA c=true/\Aq c=true/\ ∀d∈c.Distances,BQ c d=true:=by
 unfold AV at h;cases e:CA c with
 |false=>rw[e]at h;cases h
 |true=>
  rw[e]at h;cases i:CM c with
  |false=>rw[i]at h;cases h
  |true=>
   rw[i]at h;cases g:Aq c with
   |false=>rw[g]at h;cases h
   |true=>
    rw[g]at h;simp only[Vk]at h;cases a:(CV c.Ties==0)with
    |false=>
     rw[a,Vl]at h;rw[Vv]at a;exact absurd h a
    |true=>
     rw[a,Vk]at h;cases f:c.Distances.all (BQ c)with
     |true=>exact⟨rfl,rfl,Xt.1 f⟩
     |false=>rw[f]at h;cases h
theorem vx(W:Int):∀(m:Nat) (l:AA AF),AX l<=m->Au W l=true->l.length<=1048576->(∀x∈l,AF.wf x)->(Av l).length<=256->Ev (λn=>HW n l) (Av l):=by
 intro m
 induction m using Nat.strongRecOn with
 |_ m N=>
 intro l Y J R X P;rw[Ju,Xt]at J;refine QX ?_;show Ev (λn=>M_ (HW n) n l) _;unfold M_;have inner:∀(p:AF) (i:Nat) (e:At l i p) (B w:AA Int),0<=p.Laps->p.Laps<=64->w.length<=256->∀(k j:Nat) (o:AA Int),j+k=p.Laps.toNat->o.length+(List.replicate k w).flatten.length<=256->
   BH (λn=>Ik n l (B,(i:Int)) w) (o,(j:Int)) (o++(List.replicate k w).flatten):=by
  intro p i e B w G Q V k
  induction k with
  |zero=>
   intro j o M _;refine Ei ?_;unfold Ik;simp only[e.ix,XH,YA (show¬((j:Int)<p.Laps)by omega),Vl,List.replicate_zero,List.flatten_nil,Vc];exact Qa _
  |succ k q=>
   intro j o M f;by_cases t:w.length=0
   .have t:w=[]:=VF.1 t;subst t;refine Ei ?_;unfold Ik;simp only[e.ix,XH,Yb (show(j:Int)<p.Laps by omega),Vk,YA (show¬((0:Int)<(([]:AA Int).length:Int))by simp),Vl];exact(Qa _).eq (by simp)
   .rw[Xm,Vh]at f⊢;simp only[X0]at f;refine(Eu ?_ (q (j+1) (o++w) (by omega) (by rw[X0];omega))).eq (by rw[Ve]);unfold Ik;simp only[e.ix,XH,Yb (show(j:Int)<p.Laps by omega),Vk,Yb (show(0:Int)<(w.length:Int)by omega),Yb (show(o.length:Int)<=300 by omega)];refine Jh (Wm o w (by omega)) ?_;rw[Ya (by omega)];exact Qa _
 have loop:∀(r:AA AF) (i:Nat) (o:AA Int),l.drop i=r->i<=l.length->o.length+(Av r).length<=256->BH (λn=>LS n l (HW n)) (o,(i:Int)) (o++Av r):=by
  intro r
  induction r with
  |nil=>
   intro i o z F _;refine Ei ?_;unfold LS;simp only[QY z F,Vl,Av,Vc];exact Qa _
  |cons p r u=>
   intro i o z F f;obtain⟨e,h⟩:=Qw (by omega) z;have L:=e.lt';rw[Wt,X0]at f;have T:=Jk e.mem;rw[Y2]at T;obtain⟨w1,w2⟩:=Yw (X p e.mem);have O:=J p e.mem;refine(Eu ?_ (u (i+1) (o++Kz p) h (by omega) (by rw[X0];omega))).eq (by rw[Wt,Ve]);unfold LS;simp only[e.lt,Vk,e.ix,XH,e.nx];rcases jr O with G|⟨a,b,d⟩
   .have g:(p.Laps==0)=true:=by simp[G]
    have y:Kz p=[p.Mat]:=by rw[Sj,g];rfl
    rw[y]at f⊢;refine Ea (v:=o++[p.Mat]) ?_ (Qa _);rw[g];exact Ot (Ea (EA (ni (by omega))) (Qa _))
   .have g:(p.Laps==0)=false:=beq_false_of_ne (by omega);have y:Kz p=(List.replicate p.Laps.toNat (Av p.Parts)).flatten:=by rw[Sj,g];rfl
    rw[y]at f⊢;have H:(Av p.Parts).length<=256:=by
     obtain⟨E,s⟩:∃E,p.Laps.toNat=E+1:=⟨p.Laps.toNat-1,by omega⟩;rw[s,Xm,Vh,X0]at f;omega
    refine Ea (v:=o++(List.replicate p.Laps.toNat (Av p.Parts)).flatten) ?_ (Qa _);rw[g];exact Yc (Ea (N (AX p.Parts) (by omega) p.Parts (XR _) d w1 w2 H) (Ea ((inner p i e o (Av p.Parts) (by omega) b H p.Laps.toNat 0 o (by omega) (by omega)).ev) (Qa _)))
 exact Ea ((loop l 0 [] (by simp) (XS _) (by simpa using P)).ev.eq (Vd _)) (Qa _)
theorem wA{c:AE}(a:AV c=0){d:Distance}(e:d∈c.Distances): -1<=d.Extra:=by
 have h:=(z8 a).2.1;unfold Aq at h;simp only[XU]at h;obtain⟨_,_,_,h,_⟩:=h;have:=Xt.1 h d e;unfold CJ Az at this;simp only[XU,Vm]at this;exact this.2.1.1
theorem TP(c:AE)(hc:AE.wf c)(hf:DU c):Ev (λn=>IH n c) (AV c):=QiR c (lU hc) (lN hc) hf (jx hc).1 (jx hc).2
def Bl{α:Type}(q:α->Bool):AA α->Nat
 |[]=>0
 |x::r=>bif q x then Bl q r+1 else 0
theorem jv{α:Type}(q:α->Bool):∀l:AA α,Bl q l<=l.length
 |[]=>XR _
 |x::r=>by
  unfold Bl;have:=jv q r
  grind
theorem o0{α:Type}{step:Nat->Int->AB (AG Int Int)}(q:α->Bool)(l:AA α)(hl:l.length<=1048576)
  (m:∀i x,At l i x->Ev (λn=>step n (i:Int)) (bif q x then .k ((i+1:Nat):Int)else .d (i:Int)))(p:Ev (λn=>step n (l.length:Int)) (.d (l.length:Int))):
  Ev (λn=>Go.Sw.iter (step n) n 0) ((Bl q l:Nat):Int):=by
 have loop:∀(r:AA α) (i:Nat),l.drop i=r->i<=l.length->BH step (i:Int) ((i+Bl q r:Nat):Int):=by
  intro r
  induction r with
  |nil=>
   intro i a k;have:i=l.length:=by have:=Xr.1 a;omega
   subst this;exact Ei p
  |cons x r j=>
   intro i a k;obtain⟨f,d⟩:=Qw (by omega) a;have h:=m i x f;have g:=f.lt';unfold Bl;cases e:q x with
   |true=>
    rw[e]at h;refine(Eu h (j (i+1) d (by omega))).eq ?_
    grind
   |false=>rw[e]at h;exact Ei h
 have:=(loop l 0 rfl (XS _)).ev
 grind
def A9(k:Int)(l:AA Int):AA Int:=if l[Bl (λx=>decide (x<k)) l]?=some k then l else l.take (Bl (λx=>decide (x<k)) l)++k::l.drop (Bl (λx=>decide (x<k)) l)
theorem rL(k x:Int)(r:AA Int):A9 k (x::r)=bif x<k then x::A9 k r else if x=k then x::r else k::x::r:=by
 have e:Bl (λx=>decide (x<k)) (x::r)=bif x<k then Bl (λx=>decide (x<k)) r+1 else 0:=rfl
 unfold A9
 grind
theorem ko(k:Int):∀(l:AA Int) (t:Int),t∈A9 k l↔t=k\/t∈l
 |[],t=>by simp[A9,Bl]
 |x::r,t=>by
  rw[rL];cases decide (x<k)with
  |true=>
   simp only[Vk,X3,ko k r t]
   grind
  |false=>
   grind
theorem qH(k:Int):∀{l:AA Int},l.Pairwise (· < ·)->(A9 k l).Pairwise (· < ·)
 |[],_=>by simp[A9,Bl]
 |x::r,h=>by
  rw[rL];rw[Xc]at h;by_cases q:x<k
  .rw[Yb q,Vk,Xc];refine⟨λy hy=>?_,qH k h.2⟩;rcases(ko k r y).1 hy with rfl|hy
   .exact q
   grind
  .rw[YA q,Vl];by_cases e:x=k
   .simp_all
   .rw[Vn e,Xc];refine⟨λy hy=>?_,Xc.2 h⟩
    grind
theorem qI(k:Int)(l:AA Int):(A9 k l).length<=l.length+1:=by
 grind[A9]
theorem Wv:∀(ks a:AA Int),a.Pairwise (· < ·)->((ks.foldl (λa k=>A9 k a) a).Pairwise (· < ·)/\(∀t,t∈ks.foldl (λa k=>A9 k a) a↔t∈a\/t∈ks)/\(ks.foldl (λa k=>A9 k a) a).length<=a.length+ks.length)
 |[],a,h=>(by grind)
 |k::ks,a,h=>by
  rw[XC];obtain⟨h1,h2,h3⟩:=Wv ks (A9 k a) (qH k h)
  grind[ko,qI]
theorem ox(l:AA Int)(k:Int)(hl:l.length<=1000):Ev (λn=>((bif ((Bl (λx=>decide (x<k)) l:Nat):Int)<(l.length:Int) then(AJ l ((Bl (λx=>decide (x<k)) l:Nat):Int)).bind λx=>some (x==k)else some false):AB Bool).bind λb=>(bif b then some l else(CU l ((Bl (λx=>decide (x<k)) l:Nat):Int) (l.length:Int)).bind λx=>(app [k] x).bind λl1=>(CU l 0 ((Bl (λx=>decide (x<k)) l:Nat):Int)).bind λy=>(app y l1).bind λl2=>some l2)) (A9 k l):=by
 have a:=jv (λx=>decide (x<k)) l;unfold A9;generalize Bl (λx=>decide (x<k)) l=p at a;refine Ea (v:=decide (l[p]?=some k)) ?_ ?_
 .by_cases q:p<l.length
  .have d:l[p]?=some l[p]:=(by simp);rw[Yb (show((p:Nat):Int)<(l.length:Int)by omega),Yi d,d];refine(Qa _).eq ?_
   grind
  grind[Qa]
 .by_cases q:l[p]?=some k
  .rw[Yb q,Vp q];exact Qa _
  .rw[YA q,Vn q];simp only[Vl];rw[WY l a,W2 l a];simp only[XH]
   grind[O7,Qa]
theorem o5(l:AA Int)(k:Int)(hl:l.length<=1000):Ev (λn=>iter (λs:Int=>(((bif s<(l.length:Int) then(AJ l s).bind λx=>some (decide (x<k))else some false):AB Bool).bind λb=>(bif b then some (.k (i64.wrap (s+1)))else some (.d s)):AB (AG Int Int))) n 0) ((Bl (λx=>decide (x<k)) l:Nat):Int):=by
 refine o0 (step:=λ_ s=>_) (λx=>decide (x<k)) l (by omega) (λi x a=>?_) ?_
 .simp only[a.lt,Vk,a.ix,XH,a.nx];cases decide (x<k)<;>exact Qa _
 simp_all[Qa]
theorem oS(l:AA Int)(k:Int)(hl:l.length<=1000):Ev (λn=>I6 n l k) (A9 k l):=by
 unfold I6;exact Ea (o5 l k hl) (ox l k hl)
theorem cY{α:Type}(q:α->Bool)(l:AA α):(A4 q l 0= -1/\l.filter q=[])\/ ∃j x,A4 q l 0=((j:Nat):Int)/\l[j]?=some x/\(l.filter q).head? =some x:=by
 rcases sT q l 0 with⟨a,d⟩|⟨j,x,a,d,g,h⟩
 .simp_all
 .rw[Xv]at a;refine .inr ⟨j,x,a,d,?_⟩;have f:=(XJ.1 d).1;have e:l=l.take j++x::l.drop (j+1):=by
   grind[List.getElem_cons_drop,List.take_append_drop]
  grind
theorem wi(C:AA AC)(k:Int)(hl:C.length<=1048576):Ev (λn=>Mt n C k) (CI (AO C k)):=by
 unfold Mt CI;have h:(AO C k).appeal=(C.find? λf=>(f.Kind==11)&&((f.Appeal.Case==k)&&f.Appeal.Suspends)).isSome:=by
  rw[wD];show C.any (DC k)=_;congr 1
  funext f
  unfold DC
  grind
 have g:(AO C k).r1.isEmpty=decide (A4 (BF k 1) C 0<0):=by
  show(C.filter (BF k 1)).isEmpty=_;rcases cY (BF k 1) C with⟨d,e⟩|⟨j,x,d,_,e⟩
  .grind
  grind
 have l:(AO C k).r2.isEmpty= !decide (0<=A4 (BF k 2) C 0):=by
  show(C.filter (BF k 2)).isEmpty=_;rcases cY (BF k 2) C with⟨d,e⟩|⟨j,x,d,_,e⟩
  .grind
  grind
 rw[h,g,l];refine Ea (v:=decide (A4 (BF k 1) C 0<0)||decide (0<=A4 (BF k 2) C 0)) (Ea (JW C k 1 hl) (Er λ_=>Ea (JW C k 2 hl) (Qa _))) ?_;cases m:decide (A4 (BF k 1) C 0<0)with
 |true=>exact(Qa _).eq (by simp)
 |false=>
  cases p:decide (0<=A4 (BF k 2) C 0)with
  |true=>exact(Qa _).eq (by simp)
  |false=>
   refine Yc (Ea (kc C (λf=>(f.Kind==11)&&((f.Appeal.Case==k)&&f.Appeal.Suspends)) (λ_=>true) (by omega) (λi x a=>?_) ?_) ?_)
   .unfold PS;simp only[a.lt,Vk,a.ix,XH,a.nx];refine Ea (v:=(x.Kind==11)&&((x.Appeal.Case==k)&&x.Appeal.Suspends)) (Eh λ_=>Eh λ_=>Qa _) ?_
    grind[Qa]
   .simp_all[PS,Qa]
   .cases C.find? (λf=>(f.Kind==11)&&((f.Appeal.Case==k)&&f.Appeal.Suspends))<;>exact Qa _
theorem qt(C:AA AC)(k:Int)(hl:C.length<=1048576):∃b:Int,Ev (λn=>I1 n C k) b/\((b= -1/\Am (AO C k)=none)\/ ∃(j:Nat) (f:AC),b=(j:Int)/\C[j]?=some f/\Am (AO C k)=some f.Ruling):=by
 unfold I1 Am;have a:=wi C k hl;cases z:CI (AO C k)with
 |true=>rw[z]at a;exact⟨-1,Ea a (Qa _),.inl ⟨rfl,rfl⟩⟩
 |false=>
  rw[z]at a;simp only[Vl];have er:((AO C k).r2++(AO C k).r1)=C.filter (BF k 2)++C.filter (BF k 1):=rfl;rw[er];rcases cY (BF k 2) C with⟨g,i⟩|⟨j,x,g,l,i⟩
  .rw[i,Vd];have d:=JW C k 2 hl;rw[g]at d;rcases cY (BF k 1) C with⟨e,m⟩|⟨j,x,e,p,m⟩
   .have h:=JW C k 1 hl;rw[e]at h;exact⟨-1,Ea a (Yc (Ea d (by grind))),(by grind)⟩
   .have h:=JW C k 1 hl;rw[e]at h;exact⟨(j:Int),Ea a (Yc (Ea d (by grind))),(by grind)⟩
  .have d:=JW C k 2 hl;rw[g]at d;refine⟨(j:Int),Ea a (Yc (Ea d ?_)),.inr ⟨j,x,rfl,l,?_⟩⟩
   .grind[Qa]
   grind
theorem t7(l:AA AC)(k:Int)(hl:l.length<=100):Ev (λn=>Mm n l k) (match Am (AO (AH l) k)with|some g=>(g,true)|none=>(Ux,false)):=by
 have h:=Jo l;unfold Mm;refine Ea (cW l (by omega)) ?_;obtain⟨b,d,⟨rfl,a⟩|⟨j,f,rfl,a,e⟩⟩:=qt (AH l) k (by omega)
 .rw[a];exact Ea d (Qa _)
 .rw[e];refine Ea d ?_
  grind[Yi,Qa]
def BM(C:AA AC)(kind:Int):AA Int:=((C.filter λf=>f.Kind==kind).map λf=>i64.wrap (f.Ruling.Case+f.Report.Case)).foldl (λa k=>A9 k a) []
theorem rE{α β:Type}(q:α->Bool)(g:α->Int)(h:β->Int->β):∀(l:AA α) (a:β),l.foldl (λa x=>bif q x then h a (g x)else a) a=((l.filter q).map g).foldl h a
 |[],a=>rfl
 |x::l,a=>by
  rw[XC,rE q g h l,Xd]
  grind
theorem ot(C:AA AC)(d:Int):BM C d=C.foldl (λa f=>bif f.Kind==d then A9 (i64.wrap (f.Ruling.Case+f.Report.Case)) a else a) []:=by
 grind[BM,rE]
theorem Sv(C:AA AC)(a:Int):(BM C a).length<=C.length:=by
 have:=(Wv ((C.filter λf=>f.Kind==a).map λf=>i64.wrap (f.Ruling.Case+f.Report.Case)) [] List.Pairwise.nil).2.2;unfold BM
 grind
theorem sL(C:AA AC)(d:Int)(hl:C.length<=100):Ev (λn=>I7 n C d) (BM C d):=by
 unfold I7;refine Ea (v:=BM C d) ?_ (Qa _);rw[ot];refine QA C (λa f=>bif f.Kind==d then A9 (i64.wrap (f.Ruling.Case+f.Report.Case)) a else a) [] (λa i=>(a,(i:Int))) (λa=>a) (by omega) rfl (λi x a e g=>?_) ?_
 .have h:=e.lt';have j:a.length<=100:=by
   rw[g, <- ot]
   grind[Sv]
  unfold PN;simp only[e.lt,Vk,e.ix,XH,e.nx,bne];refine Ea (v:=bif x.Kind==d then A9 (i64.wrap (x.Ruling.Case+x.Report.Case)) a else a) ?_ (Qa _);cases(x.Kind==d)with
  |false=>exact Qa _
  |true=>
   simp only[Xh,Vl,Vk];exact Ea (o5 a _ (by omega)) (ox a _ (by omega))
 simp_all[PN,Qa]
theorem zl{f:AC}(h:AL f=true)(k:f.Kind=10):i64.wrap (f.Ruling.Case+f.Report.Case)=f.Ruling.Case:=by
 obtain⟨_,d,g⟩:=cZ h;have e:f.Report.Case=0:=by rw[<- g];unfold B8;rw[k];rfl
 unfold Bu at d;rw[k]at d;have a:∃b,(true&&(nb f.Ruling.Case 1 1048576&&b))=true:=⟨_,d⟩;obtain⟨b,a⟩:=a;simp only[XU,Ht]at a;rw[e,Q4 (by omega) (by omega)];omega
theorem sk{f:AC}(h:AL f=true)(k:f.Kind=8):i64.wrap (f.Ruling.Case+f.Report.Case)=f.Report.Case:=by
 obtain⟨_,d,g⟩:=cZ h;have e:f.Ruling.Case=0:=by rw[<- g];unfold B8;rw[k];rfl
 unfold Bu at d;rw[k]at d;have a:∃b,(true&&(nb f.Report.Case 1 1048576&&b))=true:=⟨_,d⟩;obtain⟨b,a⟩:=a;simp only[XU,Ht]at a;rw[e,Q4 (by omega) (by omega)];omega
theorem j9(C:AA AC)(a:Int):(BM C a).Pairwise (· < ·)/\ ∀t,t∈BM C a↔ ∃f∈C,f.Kind=a/\i64.wrap (f.Ruling.Case+f.Report.Case)=t:=by
 obtain⟨d,e,_⟩:=Wv ((C.filter λf=>f.Kind==a).map λf=>i64.wrap (f.Ruling.Case+f.Report.Case)) [] List.Pairwise.nil;refine⟨d,λt=>?_⟩;unfold BM
 grind
def Bb(C:AA AC)(k:Int):AB Report:=((C.filter (A2 k)).map (·.Report)).head?
theorem pV(l:AA AC)(k:Int):k∈BM (AH l) 8↔ ∃f∈AH l,A2 k f=true:=by
 rw[(j9 _ _).2];constructor
 .grind[sk,JX,A2]
 .rintro⟨f,a,b⟩;unfold A2 at b;simp only[XU,Vu]at b
  grind[sk,JX]
theorem qg(C:AA AC)(k:Int):(C.find? (A2 k)).map (·.Report)=Bb C k:=by
 grind[Bb,List.head?_map]
theorem lF(C:AA AC)(k:Int):(Bb C k).isSome=true↔ ∃f∈C,A2 k f=true:=by
 rw[<- qg,Option.isSome_map,List.find?_isSome]
theorem cG{C:AA AC}{k:Int}{r:Report}(h:Bb C k=some r):r.Case=k:=by
 obtain⟨f,a,rfl⟩:=Xf.1 (List.mem_of_head? h)
 simp_all[A2]
theorem sM(l:AA AC)(hl:l.length<=100):Ev (λn=>I0 n l) ((BM (AH l) 8).filterMap (Bb (AH l))):=by
 have w:=Jo l;unfold I0;refine Ea (cW l (by omega)) (Ea (sL _ 8 (by omega)) ?_);have x:=Sv (AH l) 8;generalize BM (AH l) 8=S at x;generalize AH l=C at*;refine Ea (aP S (Bb C) (by omega) (λi k a g u=>?_) λa=>?_) (Qa _)
 .have s:=g.lt';unfold PP;simp only[g.lt,Vk,g.nx];refine Ea (v:=a++(Bb C k).toList) ?_ (Qa _);have loop:∀(r:AA AC) (j:Nat),C.drop j=r->j<=C.length->BH (λn=>Id n C S (a,(i:Int))) (j:Int) (a++((r.find? (A2 k)).map (·.Report)).toList):=by
   intro r
   induction r with
   |nil=>
    intro j h p;refine Ei ?_;unfold Id;simp only[QY h p,Vl];exact(Qa _).eq (by simp)
   |cons f r t=>
    intro j h p;obtain⟨d,m⟩:=Qw (by omega) h;have q:=d.lt';rw[List.find?_cons];cases e:A2 k f with
    |true=>
     refine Ei ?_;unfold Id;simp only[d.lt,Vk,d.ix,g.ix,XH];refine Ea (v:=A2 k f) (Eh λ_=>Qa _) ?_;rw[e];simp only[Vk]
     grind[Jw,Qa]
    |false=>
     refine Eu ?_ (t (j+1) m (by omega));unfold Id;simp only[d.lt,Vk,d.ix,g.ix,XH,d.nx];refine Ea (v:=A2 k f) (Eh λ_=>Qa _) ?_;rw[e];exact Qa _
  have:=(loop C 0 rfl (XS _)).ev;rw[qg]at this;exact this
 simp_all[PP,Qa]
theorem vv(l:AA AC)(hl:l.length<=100):Ev (λn=>Me n l) ((BM (AH l) 10).filterMap λk=>Am (AO (AH l) k)):=by
 have p:=Jo l;unfold Me;refine Ea (cW l (by omega)) (Ea (sL _ 10 (by omega)) ?_);have r:=Sv (AH l) 10;generalize BM (AH l) 10=S at r;generalize AH l=C at*;refine Ea (aP S (λk=>Am (AO C k)) (by omega) (λi k a d q=>?_) λa=>?_) (Qa _)
 .have h:=d.lt';unfold Pv;simp only[d.lt,Vk,d.ix,XH,d.nx];obtain⟨b,g,⟨rfl,e⟩|⟨j,f,rfl,e,m⟩⟩:=qt C k (by omega)
  .rw[e];exact Ea g ((Qa _).eq (by simp))
  .rw[m];refine Ea g ?_;rw[Yb (by omega:(0:Int)<=(j:Int)),Yi e];simp only[Vk,XH]
   grind[Jw,Qa]
 simp_all[Pv,Qa]
theorem oY{α β:Type}(g:α->AB β)(key:β->Int)(id:α->Int)(h:∀x y,g x=some y->key y=id x):∀(l:AA α) (x:α),l.Pairwise (λa b=>id a≠id b)->x∈l->(l.filterMap g).find? (λy=>key y==id x)=g x
 |[],x,_,hx=>by cases hx
 |a::l,x,hp,hx=>by
  rw[Xc]at hp;rw[List.filterMap_cons];rcases X3.1 hx with rfl|hx
  .grind
  .have ih:=oY g key id h l x hp.2 hx
   grind
theorem xq(l:AA AC)(k:Int)(hl:l.length<=100):Ev (λn=>Ir n l k) (match Bb (AH l) k with|some r=>(r,true)|none=>(Uw,false)):=by
 unfold Ir;refine Ea (sM l hl) ?_;have m:=Jo l;have s:=Sv (AH l) 8;have g:((BM (AH l) 8).filterMap (Bb (AH l))).length<=100:=(by grind);have e:((BM (AH l) 8).filterMap (Bb (AH l))).find? (λr=>r.Case==k)=Bb (AH l) k:=by
  by_cases d:k∈BM (AH l) 8
  .exact oY (Bb (AH l)) (λr:Report=>r.Case) (λk=>k) (λx y h=>cG h) _ k ((j9 _ _).1.imp λh=>by omega) d
  .have j:Bb (AH l) k=none:=by
    cases q:Bb (AH l) k with
    |none=>rfl
    |some r=>exact absurd ((pV l k).2 ((lF _ _).1 (by rw[q];rfl))) d
   rw[j,List.find?_eq_none];intro r f q;obtain⟨b,t,p⟩:=List.mem_filterMap.1 f;rw[cG p,Vu]at q
   grind
 generalize(BM (AH l) 8).filterMap (Bb (AH l))=R at g e;refine Ea (kc R (λr=>r.Case==k) (λr=>(r,true)) (by omega) (λi x a=>?_) ?_) ?_
 .unfold Pg;simp only[a.lt,Vk,a.ix,XH,a.nx];cases(x.Case==k)<;>exact Qa _
 .simp_all[Pg,Qa]
 grind[Qa]
def Kd(x:AB Ud):Int×AD×Bool:=match x with
 |some y=>(y.bib,y.penalty,true)
 |none=>(0,Ut,false)
theorem zC(c:AE)(l:AA AC)(k:Int)(hl:l.length<=100):Ev (λn=>My n c l k) (Kd (Ac c (DN (AO (AH l) k)))):=by
 unfold My;refine Ea (t7 l k hl) ?_;have m:DN (AO (AH l) k)=(k,Am (AO (AH l) k),((AH l).filter (A2 k)).map (·.Report)):=rfl;rw[m];have f:Ev (λn=>((Ir n l k).bind λd=>((bif (!d.2)then some true else(bif d.1.Offence<0 then some true else some (decide ((c.Offences.length:Int)<=d.1.Offence)))):AB Bool).bind λh=>(bif h then some ((0:Int),Ut,false)else(AJ c.Offences d.1.Offence).bind λe=>some (d.1.Bib,{Position:=d.1.Position,Time:=e.Time,Laps:=e.Laps,Out:=e.Out:AD},true)))) (Kd (DZ c k (((AH l).filter (A2 k)).map (·.Report)).head?)):=by
  refine Ea (xq l k hl) ?_;show Ev _ (Kd (DZ c k (Bb (AH l) k)));cases Bb (AH l) k with
  |none=>exact Qa _
  |some r=>
   simp only[Xh,Vl,DZ];cases j:decide (r.Offence<0)with
   |true=>exact Qa _
   |false=>
    cases i:decide ((c.Offences.length:Int)<=r.Offence)with
    |true=>exact Qa _
    |false=>
     simp only[Vl,XH,Bool.or_self];have a:=Vs j;have b:=Vs i;have:AJ c.Offences r.Offence=some (c.Offences[r.Offence.toNat]'(by omega)):=by
      unfold AJ
      grind
     rw[this];exact Qa _
 cases u:Am (AO (AH l) k)with
 |none=>exact Ea (v:=AG.k ()) (Qa _) f
 |some g=>
  unfold Ac F_;simp only[Vk];by_cases s:g.Kind=3
  .rw[s];exact Qa _
  by_cases q:g.Kind=4
  .rw[q];exact Qa _
  by_cases p:g.Kind=5
  .rw[p];exact Qa _
  by_cases t:g.Kind=2
  .rw[t];exact Qa _
  grind
def Fz(l:AA AC):AA Int:=(((BM (AH l) 10).filterMap λk=>Am (AO (AH l) k)).map (·.Case)).foldl (λa k=>A9 k a) ((((BM (AH l) 8).filterMap (Bb (AH l))).map (·.Case)).foldl (λa k=>A9 k a) [])
theorem rf{C:AA AC}{k:Int}{g:Ruling}(h:Am (AO C k)=some g):∃f∈C,f.Kind=10/\f.Ruling.Case=k:=by
 unfold Am at h;cases q:CI (AO C k)with
 |true=>grind
 |false=>
  rw[q,Vl,Option.map_eq_some_iff]at h;obtain⟨f,a,_⟩:=h;have:=q_ ((Vz.1 (List.mem_of_head? a)).symm)
  grind
theorem z7(l:AA AC)(k:Int):k∈((BM (AH l) 8).filterMap (Bb (AH l))).map (·.Case)↔(Bb (AH l) k).isSome=true:=by
 rw[Xf];constructor
 .rintro⟨r,a,rfl⟩;obtain⟨b,_,e⟩:=List.mem_filterMap.1 a;rw[cG e,e];rfl
 .intro h;obtain⟨r,a⟩:=Option.isSome_iff_exists.1 h;exact⟨r,List.mem_filterMap.2 ⟨k,(pV l k).2 ((lF _ _).1 h),a⟩,cG a⟩
theorem Qi8(l:AA AC)(k:Int):k∈((BM (AH l) 10).filterMap λk=>Am (AO (AH l) k)).map (·.Case)↔(Am (AO (AH l) k)).isSome=true:=by
 rw[Xf];constructor
 .rintro⟨r,a,rfl⟩;obtain⟨b,_,e⟩:=List.mem_filterMap.1 a;rw[lY e,e];rfl
 .intro h;obtain⟨r,a⟩:=Option.isSome_iff_exists.1 h;obtain⟨f,d,g,i⟩:=rf a;refine⟨r,List.mem_filterMap.2 ⟨k,((j9 _ _).2 k).2 ⟨f,d,g,?_⟩,a⟩,lY a⟩
  grind[zl,JX]
def Dc(x:Bi):Bool:=x.2.1.isSome||x.2.2.head?.isSome
theorem oe{l:AA AC}{x:Bi}(h:x∈AQ l):x=DN (AO (AH l) x.1):=by
 unfold AQ BB at h;rw[List.map_map]at h;obtain⟨k,_,rfl⟩:=Xf.1 h;rfl
theorem xb(l:AA AC):Fz l=((AQ l).filter Dc).map (·.1):=by
 obtain⟨m,r,_⟩:=Wv (((BM (AH l) 8).filterMap (Bb (AH l))).map (·.Case)) [] List.Pairwise.nil;obtain⟨p,n,_⟩:=Wv (((BM (AH l) 10).filterMap λk=>Am (AO (AH l) k)).map (·.Case)) _ m;refine lI (lt:=λa b:Int=>a<b) (λa b h=>by omega) p ((og l).inc.sublist ((List.filter_sublist).map _)) λk=>?_;unfold Fz;rw[n,r,z7,Qi8];simp only[List.not_mem_nil,false_or,Xf,Xe];have e:(∃f∈AH l,A1 f=some k)->(Dc (DN (AO (AH l) k))=true)->∃x,(x∈AQ l/\Dc x=true)/\x.1=k:=λj d=>
  ⟨DN (AO (AH l) k),⟨Xf.2 ⟨AO (AH l) k,Xf.2 ⟨k,((ki _).2 k).2 j,rfl⟩,rfl⟩,d⟩,rfl⟩
 constructor
 .rintro(h|h)
  .obtain⟨f,i,u⟩:=(lF _ _).1 h;refine e ⟨f,i,?_⟩ ?_
   .simp_all[A2,A1]
   .unfold Dc;rw[Bool.or_eq_true];exact .inr h
  .obtain⟨g,q⟩:=Option.isSome_iff_exists.1 h;obtain⟨f,i,s,t⟩:=rf q;refine e ⟨f,i,?_⟩ ?_
   .unfold A1
    grind
   .unfold Dc;rw[Bool.or_eq_true];exact .inl h
 .rintro⟨x,⟨j,d⟩,rfl⟩;rw[oe j]at d;unfold Dc at d;rw[Bool.or_eq_true]at d;exact d.symm
theorem x8{c:AE}{x:Bi}{y:Ud}(h:Ac c x=some y):y.number=x.1:=by
 have a:∀{r:AB Report},DZ c x.1 r=some y->y.number=x.1:=by
  intro r h;unfold DZ at h;cases r with
  |none=>cases h
  |some r=>
   simp only at h;cases z:decide (r.Offence<0)||decide ((c.Offences.length:Int)<=r.Offence)with
   |true=>grind
   |false=>
    rw[z,Vl,Option.map_eq_some_iff]at h
    grind
 unfold Ac at h;cases q:x.2.1 with
 |none=>grind
 |some g=>
  rw[q]at h;simp only at h;cases z:(g.Kind==5)||((g.Kind==4)||(g.Kind==3))with
  |true=>
   rw[z,Vk]at h;unfold F_ at h
   grind
  |false=>
   grind
def GY(c:AE)(l:AA AC)(b:Int)(k:Int):AB Ud:=(Ac c (DN (AO (AH l) k))).filter λy=>y.bib==b
theorem x7{c:AE}{x:Bi}(h:Dc x=false):Ac c x=none:=by
 unfold Dc at h;rw[XV,Option.isSome_eq_false_iff,Option.isSome_eq_false_iff,Option.isNone_iff_eq_none,Option.isNone_iff_eq_none]at h;unfold Ac;rw[h.1,h.2];rfl
theorem yH(c:AE)(l:AA AC)(b:Int):(Fz l).filterMap (GY c l b)=Bp c l b:=by
 rw[xb];unfold Bp;have g:∀K:AA Bi,(∀x∈K,x=DN (AO (AH l) x.1))->((K.filter Dc).map (·.1)).filterMap (GY c l b)=(K.filterMap (Ac c)).filter λx=>x.bib==b:=by
  intro K
  induction K with
  |nil=>intro _;rfl
  |cons x K a=>
   intro h;have d:=h x (by simp);have a:=a λy e=>h y (by simp[e]);rw[Xd,List.filterMap_cons (f:=Ac c)];cases z:Dc x with
   |false=>rw[x7 z,Vn Bool.false_ne_true];exact a
   |true=>
    rw[Vp rfl,Vf,List.filterMap_cons,a];unfold GY
    grind
 exact g _ λx d=>oe d
theorem kM(g:Int->AB Ud):∀(ks:AA Int) (s:AA Int×AA AD),ks.foldl (λs k=>match g k with|some y=>(s.1++[y.number],s.2++[y.penalty])|none=>s) s=(s.1++(ks.filterMap g).map (·.number),s.2++(ks.filterMap g).map (·.penalty))
 |[],s=>by simp
 |k::ks,s=>by
  rw[XC,kM g ks,List.filterMap_cons]
  grind
theorem lS{α:Type}(g:α->Int):∀(l:AA α) (a:AA Int),(l.map g).foldl (λa k=>A9 k a) a=l.foldl (λa x=>A9 (g x) a) a
 |[],a=>rfl
 |x::l,a=>by rw[Vf,XC,XC,lS g l]
theorem Wu{α:Type}(g:α->Int):∀(l:AA α) (a:AA Int),(l.foldl (λa x=>A9 (g x) a) a).length<=a.length+l.length
 |[],a=>by simp
 |x::l,a=>by
  rw[XC];have h1:=Wu g l (A9 (g x) a)
  grind[qI]
theorem xp(e:Int)(c:AE)(l:AA AC)(b:Int)(hl:l.length<=100)(he:Ev (λn=>IH n c) e):Ev (λn=>MY n c l b) (BS e c l b):=by
 unfold MY BS;refine Ea he ?_;cases(e != 0)with
 |true=>exact Qa _
 |false=>
 simp only[Vl];have E:=Jo l;have B:=Sv (AH l) 8;have t:=Sv (AH l) 10;have z:((BM (AH l) 8).filterMap (Bb (AH l))).length<=100:=(by grind);have m:((BM (AH l) 10).filterMap λk=>Am (AO (AH l) k)).length<=100:=(by grind);have f:=yH c l b;unfold Fz at f;rw[lS (λg:Ruling=>g.Case),lS (λg:Report=>g.Case)]at f;refine Ea (sM l hl) ?_;generalize(BM (AH l) 8).filterMap (Bb (AH l))=R at z f;refine Ea (v:=R.foldl (λa x=>A9 x.Case a) []) (QA R (λa x=>A9 x.Case a) [] (λa i=>(a,(i:Int))) (λa=>a) (by omega) rfl (λi x a d h=>?_) ?_) ?_
 .have j:=d.lt';have p:a.length<=100:=by
   rw[h];have:=Wu (λx:Report=>x.Case) (R.take i) []
   grind
  unfold Pz;simp only[d.lt,Vk,d.ix,XH,d.nx];exact Ea (oS a _ (by omega)) (Qa _)
 .simp_all[Pz,Qa]
 refine Ea (vv l hl) ?_;have r:=Wu (λx:Report=>x.Case) R [];simp only[List.length_nil]at r;generalize R.foldl (λa x=>A9 x.Case a) []=A at r f;generalize((BM (AH l) 10).filterMap λk=>Am (AO (AH l) k))=G at m f;refine Ea (v:=G.foldl (λa x=>A9 x.Case a) A) (QA G (λa x=>A9 x.Case a) A (λa i=>(a,(i:Int))) (λa=>a) (by omega) rfl (λi x a d h=>?_) ?_) ?_
 .have j:=d.lt';have p:a.length<=200:=by
   rw[h];have:=Wu (λx:Ruling=>x.Case) (G.take i) A
   grind
  unfold Pe;simp only[d.lt,Vk,d.ix,XH,d.nx];exact Ea (oS a _ (by omega)) (Qa _)
 .simp_all[Pe,Qa]
 have w:=Wu (λx:Ruling=>x.Case) G A;generalize G.foldl (λa x=>A9 x.Case a) A=S at w f;have er:((Bp c l b).map (·.number),(Bp c l b).map (·.penalty))=S.foldl (λs k=>match GY c l b k with|some y=>(s.1++[y.number],s.2++[y.penalty])|none=>s) ([],[]):=by rw[kM,f];rfl
 rw[er];refine Ea (QA S (λs k=>match GY c l b k with|some y=>(s.1++[y.number],s.2++[y.penalty])|none=>s) ([],[]) (λs i=>(s.1,s.2,(i:Int))) (λs=>s) (by omega) rfl (λi k s d h=>?_) ?_) (Qa _)
 .have j:=d.lt';have H:s.1.length<=200/\s.2.length<=200:=by
   rw[h,kM]
   grind
  unfold Pi;simp only[d.lt,Vk,d.ix,XH,d.nx];refine Ea (zC c l k hl) ?_;unfold GY;cases F:Ac c (DN (AO (AH l) k))with
  |none=>exact Qa _
  |some y=>
   have u:y.number=k:=x8 F;simp only[Kd,Vk,XH,Option.filter];by_cases q:(y.bib==b)=true
   .simp only[Vp q,u];rw[q];simp only[Vk]
    grind[Jw,Qa]
   .simp only[Vn q];rw[Bool.not_eq_true]at q;rw[q];exact Qa _
 simp_all[Pi,Qa]
def B_(x:AD):AA AD->AA AD
 |[]=>[x]
 |y::r=>bif y.Position<=x.Position then y::B_ x r else x::y::r
theorem pM(x:AD):∀l:AA AD,B_ x l=l.take (Bl (λy=>decide (y.Position<=x.Position)) l)++x::l.drop (Bl (λy=>decide (y.Position<=x.Position)) l)
 |[]=>rfl
 |y::r=>by
  unfold B_ Bl;rw[pM x r]
  grind
theorem pL(x:AD):∀(l:AA AD) (z:AD),z∈B_ x l->z=x\/z∈l
 |[],z,h=>by simpa[B_]using h
 |y::r,z,h=>by
  unfold B_ at h;cases q:decide (y.Position<=x.Position)with
  |true=>
   rw[q,Vk]at h;rcases X3.1 h with rfl|h
   .simp
   .rcases pL x r z h with rfl|h<;>simp[*]
  |false=>grind
theorem sV(x:AD):∀{l:AA AD},l.Pairwise (λa b=>a.Position<=b.Position)->(B_ x l).Pairwise (λa b=>a.Position<=b.Position)
 |[],_=>by simp[B_]
 |y::r,h=>by
  unfold B_;have h0:=Xc.1 h;by_cases q:y.Position<=x.Position
  .rw[Yb q,Vk,Xc];refine⟨λz hz=>?_,sV x h0.2⟩;rcases pL x r z hz with rfl|hz
   .exact q
   grind
  .rw[YA q,Vl,Xc]
   grind
theorem rI{x y:AD}(h:y.Position<=x.Position):∀A:AA AD,Bn x (A++[y])=Bn x A++[y]
 |[]=>by simp_all[Bn,YA]
 |z::A=>by
  rw[VG];unfold Bn;rw[rI h A]
  grind
theorem rG{x:AD}:∀{A:AA AD},(∀z∈A,x.Position<z.Position)->Bn x A=A++[x]
 |[],_=>rfl
 |z::A,h=>by
  unfold Bn;rw[Yb (h z (by simp)),Vk,rG (by grind)];rfl
theorem qG(x:AD):∀{l:AA AD},l.Pairwise (λa b=>a.Position<=b.Position)->B_ x l=DJ l x
 |[],_=>rfl
 |y::r,h=>by
  have h0:=Xc.1 h;unfold B_ DJ;rw[List.reverse_cons];by_cases q:y.Position<=x.Position
  .rw[Yb q,Vk,rI q,List.reverse_append,qG x h0.2];rfl
  .rw[YA q,Vl,rG λz hz=>?_]
   .simp
   grind
theorem oL:∀(l P:AA AD),P.Pairwise (λa b=>a.Position<=b.Position)->l.foldl (λa x=>B_ x a) P=l.foldl DJ P
 |[],P,_=>rfl
 |x::l,P,h=>by
  rw[XC,XC, <- qG x h];exact oL l _ (sV x h)
theorem pK(x:AD):∀l:AA AD,(B_ x l).length=l.length+1
 |[]=>rfl
 |y::r=>by
  unfold B_;cases decide (y.Position<=x.Position)with
  |true=>simp[pK x r]
  |false=>rfl
theorem zF(l:AA AD)(hl:l.length<=1000):Ev (λn=>Lv n l) (B3 l):=by
 unfold Lv;refine Ea (v:=B3 l) ?_ (Qa _);have e:B3 l=l.foldl (λa x=>B_ x a) []:=(oL l [] List.Pairwise.nil).symm;rw[e];have len:∀(m a:AA AD),(m.foldl (λa x=>B_ x a) a).length=a.length+m.length:=by
  intro m
  induction m with
  |nil=>intro a;rfl
  |cons x m q=>grind[pK]
 refine QA l (λa x=>B_ x a) [] (λa i=>(a,(i:Int))) (λa=>a) (by omega) rfl (λi x a d p=>?_) ?_
 .have h:=d.lt';have k:a.length<=1000:=by grind
  have g:=jv (λy:AD=>decide (y.Position<=x.Position)) a;unfold PQ;simp only[d.lt,Vk,d.ix,XH,d.nx];refine Ea (o0 (λy:AD=>decide (y.Position<=x.Position)) a (by omega) (λj y f=>?_) ?_) ?_
  .unfold PV;simp only[f.lt,Vk,f.ix,d.ix,XH,f.nx]
   grind[Qa]
  .simp_all[PV,Qa]
  .rw[pM];rw[WY a g,W2 a g];simp only[XH]
   grind[O7,Qa]
 simp_all[PQ,Qa]
theorem o6:∀(R P:AA AD) (room:Int),P.length+R.length<=1000->BH (λn=>Li n) (P++R,room,(P.length:Int)) (P++DR room R)
 |[],P,room,hl=>by
  simp_all[Ei,Li,DR,Qa]
 |p::R,P,room,hl=>by
  simp only[XY]at hl;have ih:=o6 R (P++[{p with Laps:=if room<p.Laps then room else p.Laps}]) (i64.wrap (room-(if room<p.Laps then room else p.Laps))) (by simp;omega);have e:∀z:AD,(P++[z])++R=P++z::R:=λz=>by simp
  rw[e]at ih;refine(Eu ?_ ih).eq (by rw[DR];simp);unfold Li;simp only[Yb (show(P.length:Int)<((P++p::R).length:Int)by simp;omega),Vk,Wg,XH,bP]
  grind[Ya,Qa]
theorem zD{c:AE}(g:FT c)(he:Ev (λn=>IH n c) 0){i:Nat}{d:Distance}(e:c.Distances[i]?=some d):Ev (λn=>MD n c (i:Int)) (Av d.Route,0):=by
 have a:=VD e;have f:=(XJ.1 e).1;have h:=(g.route d a).2;rw[g.exp a]at h;unfold MD;refine Ea (v:=(0:Int)) ?_ (Yc (Jh (Yi e) (Ea (v:=()) (Qa _) (Ea (vx _ _ d.Route (XR _) (g.parts d a) (g.len d a) (g.wf d a) h) (Ea (v:=()) (Qa _) ?_)))))
 .unfold R0;refine Ea he (Yc (Ea (v:=false) ?_ (Qa _)));rw[YA (show¬((i:Int)<0)by omega),YA (show¬((c.Distances.length:Int)<=(i:Int))by omega)];exact Qa _
 .rw[Int.add_zero,Q4 (by omega) (by omega),YA (show¬(256<((Av d.Route).length:Int))by omega)];exact Qa _
theorem vw(c:AE)(l:AA AC)(b:Int)(hl:l.length<=15)(he:Ev (λn=>IH n c) (AV c))(g:AV c=0->FT c):Ev (λn=>Iw n c l b) (NI (AV c) c l b):=by
 unfold Iw NI;refine Ea (Qgz (AV c) c l (by omega) he) ?_;cases y:((Ax (AV c) c l).2 != 0)with
 |true=>exact Qa _
 |false=>
  simp only[Vl];have u:=sB (AV c) c l;have f:∀s∈(Ax (AV c) c l).1,AV c=0/\0<=s.Distance/\s.Distance<(c.Distances.length:Int):=λs f=>⟨(lH f).1,sE f⟩;generalize Ax (AV c) c l=ST at u f;refine Ea (kc ST.1 (λs=>s.Bib==b) (λs=>DR (Dj c s) (B3 (BS (AV c) c l b).2)) (by omega) (λi s h=>?_) ?_) ?_
  .unfold Pu;simp only[h.lt,Vk,h.ix,XH,h.nx,bne];cases(s.Bib==b)with
   |false=>exact Qa _
   |true=>
    simp only[Xh,Vl,Vk];obtain⟨m,w,B⟩:=f s h.mem;have p:=g m;obtain⟨j,r⟩:∃j:Nat,s.Distance=(j:Int):=⟨s.Distance.toNat,by omega⟩;have a:c.Distances[j]?=some (c.Distances[j]'(by omega)):=(by simp);generalize c.Distances[j]'(by omega)=d at a;have k:=VD a;have t:=(p.route d k).2;rw[p.exp k]at t;have z:=wA m k;have er:Dj c s=bif 0<=d.Extra then 256-((Av d.Route).length:Int)else 0:=by
     grind[Dj]
    rw[er,r];have e:=he;rw[m]at e;have x:=(lQ (AV c) c l b).2;refine Ea (v:=AG.d (AG.d (AG.d _))) (Ea (xp (AV c) c l b (by omega) he) (Ea (zF _ (by omega)) (Ea (zD p e a) (Jh (Yi a) (Ea (v:=bif 0<=d.Extra then 256-((Av d.Route).length:Int)else 0) ?_ (Ea ?_ (Qa _))))))) (Qa _)
    .by_cases q:d.Extra= -1
     .rw[q];exact Qa _
     .rw[Yb (show 0<=d.Extra by omega),beq_false_of_ne q];refine Yc ?_
      grind[Q4,Qa]
    .generalize(bif 0<=d.Extra then 256-((Av d.Route).length:Int)else 0)=room;have:=o6 (B3 (BS (AV c) c l b).2) [] room (by rw[S_];simp;omega);exact this.ev
  .simp_all[Pu,Qa]
  grind[Qa]
def N4(x:AA AD):Int:=x.foldl (λa p=>i64.wrap (a+p.Laps)) 0
theorem oy(x:AA AD)(hl:x.length<=1048576):Ev (λn=>iter (LT n x) n (0,0)) (N4 x):=by
 refine QA x (λa p=>i64.wrap (a+p.Laps)) 0 (λa i=>(a,(i:Int))) (λa=>a) (by omega) rfl (λi p a d e=>?_) ?_
 .unfold LT;simp only[d.lt,Vk,d.ix,XH,d.nx];exact Qa _
 simp_all[LT,Qa]
end Go.Sw
