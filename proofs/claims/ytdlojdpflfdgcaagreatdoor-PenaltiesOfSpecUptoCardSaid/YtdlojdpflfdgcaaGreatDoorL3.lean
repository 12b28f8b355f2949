/- The rules by which the code is walked, with what they rest on (part 3). -/
import Derived.Test.YtdlojdpflfdgcaaGreatDoorL2
import Derived.Laws.BytesString
import Derived.Shelf.Spec.SlicesInsertGrow
set_option linter.unusedVariables false
set_option linter.unusedSectionVars false
set_option linter.unusedSimpArgs false
namespace Go.Sw
structure OY where
 fld:List (Nat×Nat×Nat)
 agg:List (Nat×Bool×Nat)
 zer:List (Nat×List A×List (Nat×Nat))
structure OX (P:Program) (T:OY):Prop where
 fld:∀e∈T.fld,∃n,QK P e.1 e.2.1 e.2.2 n
 agg:∀e∈T.agg,(∀w,(isAgg e.1).run P w=.ok e.2.1 w)/\ ∀w,(sizeOf e.1).run P w=.ok e.2.2 w
 zer:∀e∈T.zer,(∃z,(∀w,(zeroValue e.1).run P w=.ok z w)/\ZR (.agg e.2.1) z)/\Sf P e.1 e.2.2
def WB:AA (Nat×Nat×Nat)->Nat->Nat->AB Nat
 |[],_,_=>none
 |(a,b,c)::r,t,f=>bif Nat.beq a t&&Nat.beq b f then some c else WB r t f
def FQ{β:Type}:AA (Nat×β)->Nat->AB β
 |[],_=>none
 |(a,b)::r,t=>bif Nat.beq a t then some b else FQ r t
variable {t:Nat}
theorem pI{l:AA (Nat×Nat×Nat)}{f c:Nat}(h:WB l t f=some c):(t,f,c)∈l:=by
 induction l with
 |nil=>cases h
 |cons x r e=>
  obtain⟨a,b,d⟩:=x;unfold WB at h;cases q:(Nat.beq a t&&Nat.beq b f)with
  |true=>
   simp_all
  |false=>grind
theorem LI{β:Type}{l:AA (Nat×β)}{c:β}(h:FQ l t=some c):(t,c)∈l:=by
 induction l with
 |nil=>cases h
 |cons x r d=>
  obtain⟨a,b⟩:=x;unfold FQ at h;cases q:Nat.beq a t with
  |true=>
   simp_all
  |false=>grind
def j_(H:Qb):A->AB (AA A)
 |.rp cs=>some cs
 |.ptr i off=>match H[i]? with
  |some (.cells _ cs)=>some (cs.drop off)
  |_=>none
 |_=>none
variable {H:Qb}
theorem yq{p:A}{cs:AA A}(h:j_ H p=some cs):BD H p cs:=by
 unfold j_ at h;split at h
 .cases h;exact BD.rp
 .split at h
  .rename_i a;cases h;exact BD.cells a rfl
  .cases h
 .cases h
def jV(T:OY)(o:Oper)(env:Env)(H:Qb):AB A:=
 match o.op with
 |.move x=>some (AM env x)
 |.assign x=>some (AM env x)
 |.fieldAddr t x f=>match WB T.fld t f with
  |none=>none
  |some off=>match AM env x with
   |.ptr i p=>some (.ptr i (p+off))
   |.rp cs=>some (.rp (cs.drop off))
   |_=>none
 |.load t x=>match FQ T.agg t with
  |none=>none
  |some (b,n)=>match x with
   |.global g=>match KC[g]? with
    |some zs=>bif b&&Nat.beq zs.length n then some (.agg (zs.map (A.int .i64)))else none
    |none=>none
   |x=>match j_ H (AM env x)with
    |none=>none
    |some cs=>bif b then(bif Nat.beq (cs.take n).length n then some (.agg (cs.take n))else none)else cs.head?
 |.build t parts=>match FQ T.zer t with
  |none=>none
  |some (zs,pl)=>match Na env pl zs parts.toList with
   |some cs=>some (.agg cs)
   |none=>none
 |.extract x i=>match AM env x with
  |.tup vs=>vs[i]?
  |_=>none
 |.makeFunc f first cap=>some (.fn f (first.toList.map (AM env)) (cap.toList.map (AM env)))
 |_=>none
variable {P:Program}
theorem xP{T:OY}(i:OX P T){o:Oper}{env:Env}{x:A}(h:jV T o env H=some x):AK P o env H x:=by
 unfold jV at h;split at h
 .simp_all[AK.move]
 .simp_all[AK.assign]
 .rename_i t y f a;split at h
  .cases h
  .rename_i E j;obtain⟨n,s⟩:=i.fld _ (pI j);split at h
   .grind[YK]
   .rename_i e u;cases h;exact QD s a u rfl
   .cases h
 .rename_i t y a;split at h
  .cases h
  .rename_i b n F;obtain⟨d,g⟩:=i.agg _ (LI F);split at h
   .split at h
    .rename_i l w;cases q:(b&&Nat.beq l.length n)with
     |false=>grind
     |true=>
      rw[q]at h;cases h;simp[XU]at q;obtain⟨rfl,G⟩:=q;exact rR d g w (by simp_all) a
    .cases h
   .split at h
    .cases h
    .rename_i e r;have k:=yq r;cases b with
     |true=>
      cases q:Nat.beq (e.take n).length n with
      |false=>grind
      |true=>
       rw[q]at h;cases h;exact Qv a d g rfl k rfl (by simp_all)
     |false=>
      cases e with
      |nil=>cases h
      |cons v e=>cases h;exact AK.load a d rfl k
 .rename_i t parts a;split at h
  .cases h
  .rename_i l J p;obtain⟨⟨z,d,g⟩,B⟩:=i.zer _ (LI p);split at h
   .rename_i e j;cases h;exact AK.build d g B (by rw[a]) j
   .cases h
 .grind[AK.extract]
 .rename_i f first m a
  cases h;exact AK.makeFunc (by rw[a]) rfl rfl
 .cases h
def NU(af:AA Nat):Nat->AA Nat->AA A->Env->Env
 |j,d::ds,x::xs,e=>(d,bif af.contains j then x else .any)::NU af (j+1) ds xs e
 |_,_,_,e=>e
variable {af:AA Nat}{env0:Env}
theorem uQ(s:Nat):∀(a:AA Nat) (xs:AA A) (b:Nat),a.length=xs.length->
  (∃(j:Nat) (x:A),a[j]?=some s/\xs[j]?=some x/\lk (NU af b a xs env0) s=bif af.contains (b+j)then x else .any)\/(a.contains s=false/\lk (NU af b a xs env0) s=lk env0 s):=by
 intro a
 induction a with
 |nil=>simp_all[NU]
 |cons d a g=>
  intro xs b f;cases xs with
  |nil=>cases f
  |cons x xs=>
   cases q:Nat.beq s d with
   |true=>
    have e:=XO q;subst e;left;refine⟨0,x,rfl,rfl,?_⟩
    simp_all[NU,lk]
   |false=>
    have i:s≠d:=λz=>by simp_all
    simp only[NU,lk,q];rcases g xs (b+1) (by grind)with⟨j,y,h,k,l⟩|⟨h,k⟩
    .left;refine⟨j+1,y,by grind,by grind,?_⟩
     grind
    grind
def aG(T:OY)(N:Nat)(l:AA Oper)(ds:AA Nat)(xs:AA A)(env0:Env)(H:Qb)(i:Nat):AB A:=
 match l[i]? with
 |none=>none
 |some o=>match o.guard,o.dst with
  |none,some d=>bif Nat.blt d N&&Nat.beq ds.length xs.length then jV T o (NU (Qf o) 0 ds xs env0) H else none
  |_,_=>none
theorem uR{a:AA Nat}{xs:AA A}(hl:a.length=xs.length):aB af a xs env0 (NU af 0 a xs env0):=by
 intro s;rcases uQ (af:=af) (env0:=env0) s a xs 0 hl with⟨j,x,f,d,e⟩|h
 .grind
 grind
variable {N:Nat}{l:AA Oper}
theorem vQ{T:OY}(f:OX P T){a:AA Nat}{xs:AA A}{hB hE i:Nat}{x:A}(j:xs[i]?=some x)(h:aG T N l a xs env0 H i=some x):JH P N l a xs env0 hB hE i H H:=by
 unfold aG at h;split at h
 .cases h
 .rename_i o e;split at h
  .rename_i d g k;cases q:(Nat.blt d N&&Nat.beq a.length xs.length)with
   |false=>grind
   |true=>
    rw[q]at h;simp only[XU]at q;exact .val o _ d x e k g j q.1 (uR (by simp_all)) (xP f h)
  .cases h
abbrev I(n:Int):A:=.int .i64 n
theorem zc{a:A}{v:Value}{al:AA A}{vl:AA Value}(h:ZR a v)(k:ZL al vl):ZL (a::al) (v::vl):=ZL.cons h k
def Z3:A->Value->Bool
 |.int k n,.int k' n'=>decide (k=k')&&decide (n=n')
 |.bool b,.bool b'=>b==b'
 |.str s,.string s'=>s.isEmpty&&s'.data.toList.isEmpty
 |.rsl _ es,.slice none 0 0=>es.isEmpty
 |.nils,.slice none 0 0=>true
 |.nilp,.pointer none=>true
 |.nilf,.nilFunc=>true
 |.nilm,.map none=>true
 |.nilif,.nilIface=>true
 |_,_=>false
def Z1:AA A->AA Value->Bool
 |[],[]=>true
 |a::r,v::s=>Z3 a v&&Z1 r s
 |_,_=>false
def Z2:A->Value->Bool
 |.agg r,.agg s=>Z1 r s.toList
 |a,v=>Z3 a v
theorem nu{a:A}{v:Value}(h:Z3 a v=true):ZR a v:=by
 unfold Z3 at h;split at h
 .simp_all[ZR.int]
 .simp_all[ZR.bool]
 .rename_i s f;simp[XU]at h;obtain⟨d⟩:=f
  simp_all[ZR.str]
 .rename_i k g;have h:=List.isEmpty_iff.1 h;subst h;exact ZR.rsl (e:=λx=>[x])
 .exact ZR.nils
 .exact ZR.nilp
 .exact ZR.nilf
 .exact ZR.nilm
 .exact uL
 .cases h
theorem nv:∀{r:AA A} {s:AA Value},Z1 r s=true->ZL r s
 |[],[],_=>ZL.nil
 |a::r,v::s,h=>by
  simp[Z1,XU]at h;exact ZL.cons (nu h.1) (nv h.2)
 |[],_::_,h=>by cases h
 |_::_,[],h=>by cases h
theorem Ds{a:A}{v:Value}(h:Z2 a v=true):ZR a v:=by
 unfold Z2 at h;split at h
 .have:=ZR.agg (nv h);omega
 .exact nu h
variable {y:Operand}
section
variable {P:Program} {o:Oper} {env:Env} {H:Qb}
theorem yi{ro:Nat->Prop}{U:AZ}{w:World}{b:Nat}{l:AA Int}{off:Nat}(h:CR ro U w b (l.map λn=>A.int .u8 n) off):(loadCells ⟨b,off,none⟩ l.length).run P w=.ok (l.map λn=>Value.int .u8 n).toArray w:=by
 obtain⟨vs,i,_,g⟩:=YG (P:=P) 0 (by simpa using h);have e:∀(l:AA Int) (vs:AA Value),LR ro U w (l.map λn=>A.int .u8 n) vs->vs=l.map λn=>Value.int .u8 n:=by
  intro l
  induction l with
  |nil=>intro vs h;exact h
  |cons n l j=>
   rintro vs ⟨v,f,rfl,d,k⟩;have a:v=.int .u8 n:=d
   grind
 grind[loadCells]
theorem pz:∀(l:AA Int) (acc:ByteArray),l.foldl (λr n=>r.push (UInt8.ofNat n.toNat)) acc=⟨acc.data++(l.map Yp).toArray⟩
 |[],acc=>by simp
 |n::l,acc=>by
  rw[XC,pz l];simp[Yp]
theorem cM{t u e:TypeId}{x:Operand}{ax:A}{l:AA Int}(p:FX P H ax l)(i:∀w,(underlying t).run P w=.ok (.slice e) w)(he:∀w,(underlying e).run P w=.ok (.int .u8) w)(g:∀w,(underlying u).run P w=.ok .string w)
  (z:o.op=.convert t u x:=by exact rfl)(hx:AM env x=ax:=by exact rfl):AK P o env H (.str (l.map Yp)):=by
 intro m q U N a w r;have j:=Ql r x;rw[hx]at j;refine⟨.string ⟨(l.map Yp).toArray⟩,?_,rfl⟩;have y:(convert t u (a.eval x)).run P w=.ok (.string ⟨(l.map Yp).toArray⟩) w:=by
  rcases p m q U w _ r.sim j with⟨ad,c,f,rfl⟩|⟨b,d,c,f,h⟩
  .rw[f];cases ad with
   |none=>simp[convert,i,g,he,go_sem];rfl
   |some ad=>simp[convert,i,g,he,loadCells,go_sem];rfl
  .rw[f];have k:(loadCells ⟨b,d,none⟩ l.length).run P w=.ok (l.map λn=>Value.int .u8 n).toArray w:=by
    rcases h with rfl|h
    .rfl
    .exact yi h
   have s:(convert t u (.slice (some ⟨b,d,none⟩) l.length c)).run P w=(Conv.bytesToString (.slice (some ⟨b,d,none⟩) l.length c)).run P w:=by
    simp[convert,i,g,he,go_sem]
   rw[s,run_bytesToString w ⟨b,d,none⟩ l.length c l k,pz];simp
 simp_all[execOp]
theorem wy{t u:TypeId}{x:Operand}{p q:AA UInt8}(ho:o.op=.binOp .gtr t x y u)(hx:AM env x=.str p)(hy:AM env y=.str q):AK P o env H (.bool (!(Op.bytesLess p q||p==q))):=
 cP (f:=λa b=> !(Op.bytesLess a b||a==b)) ho hx hy (by simp)
end
structure C2 where
 ty:OY
 al:List (Nat×A)
 sl:List Nat
structure Fm (P:Program) (T:C2):Prop where
 ty:OX P T.ty
 al:∀e∈T.al,(∃z,(∀w,(zeroValue e.1).run P w=.ok z w)/\ZR e.2 z)/\Yr e.2=true/\(YD e.2).all YJ=true
 sl:∀t∈T.sl,∃et,∀w,(underlying t).run P w=.ok (.slice et) w
def Y1(all:Array Oper)(o:Oper)(env:Env):AB Bool:=
 match o.guard with
 |none=>some true
 |some (j,c)=>match(all[j]?).bind (·.dst)with
  |none=>none
  |some d=>match lk env d with
   |.bool true=>some c
   |.bool false=>some (!c)
   |.tup []=>some false
   |_=>none
theorem QS{all:Array Oper}{o:Oper}{env:Env}{b:Bool}(h:Y1 all o env=some b):Qy all o env b:=by
 unfold Y1 at h;unfold Qy;split at h
 .grind
 .rename_i j c q;rw[q];split at h
  .cases h
  .rename_i d a;refine⟨d,a,?_⟩;split at h
   .simp_all
   .simp_all
   .grind
   .cases h
def G4:AA Nat->Nat->Bool
 |[],_=>false
 |a::r,t=>bif Nat.beq a t then true else G4 r t
theorem js{l:AA Nat}(h:G4 l t=true):t∈l:=by
 induction l with
 |nil=>cases h
 |cons a r d=>
  grind[G4,Nat.eq_of_beq_eq_true]
inductive FL where
 |mk (l:List A)
def fl:AA A->FL
 |[]=>.mk []
 |a::r=>match fl r with
  |.mk r'=>.mk (a::r')
theorem KK:∀l:AA A,fl l=.mk l
 |[]=>rfl
 |a::r=>by unfold fl;rw[KK r]
inductive FB where
 |mk (l:List AR)
def fb:AA AR->FB
 |[]=>.mk []
 |a::r=>match fb r with
  |.mk r'=>.mk (a::r')
theorem aH:∀l:AA AR,fb l=.mk l
 |[]=>rfl
 |a::r=>by unfold fb;rw[aH r]
inductive FN where
 |mk (n:Nat)
def fn:AA AR->Nat->FN
 |[],n=>.mk n
 |_::r,n=>fn r (n+1)
theorem jR:∀(l:AA AR) (n:Nat),fn l n=.mk (l.length+n)
 |[],n=>by simp[fn]
 |a::r,n=>by unfold fn;rw[jR r];simp;omega
def aJ(env:Env)(pl:AA (Nat×Nat)):AA A->AA (Nat×Operand)->AB (AA A)
 |cs,[]=>some cs
 |cs,(i,x)::r=>match Y0 pl i with
  |none=>none
  |some (off,size)=>match BJ env x with
   |.mk a=>match fl (YD a)with
    |.mk vs=>bif Yr a&&Nat.beq vs.length size&&Nat.ble (off+size) cs.length then(match fl (splice cs off vs)with
     |.mk cs'=>aJ env pl cs' r)else none
theorem pF{env:Env}{pl:AA (Nat×Nat)}:∀(parts:AA (Nat×Operand)) (cs:AA A),aJ env pl cs parts=Na env pl cs parts
 |[],cs=>rfl
 |(i,x)::r,cs=>by
  unfold aJ Na;rw[KQ];cases pl[i]? with
  |none=>rfl
  |some q=>
   obtain⟨off,size⟩:=q;cases h:BJ env x with
   |mk a=>
    rw[QU h];simp only[KK];cases(Yr a&&Nat.beq (YD a).length size&&Nat.ble (off+size) cs.length)with
    |false=>rfl
    |true=>exact pF r _
def NX(env:Env):AA Operand->AA A
 |[]=>[]
 |x::r=>match BJ env x with
  |.mk a=>a::NX env r
theorem Wh{env:Env}:∀l:AA Operand,NX env l=l.map (AM env)
 |[]=>rfl
 |x::r=>by
  unfold NX;cases h:BJ env x with
  |mk a=>rw[Vf,QU h];show a::NX env r=_;rw[Wh r]
def Kc(H:Qb):Bx->AB Lx
 |.mk (.rp cs)=>some (.mk cs)
 |.mk (.ptr i off)=>match Y0 H i with
  |some (.cells _ cs)=>some (Oo off cs)
  |_=>none
 |_=>none
theorem uZ{p:A}{cs:AA A}(h:Kc H (.mk p)=some (.mk cs)):BD H p cs:=by
 unfold Kc at h
 grind[BD.rp,KQ,BD.cells,b8]
def D7(T:C2)(o:Oper)(env:Env)(H:Qb):AB A:=
 match o.op with
 |.move x=>match BJ env x with|.mk a=>some a
 |.assign x=>match BJ env x with|.mk a=>some a
 |.nilCheck x=>dW (BJ env x)
 |.extract x i=>jF (BJ env x) i
 |.unOp u _ x=>dL u (BJ env x)
 |.pick c x y=>dU (BJ env c) (BJ env x) (BJ env y)
 |.binOp b _ x y _=>jM b (BJ env x) (BJ env y)
 |.fieldAddr t x f=>match WB T.ty.fld t f with
  |none=>none
  |some off=>match BJ env x with
   |.mk (.ptr i p)=>some (.ptr i (p+off))
   |.mk (.rp cs)=>match Oo off cs with
    |.mk r=>some (.rp r)
   |_=>none
 |.load t x=>match FQ T.ty.agg t with
  |none=>none
  |some (b,n)=>match x with
   |.global g=>match Y0 KC g with
    |some zs=>bif b&&Nat.beq zs.length n then(match fl (zs.map (A.int .i64))with|.mk l=>some (.agg l))else none
    |none=>none
   |x=>match Kc H (BJ env x)with
    |none=>none
    |some (.mk cs)=>match b with
     |true=>(match fl (cs.take n)with|.mk l=>bif Nat.beq l.length n then some (.agg l)else none)
     |false=>(match cs with|[]=>none|a::_=>some a)
 |.build t parts=>match FQ T.ty.zer t with
  |none=>none
  |some (zs,pl)=>match aJ env pl zs parts.toList with
   |some cs=>some (.agg cs)
   |none=>none
 |.makeFunc f first cap=>match fl (NX env first.toList),fl (NX env cap.toList)with
  |.mk l,.mk l'=>some (.fn f l l')
 |.call c=>match c with
  |{callee:=.builtin .len,args:=⟨[x]⟩,argTypes:=⟨[t]⟩}=>bif G4 T.sl t then(match BJ env x with
   |.mk (.osl _ 0 n _)=>some (.int .i64 n)
   |_=>none)else none
  |_=>none
 |_=>none
theorem KS{T:C2}(j:Fm P T){o:Oper}{env:Env}{x:A}(h:D7 T o env H=some x):AK P o env H x:=by
 unfold D7 at h;split at h
 .simp_all[Nk,Hw]
 .simp_all[Nk,Hw]
 .simp_all[Nk,Hw]
 .simp_all[Nk,Hw]
 .simp_all[Nk,Hw]
 .simp_all[Nk,Hw]
 .simp_all[Nk,Hw]
 .rename_i t y f a;split at h
  .cases h
  .rename_i u s;obtain⟨n,O⟩:=j.ty.fld _ (pI s);split at h
   .grind[YK,QU]
   .rename_i l V;cases q:Oo u l with
    |mk r=>rw[q]at h;grind[QD,QU,b8]
   .cases h
 .rename_i t y a;split at h
  .cases h
  .rename_i b n N;obtain⟨m,d⟩:=j.ty.agg _ (LI N);split at h
   .rename_i g;split at h
    .rename_i E B;rw[KQ]at B;cases q:(b&&Nat.beq E.length n)with
     |false=>grind
     |true=>
      rw[q,KK]at h;cases h;simp only[XU]at q;obtain⟨rfl,w⟩:=q;exact rR m d B (by simp_all) a
    .cases h
   .cases e:BJ env y with
    |mk p=>
     rw[e]at h;split at h
     .cases h
     .rename_i l M;have G:=uZ M;cases b with
      |true=>
       simp only[KK]at h;cases q:Nat.beq (l.take n).length n with
       |false=>grind
       |true=>
        rw[q]at h;cases h;exact Qv a m d (QU e) G rfl (by simp_all)
      |false=>
       grind[AK.load,QU]
 .rename_i t parts a;split at h
  .cases h
  .rename_i E Q L;obtain⟨⟨z,m,d⟩,J⟩:=j.ty.zer _ (LI L);split at h
   .rename_i l s;cases h;rw[pF]at s;exact AK.build m d J (by rw[a]) s
   .cases h
 .rename_i f first cap a
  simp only[KK]at h;cases h;rw[Wh,Wh];exact AK.makeFunc (first:=first.toList) (cap:=cap.toList) (by rw[a]) rfl rfl
 .rename_i c a;split at h
  .rename_i y t;cases q:G4 T.sl t with
   |false=>grind
   |true=>
    rw[q]at h;simp only[Vk]at h;obtain⟨R,F⟩:=j.sl t (js q);split at h
    .rename_i i n k w;cases h;exact wu F a rfl (QU w)
    .cases h
  .cases h
 .cases h
def dN(T:C2)(h0 N:Nat)(all:Array Oper)(o:Oper)(env:Env)(H:Qb):AB (Env×Qb):=
 match Y1 all o env with
 |none=>none
 |some false=>match o.dst with
  |none=>none
  |some d=>bif Nat.blt d N then some (up env d (.tup []),H)else none
 |some true=>match o.dst with
  |none=>match o.op with
   |.store t x y=>match BJ env x,FQ T.ty.agg t with
    |.mk (.ptr i off),some (_,n)=>match Y0 H i with
     |some (.cells S cs)=>match BJ env y with
      |.mk a=>match fl (YD a)with
       |.mk vs=>bif Nat.ble h0 H.length&&(Yr a&&(Nat.beq vs.length n&&(vs.all YJ&&Nat.ble (off+n) cs.length)))then(match fl (splice cs off vs)with
        |.mk cs'=>match fb (H.set i (.cells S cs'))with
         |.mk H'=>some (env,H'))else none
     |_=>none
    |_,_=>none
   |_=>none
  |some d=>bif Nat.blt d N then(match o.op with
   |.alloc t=>match FQ T.al t with
    |some v=>bif Nat.ble h0 H.length then(match fn H 0,fl (YD v)with
     |.mk n,.mk cs=>match fb (H++[.cells t cs])with
      |.mk H'=>some (up env d (.ptr n 0),H'))else none
    |none=>none
   |.box t x=>match BJ env x with
    |.mk a=>bif Nat.ble h0 H.length&&(Yr a&&(YD a).all YJ)then(match fn H 0,fl (YD a)with
     |.mk n,.mk cs=>match fb (H++[.cells t cs])with
      |.mk H'=>some (up env d (.ptr n 0),H'))else none
   |_=>match D7 T o env H with
    |some a=>some (up env d a,H)
    |none=>none)else none
section
variable {P:Program} {T:C2} {h0 N:Nat} {all:Array Oper} {l l':AA Oper} {env env':Env} {H H':Qb} {Q:QW}
theorem nr(p:Fm P T){o:Oper}(h:dN T h0 N all o env H=some (env',H'))(k:WO P h0 N all l env' H' Q):WO P h0 N all (o::l) env H Q:=by
 unfold dN at h;split at h
 .cases h
 .grind[QS,WO.skip]
 .rename_i O;have j:=QS O;split at h
  .rename_i g;split at h
   .rename_i t x y f;split at h
    .rename_i i r b n F V;split at h
     .rename_i S cs hH;rw[KQ]at hH;cases e:BJ env y with
      |mk a=>
       rw[e]at h;simp only[KK,aH]at h;generalize hc:(Nat.ble h0 H.length&&(Yr a&&(Nat.beq (YD a).length n&&((YD a).all YJ&&Nat.ble (r+n) cs.length))))=c at h;cases c with
       |false=>cases h
       |true=>
        cases h;simp only[XU]at hc;obtain⟨c1,m,s,u,G⟩:=hc;obtain⟨_,B⟩:=p.ty.agg _ (LI V);exact LE (by simp_all) j g (FS.store f (QU F) hH B (QU e) m rfl (by simp_all) u G rfl) k
     .cases h
    .cases h
   .cases h
  .rename_i d g;cases q:Nat.blt d N with
   |false=>grind
   |true=>
    rw[q]at h;simp only[Vk]at h;split at h
    .rename_i t f;split at h
     .rename_i v L;cases c:Nat.ble h0 H.length with
      |false=>grind
      |true=>
       rw[c]at h;simp only[KK,aH,jR,Vk,Xw]at h;cases h;obtain⟨⟨z,w,R⟩,J,E⟩:=p.al _ (LI L);exact Jq (by simp_all) j g q (rh w R f J rfl E) k
     .cases h
    .rename_i t x f;cases e:BJ env x with
     |mk a=>
      rw[e]at h;simp only[KK,aH,jR,Xw]at h;generalize hc:(Nat.ble h0 H.length&&(Yr a&&(YD a).all YJ))=c at h;cases c with
      |false=>cases h
      |true=>
       cases h;simp only[XU]at hc;obtain⟨c1,m,s⟩:=hc;exact Jq (by simp_all) j g q (CD.box f (QU e) m rfl s) k
    .split at h
     .rename_i a M;cases h;exact QM j g q (KS p M) k
     .cases h
end
theorem FA{T f off n:Nat}{fs:Array Field}{a:Field}(h:∀w,(underlying T).run P w=.ok (.struct fs) w)(d:fs[f]?=some a)(e:∀w,(sizeOf a.type).run P w=.ok n w)(g:a.offset=off:=by exact rfl)(h5:n≠0:=by decide):QK P T f off n:=⟨_,_,h,d,g,e,h5⟩
theorem si:∀(π:AA Nat) (H:Qb) (xs:AA AR),π.map (λp=>H[p]?)=xs.map some->YI H π xs=H
 |[],H,xs,h=>by
  simp_all[YI]
 |p::π,H,[],h=>by simp at h
 |p::π,H,x::xs,h=>by
  simp only[Vf,List.cons.injEq]at h;have e:H.set p x=H:=by
   apply List.ext_getElem?
   grind
  unfold YI;rw[e];exact si π H xs h.2
def SY:A->AB Bx
 |.bool b=>some (.mk (.bool b))
 |.int k n=>some (.mk (.int k n))
 |.str s=>some (.mk (.str s))
 |.rsl k es=>some (.mk (.rsl k es))
 |_=>none
theorem vq{v a:A}(h:SY v=some (.mk a))(ρ:Nat->Nat):Je ρ v=a:=by
 cases v<;>first|(cases h;rfl)|cases h
variable {Hc:Qb}{Q:QW}{d h0:Nat}
theorem Pc{all:Array Oper}{o:Oper}{env:Env}{f:FuncId}{args e:AA A}{v h:A}(π:AA Nat)(i:o.dst=some d)(g:Bh P o env H f args)(j:C P f e Hc (λa H1=>a=v/\H1=Hc))(m:SY v=some (.mk h))
  (k:WO P h0 N all l (up env d h) H Q)
  (hargs:args=C3 (Af π H.length) e:=by exact rfl)(hH:π.map (λp=>H[p]?)=(Hc.map (Q9 (Af π H.length))).map some:=by exact rfl)(hπ:π.Nodup:=by decide)
  (hg:Qy all o env true:=by exact rfl)(hN:Nat.blt d N=true:=by exact rfl)(hh:Nat.ble h0 H.length=true:=by exact rfl):WO P h0 N all (o::l) env H Q:=by
 refine QC π g j ?_ hargs hH hπ hg i hN hh
 simp_all[vq,si]
theorem YL{i k:Nat}{es:AA (AA A)}:∀H:Qb,CE i k es H H
 |[]=>.nil
 |_::r=>.keep (YL r)
def Kx:Nat->FN
 |0=>.mk 0
 |n+1=>match Kx n with
  |.mk m=>.mk (m+1)
theorem WN:∀n,Kx n=.mk n
 |0=>rfl
 |n+1=>by unfold Kx;rw[WN n]
mutual
def Hg:A->Bx
 |.agg cs=>match Ky cs with
  |.mk l=>.mk (.agg l)
 |.tup cs=>match Ky cs with
  |.mk l=>.mk (.tup l)
 |.fn f a c=>match Ky a,Ky c with
  |.mk l,.mk l'=>.mk (.fn f l l')
 |.iface t v=>match Hg v with
  |.mk v'=>.mk (.iface t v')
 |.ptr i off=>match Kx i with
  |.mk i'=>.mk (.ptr i' off)
 |.osl i o n k=>match Kx i with
  |.mk i'=>.mk (.osl i' o n k)
 |.map i=>match Kx i with
  |.mk i'=>.mk (.map i')
 |a=>.mk a
def Ky:AA A->FL
 |[]=>.mk []
 |a::r=>match Hg a,Ky r with
  |.mk a',.mk r'=>.mk (a'::r')
end
mutual
theorem bA:∀a:A,Hg a=.mk a
 |.agg cs=>by unfold Hg;rw[O3 cs]
 |.tup cs=>by unfold Hg;rw[O3 cs]
 |.fn f a c=>by unfold Hg;rw[O3 a,O3 c]
 |.iface t v=>by unfold Hg;rw[bA v]
 |.ptr i off=>by unfold Hg;rw[WN]
 |.osl i o n k=>by unfold Hg;rw[WN]
 |.map i=>by unfold Hg;rw[WN]
 |.any|.bool _|.int _ _|.str _|.nilp|.rp _|.nils|.rsl _ _|.nilf|.nilif|.nilm=>by rfl
theorem O3:∀l:AA A,Ky l=.mk l
 |[]=>by rfl
 |a::r=>by unfold Ky;rw[bA a,O3 r]
end
inductive FE2 where
 |mk (l:List (List A))
def Z':AA (AA A)->FE2
 |[]=>.mk []
 |a::r=>match Ky a,Z' r with
  |.mk a',.mk r'=>.mk (a'::r')
theorem nR:∀l,Z' l=.mk l
 |[]=>rfl
 |a::r=>by unfold Z';rw[O3,nR r]
def U3:AA AR->FB
 |[]=>.mk []
 |b::r=>match U3 r with
  |.mk r'=>match b with
   |.cells t cs=>match Ky cs with
    |.mk l=>.mk (.cells t l::r')
   |.rowr t k es=>match Z' es with
    |.mk l=>.mk (.rowr t k l::r')
   |.dead=>.mk (.dead::r')
   |.row t k es=>.mk (.row t k es::r')
   |.map es=>.mk (.map es::r')
   |.iter c es=>.mk (.iter c es::r')
   |.fmap es=>.mk (.fmap es::r')
   |.mapO fz t k es=>.mk (.mapO fz t k es::r')
   |.mapP es=>.mk (.mapP es::r')
   |.frow t k es=>.mk (.frow t k es::r')
   |.wins t a n c=>match Kx a with
    |.mk a'=>.mk (.wins t a' n c::r')
   |.ents t a b es=>match Kx a,Kx b with
    |.mk a',.mk b'=>.mk (.ents t a' b' es::r')
theorem ja:∀l,U3 l=.mk l
 |[]=>rfl
 |b::r=>by
  unfold U3;rw[ja r];cases b<;>simp only[O3,nR,WN]
def Z_(env:Env)(H:Qb):AB (Env×Qb):=
 match U3 H with
 |.mk H'=>match env with
  |[]=>some ([],H')
  |(d,a)::e=>match Hg a with
   |.mk a'=>some ((d,a')::e,H')
theorem uq(env:Env)(H:Qb):Z_ env H=some (env,H):=by
 unfold Z_;rw[ja];cases env with
 |nil=>rfl
 |cons p e=>obtain⟨d,a⟩:=p;simp only[bA]
variable {env':Env}
theorem FE{all:Array Oper}{env:Env}{H':Qb}(h:Z_ env H=some (env',H'))(k:WO P h0 N all l env' H' Q):WO P h0 N all l env H Q:=by
 rw[uq]at h
 grind
def K1(b1 b2:Nat):AA (AA A)->AB (AA A6)
 |[]=>some []
 |[.ptr b off,.int .i64 lo,.int .i64 hi]::r=>match K1 b1 b2 r with
  |none=>none
  |some l=>match Nat.beq b b2 with
   |true=>some (⟨true,off,lo,hi⟩::l)
   |false=>match Nat.beq b b1 with
    |true=>some (⟨false,off,lo,hi⟩::l)
    |false=>none
 |_=>none
theorem uP{b1 b2:Nat}:∀{es:AA (AA A)} {l:AA A6},K1 b1 b2 es=some l->l.map (eC b1 b2)=es:=by
 intro es
 induction es with
 |nil=>intro l h;cases h;rfl
 |cons e r d=>
  intro l h;unfold K1 at h;split at h
  .grind
  .rename_i b f lo g j q;cases q;split at h
   .cases h
   .rename_i i a;have e:=d a;split at h
    .rename_i q;cases h;have:=XO q;subst this;rw[Vf,e];rfl
    .split at h
     .rename_i q;cases h;have:=XO q;subst this;rw[Vf,e];rfl
     .cases h
  .cases h
theorem TE{all:Array Oper}{env:Env}{es:AA (AA A)}{L:AA A6}(i b1 b2:Nat)(hH:H[i]?=some (.rowr t 3 es))(h:K1 b1 b2 es=some L)
  (k:WO P h0 N all l env (H.set i (.ents t b1 b2 L)) Q):WO P h0 N all l env H Q:=QB (wp hH (uP h)) k
theorem R1{fn:Func}{env:Env}{v:A}(s:Nat)(hr:fn.results= #[.tmp s])(hle:Le h0 env H [(s,v)] Hc):LJ P h0 fn (λa H=>a=v/\H=Hc) .ret env H:=
 ⟨[(s,v)],Hc,v,hle,Df.one hr (by simp_all[lk]),rfl,rfl⟩
theorem R2{fn:Func}{env:Env}{v v':A}(s t:Nat)(hr:fn.results= #[.tmp s,.tmp t])(hn:Nat.beq t s=false)(hle:Le h0 env H [(s,v),(t,v')] Hc):LJ P h0 fn (λa H=>a=.tup [v,v']/\H=Hc) .ret env H:=
 ⟨[(s,v),(t,v')],Hc,_,hle,w9 hr (by simp_all[lk]) (by simp_all[lk]),rfl,rfl⟩
theorem BP.o{i k n:Nat}{es:AA (AA A)}(a:n=es.length:=by first|exact(XZ ..).symm|exact rfl):BP i k es (.osl i 0 n k) (.rsl k es):=BP.own a
theorem Le.env{h0:Nat}{env env':Env}{H:Qb}(h:∀s,lk env' s=.any\/lk env' s=lk env s):Le h0 env H env' H:=by
 intro e d U N a w r;refine⟨d,U,⟨r.sim,λs=>?_,r.size,r.defers⟩,λ_ q=>q,rfl⟩;rcases h s with h|h
 .rw[h];trivial
 .rw[h];exact r.env s
def aA(env:Env):Env->Prop
 |[]=>True
 |(s,a)::r=>lk env s=a/\aA env r
theorem aA.ok{env:Env}:∀{env':Env},aA env env'->∀s,lk env' s=.any\/lk env' s=lk env s
 |[],_,s=>.inl rfl
 |(d,a)::e,⟨h1,h2⟩,s=>by
  by_cases q:s=d
  .simp_all[lk]
  .have:Nat.beq s d=false:=by
    simp_all[VI]
   simp only[lk,this,Vl];exact aA.ok h2 s
def ixO(d:Nat)(op:Op)(t:Nat)(pos:String)(af:Array Edge):Oper:={dst:=some d,op:=op,type:=t,pos:=pos,after:=af,guard:=none}
inductive Kf where
 |seq (c:Code)
 |blo (id:Nat)
 |unr (c:Code)
inductive Cf where
 |code (c:Code)
 |ops (all:Array Oper) (l:List Oper)
 |out (x:TJ)
def kq(P:Program)(h0 N:Nat):AA Kf->QW->QW
 |[],Q=>Q
 |.seq c::k,Q=>NT P h0 N c (kq P h0 N k Q)
 |.blo id::k,Q=>M7 id (kq P h0 N k Q)
 |.unr c::k,Q=>On P h0 N c (kq P h0 N k Q)
@[reducible] def Hd(P:Program)(h0 N:Nat):Cf->AA Kf->Env->Qb->QW->Prop
 |.code c,k,env,H,Q=>TC P h0 N c env H (kq P h0 N k Q)
 |.ops all l,k,env,H,Q=>WO P h0 N all l env H (kq P h0 N k Q)
 |.out x,k,env,H,Q=>kq P h0 N k Q x env H
def Sd(T:C2)(h0 N:Nat):Cf->AA Kf->Env->Qb->AB (Cf×AA Kf×Env×Qb)
 |.code (.seq a b),k,env,H=>some (.code a,.seq b::k,env,H)
 |.code (.block id c),k,env,H=>some (.code c,.blo id::k,env,H)
 |.code (.loop c),k,env,H=>some (.code c,.unr c::k,env,H)
 |.code .skip,k,env,H=>some (.out .normal,k,env,H)
 |.code .ret,k,env,H=>some (.out .ret,k,env,H)
 |.code (.exit id),k,env,H=>some (.out (.exit id),k,env,H)
 |.code (.region id ⟨l⟩ false),k,env,H=>some (.ops ⟨l⟩ l,k,env,H)
 |.code (.cond x a b),k,env,H=>match BJ env x with
  |.mk (.bool true)=>some (.code a,k,env,H)
  |.mk (.bool false)=>some (.code b,k,env,H)
  |_=>none
 |.ops all [],k,env,H=>some (.out .normal,k,env,H)
 |.ops all (o::l),k,env,H=>match dN T h0 N all o env H with
  |some (env',H')=>some (.ops all l,k,env',H')
  |none=>none
 |.out .normal,.seq c::k,env,H=>some (.code c,k,env,H)
 |.out (.exit i),.seq _::k,env,H=>some (.out (.exit i),k,env,H)
 |.out .ret,.seq _::k,env,H=>some (.out .ret,k,env,H)
 |.out .normal,.blo _::k,env,H=>some (.out .normal,k,env,H)
 |.out (.exit i),.blo id::k,env,H=>match Nat.beq i id with
  |true=>some (.out .normal,k,env,H)
  |false=>some (.out (.exit i),k,env,H)
 |.out .ret,.blo _::k,env,H=>some (.out .ret,k,env,H)
 |.out .normal,.unr c::k,env,H=>some (.code c,.unr c::k,env,H)
 |.out (.exit i),.unr _::k,env,H=>some (.out (.exit i),k,env,H)
 |.out .ret,.unr _::k,env,H=>some (.out .ret,k,env,H)
 |_,_,_,_=>none
def F7(T:C2)(h0 N:Nat):Nat->Cf->AA Kf->Env->Qb->AB (Cf×AA Kf×Env×Qb)
 |0,c,k,env,H=>some (c,k,env,H)
 |n+1,c,k,env,H=>match Sd T h0 N c k env H with
  |some (c',k',env',H')=>F7 T h0 N n c' k' env' H'
  |none=>none
variable {S:Type}
section
variable {P:Program} {T:C2} {h0 N:Nat} {Q:QW}
theorem xQ(e:Fm P T){c a:Cf}{k d:AA Kf}{env:Env}{H':Qb}(h:Sd T h0 N c k env H=some (a,d,env',H'))(g:Hd P h0 N a d env' H' Q):Hd P h0 N c k env H Q:=by
 unfold Sd at h;split at h
 .cases h;exact TC.seq g
 .cases h;exact TC.block g
 .cases h;exact w_ g
 .cases h;exact TC.skip g
 .cases h;exact TC.ret g
 .cases h;exact TC.exit g
 .cases h;exact TC.region g
 .split at h
  .rename_i q;cases h;exact pN (QU q) rfl g
  .rename_i q;cases h;exact kY (QU q) rfl g
  .cases h
 .cases h;exact WO.nil g
 .grind[nr]
 .cases h;exact dR g
 .cases h;exact dP g
 .cases h;exact dQ g
 .cases h;exact jK g
 .split at h
  .rename_i q;cases h;have:=XO q;subst this;exact jL g
  .rename_i q;cases h;exact jI q g
 .cases h;exact jJ g
 .cases h;exact dK g
 .cases h;exact dI g
 .cases h;exact dJ g
 .cases h
theorem Wa(hT:Fm P T):∀(n:Nat) {c c':Cf} {k k':AA Kf} {env env':Env} {H H':Qb},F7 T h0 N n c k env H=some (c',k',env',H')->Hd P h0 N c' k' env' H' Q->Hd P h0 N c k env H Q
 |0,c,c',k,k',env,env',H,H',h,g=>by cases h;exact g
 |n+1,c,c',k,k',env,env',H,H',h,g=>by
  unfold F7 at h;split at h
  .rename_i e;exact xQ hT e (Wa hT n h g)
  .cases h
theorem oO{env:Env}{s:Nat}{a:A}(h:lk env s=a):∀t,lk (up env s a) t=lk env t:=by
 intro t;simp[lk];cases q:Nat.beq t s with
 |true=>simp_all
 |false=>rfl
theorem Is{α:Type}{all:Array Oper}{env:Env}{b:Bool}{x y:AB α}{r:α}(s:Nat)(h:(bif b then x else y)=some r)(d:SR env s=.mk (.bool b))
  (t:b=true->x=some r->WO P h0 N all l (up env s (.bool true)) H Q)(e:b=false->y=some r->WO P h0 N all l (up env s (.bool false)) H Q):WO P h0 N all l env H Q:=by
 have a:=jc d;cases b with
 |true=>exact QB (Le.env λt=>.inr (oO a t)) (t rfl h)
 |false=>exact QB (Le.env λt=>.inr (oO a t)) (e rfl h)
theorem md{B1:Type}{A B C:Code}{env:Env}{k:AA Kf}{b:AG S B1}(Eb:S->Env)(Hb:S->Qb)(h:TC P h0 N A env H (kq P h0 N [.seq B] (LC h0 b Eb Hb (kq P h0 N (.seq C::k) Q))))(g:∀s env H,b=.k s->Le h0 env H (Eb s) (Hb s)->kq P h0 N (.seq C::k) Q .normal env H):TC P h0 N (.seq A (.seq B C)) env H (kq P h0 N k Q):=
 vG Eb Hb h g
end
def jG(o:Oper)(i:Nat):Nat:=match o.dst with|some d=>d|none=>1000000+i
def G6:Nat->Nat->AA Oper->AA Nat
 |0,_,_=>[]
 |_+1,_,[]=>[]
 |m+1,i,o::l=>jG o i::G6 m (i+1) l
def Q7(af:AA Nat):Nat->AA Nat->AA A->Env->Env
 |j,d::ds,x::xs,e=>(d,bif G4 af j then x else .any)::Q7 af (j+1) ds xs e
 |j,d::ds,[],e=>(d,.any)::Q7 af (j+1) ds [] e
 |_,[],_,e=>e
theorem Qg4{l:AA Nat}:G4 l t=l.contains t:=by
 induction l with
 |nil=>rfl
 |cons a r d=>
  grind[G4,Nat.eq_of_beq_eq_true,Nat.beq_refl]
theorem j4{s:Nat}:∀(a:AA Nat) (xs f:AA A) (b:Nat),
  (∃(j:Nat) (x:A),af.contains (b+j)=true/\a[j]?=some s/\(xs++f)[j]?=some x/\lk (Q7 af b a xs env0) s=x)\/lk (Q7 af b a xs env0) s=.any\/(a.contains s=false/\lk (Q7 af b a xs env0) s=lk env0 s):=by
 intro a
 induction a with
 |nil=>intro xs f b;right;right;exact⟨rfl,by rfl⟩
 |cons d a l=>
  intro xs f b;have next:∀(e:AA A),(∃(j:Nat) (x:A),af.contains (b+1+j)=true/\a[j]?=some s/\(e++f)[j]?=some x/\lk (Q7 af (b+1) a e env0) s=x)->∀m,(∃(j:Nat) (x:A),af.contains (b+j)=true/\(d::a)[j]?=some s/\(m::e++f)[j]?=some x/\lk (Q7 af (b+1) a e env0) s=x):=by
   rintro e ⟨j,x,g,k,n,p⟩ m;exact⟨j+1,x,by grind,by grind,by grind,p⟩
  cases xs with
  |nil=>
   cases q:Nat.beq s d with
   |true=>simp_all[Q7,lk]
   |false=>
    have i:s≠d:=λz=>by simp_all
    simp only[Q7,lk,q,Vl];rcases l [] [] (b+1)with⟨j,x,g,k,n,p⟩|h|⟨g,k⟩
    .simp at n
    .grind
    grind
  |cons x xs=>
   cases q:Nat.beq s d with
   |true=>
    have:=XO q;subst this;simp only[Q7,lk,q,Vk];cases c:G4 af b with
    |true=>left;exact⟨0,x,by rw[<- Qg4];exact c,rfl,rfl,rfl⟩
    |false=>simp
   |false=>
    have i:s≠d:=λz=>by simp_all
    simp only[Q7,lk,q,Vl];rcases l xs f (b+1)with h|h|⟨g,k⟩
    .exact .inl (next xs h x)
    .grind
    grind
variable {id:Nat}{r:AA Oper}
section
variable {P:Program} {T:C2} {h0 N m:Nat} {l:AA Oper} {ds:AA Nat} {env:Env} {H:Qb} {Q:QW} {K:AA Oper->Env->Qb->Prop}
def DS(P:Program)(N m:Nat)(l:AA Oper)(ds:AA Nat)(env:Env)(H:Qb)(K:AA Oper->Env->Qb->Prop)(r:AA Oper)(xs:AA A):Prop:=
 r=l.drop xs.length->∃ys,xs.length+ys.length=m/\(∀j,xs.length<=j->j<m->JH P N l ds (xs++ys) env H.length H.length j H H)/\K (l.drop m) (FZ ds (xs++ys) env) H
theorem Tg{xs:AA A}:∀(c i:Nat),(∀j,i<=j->j<i+c->JH P N l ds xs env H.length H.length j H H)->Oq P N l ds xs env H i c
 |0,i,_=>.n
 |c+1,i,h=>.c (by grind) (Tg c (i+1) (by grind))
theorem u7{k:AA Kf}(m:Nat)(f:P.follows .mixedOrders=true)(d:Go.Sw.draw0 l m N (G6 m 0 l)=true)(a:Nat.ble h0 H.length=true)
  (h:DS P N m l (G6 m 0 l) env H (λr e H=>WO P h0 N l.toArray r e H Q) l []):TC P h0 N (.region id l.toArray true) env H Q:=by
 obtain⟨g,n,j,i⟩:=h rfl;exact TC.draw0 m _ g f d (by simp_all) a (Tg m 0 (by grind)) i
theorem DS.done{xs:AA A}(a:Nat.beq xs.length m=true)(h:K r (FZ ds xs env) H):DS P N m l ds env H K r xs:=by
 intro f;have e:=XO a;refine⟨[],by simpa using e,λj g d=>by omega,?_⟩
 grind
theorem DS.add{xs:AA A}{o:Oper}{x:A}(i:Nat.blt xs.length m=true)(h:∀ys,l[xs.length]?=some o->JH P N l ds (xs++x::ys) env H.length H.length xs.length H H)(k:DS P N m l ds env H K r (xs++[x])):DS P N m l ds env H K (o::r) xs:=by
 intro d;have a:xs.length<l.length:=by
  grind[List.drop_eq_nil_of_le]
 rw[Xq a]at d;cases d;obtain⟨ys,f,g,e⟩:=k (by simp)
 grind
theorem kO{xs a:AA A}{x:A}:(xs++x::a)[xs.length]?=some x:=by simp
theorem DS.wo{xs:AA A}{o:Oper}{x:A}(h:WO P H.length N l.toArray [o] (Q7 (Qf o) 0 ds xs env) H (Y6 (up (Q7 (Qf o) 0 ds xs env) d x) H))(k:DS P N m l ds env H K r (xs++[x]))
  (f:o.dst=some d:=by exact rfl)(hx:Nat.blt xs.length m=true:=by exact rfl):DS P N m l ds env H K (o::r) xs:=
 .add hx (λe a=>.woE o _ d x a f kO (he:=by
  intro s;rcases j4 (af:=Qf o) (env0:=env) (s:=s) ds xs (x::e) 0 with⟨j,y,n,g,p,i⟩|q|q
  .grind
  .grind
  grind) (hdd:=sK H) (h:=h)) k
theorem DS.v{xs:AA A}{o:Oper}{x:A}(h:AK P o (Q7 (Qf o) 0 ds xs env) H x)(k:DS P N m l ds env H K r (xs++[x]))(hg:Qy l.toArray o (Q7 (Qf o) 0 ds xs env) true:=by exact rfl)
  (hd:o.dst=some d:=by exact rfl)(hN:Nat.blt d N=true:=by exact rfl)(hx:Nat.blt xs.length m=true:=by exact rfl):DS P N m l ds env H K (o::r) xs:=
 .wo (QM hg hd hN h (WO.nil Y6.mk)) k hd hx
def Fj:AA A->A->FL
 |[],x=>.mk [x]
 |a::r,x=>match Fj r x with
  |.mk r'=>.mk (a::r')
theorem Jy:∀(l:AA A) (x:A),Fj l x=.mk (l++[x])
 |[],x=>rfl
 |a::r,x=>by unfold Fj;rw[Jy r];rfl
def WJ(T:C2)(N m:Nat)(l:AA Oper)(ds:AA Nat)(env:Env)(H:Qb):Nat->Nat->AA Oper->AA A->AB (AA Oper×AA A)
 |0,_,r,xs=>some (r,xs)
 |_+1,_,[],_=>none
 |n+1,i,o::r,xs=>match Nat.blt i m with
  |false=>none
  |true=>match o.dst with
   |none=>none
   |some d=>match Nat.blt d N with
    |false=>none
    |true=>match Y1 ⟨l⟩ o (Q7 (Qf o) 0 ds xs env)with
     |none=>none
     |some false=>match Fj xs (.tup [])with
      |.mk xs'=>WJ T N m l ds env H n (i+1) r xs'
     |some true=>match D7 T o (Q7 (Qf o) 0 ds xs env) H with
      |none=>none
      |some x=>match Fj xs x with
       |.mk xs'=>WJ T N m l ds env H n (i+1) r xs'
theorem kn(hT:Fm P T):∀(n i:Nat) {r r':AA Oper} {xs xs':AA A},i=xs.length->WJ T N m l ds env H n i r xs=some (r',xs')->DS P N m l ds env H K r' xs'->DS P N m l ds env H K r xs
 |0,i,r,r',xs,xs',_,h,k=>by cases h;exact k
 |n+1,i,[],r',xs,xs',_,h,k=>by cases h
 |n+1,i,o::r,r',xs,xs',hi,h,k=>by
  subst hi;unfold WJ at h;split at h
  .cases h
  .rename_i q1;split at h
   .cases h
   .rename_i d hd;split at h
    .cases h
    .rename_i q2;split at h
     .cases h
     .rename_i hw;simp[Jy]at h;exact .wo (WO.skip (QS hw) hd q2 (WO.nil Y6.mk)) (kn hT n _ (by simp) h k) hd q1
     .rename_i hw;split at h
      .cases h
      .rename_i x hv;simp[Jy]at h;exact .v (KS hT hv) (kn hT n _ (by simp) h k) (QS hw) hd q2 q1
def Og:AA A->Nat->A->FL
 |[],_,_=>.mk []
 |_::r,0,x=>.mk (x::r)
 |a::r,n+1,x=>match Og r n x with
  |.mk r'=>.mk (a::r')
theorem Wx:∀{l:AA A} {n:Nat} {x:A},Y0 l n=some x->Og l n x=.mk l
 |[],n,x,h=>by cases h
 |a::r,0,x,h=>by cases h;rfl
 |a::r,n+1,x,h=>by unfold Og;rw[Wx (l:=r) h]
theorem KN{α:Type}{b:Bool}{x y:AB α}{v:α}{xs a d:AA A}(j:Nat)(h:(bif b then x else y)=some v)(i:Y0 xs j=some (.bool b))(g:Og xs j (.bool true)=.mk a)(f:Og xs j (.bool false)=.mk d)
  (t:b=true->x=some v->DS P N m l ds env H K r a)(e:b=false->y=some v->DS P N m l ds env H K r d):DS P N m l ds env H K r xs:=by
 cases b with
 |true=>simp_all[Wx]
 |false=>simp_all[Wx]
end
variable {β:Type}
@[reducible] def RQ(w:β->A)(Hc:β->Qb)(r:β):A->Qb->Prop:=λa H=>a=w r/\H=Hc r
@[reducible] def Bk(P:Program)(f:FuncId)(args:AA A)(H:Qb)(w:β->A)(r:β):Prop:=C P f args H (RQ w (λ_=>H) r)
structure NQ where
 sl:List (Nat×Nat×Nat)
 fn:List Nat
structure IC (P:Program) (Z:NQ):Prop where
 sl:∀e∈Z.sl,(∀w,(underlying e.1).run P w=.ok (.slice e.2.1) w)/\ ∀w,(sizeOf e.2.1).run P w=.ok e.2.2 w
 fn:∀f∈Z.fn,∀(a:Array Value) (w:World),(callFunc f a).run P w=.ok (.enter f a) w
variable {F:AB β}{α γ:Type}
variable {F':β->AB γ}{L:AA α}
section
variable {P:Program} {Z:NQ} {h0 N:Nat} {all:Array Oper} {o:Oper} {l:AA Oper} {env:Env} {H:Qb} {Q:QW} {d:Nat}
theorem tS(n:IC P Z){e:α->AA A}{f k:Nat}{j:IntKind}{i:Int}{v:α}(h:AJ L i=some v)(q:SV o env=some (d,t,k,L.map e,j,i))(g:WO P h0 N all l (up env d (.rp (e v))) H Q)
  (m:FQ Z.sl t=some (f,k))(hg:Y1 all o env=some true)(p:Nat.blt d N=true):WO P h0 N all (o::l) env H Q:=by
 obtain⟨r,a⟩:=n.sl _ (LI m);exact Ix h r a q g (QS hg) p
theorem Ize(m:IC P Z){e:α->AA A}{a k:Nat}{f:IntKind}{i:Int}{v:α}{cs:AA A}(h:AJ L i=some v)(he:e v=cs)(q:SV o env=some (d,t,k,L.map e,f,i))(g:WO P h0 N all l (up env d (.rp cs)) H Q)
  (j:FQ Z.sl t=some (a,k))(hg:Y1 all o env=some true)(n:Nat.blt d N=true):WO P h0 N all (o::l) env H Q:=by
 subst he;exact tS m h q g j hg n
theorem Lmz(h:IC P Z){e:α->AA A}{a k j:Nat}(q:SQ o env=some (d,t,.mk (.rsl k (L.map e))))(g:WO P h0 N all l (up env d (.int .i64 L.length)) H Q)
  (f:FQ Z.sl t=some (a,j))(hg:Y1 all o env=some true)(i:Nat.blt d N=true):WO P h0 N all (o::l) env H Q:=by
 obtain⟨m,n⟩:=h.sl _ (LI f);exact TB m q g (QS hg) i
def KE(Z:NQ)(o:Oper)(env:Env):AB (Nat×Nat×AA A):=
 match o.dst with
 |none=>none
 |some d=>match o.op with
  |.call {callee:=.value (.func f),args:=⟨xs⟩,argTypes:=_}=>bif G4 Z.fn f then(match fl (NX env xs)with|.mk ax=>some (d,f,ax))else none
  |.call {callee:=.value (.tmp x),args:=⟨xs⟩,argTypes:=_}=>match BJ env (.tmp x)with
   |.mk (.fn (.func f) vf vc)=>bif G4 Z.fn f then(match fl (vf++(NX env xs++vc))with|.mk ax=>some (d,f,ax))else none
   |_=>none
  |_=>none
theorem bI(i:IC P Z){f:Nat}{args:AA A}(h:KE Z o env=some (d,f,args)):o.dst=some d/\Bh P o env H f args:=by
 unfold KE at h;split at h
 .cases h
 .rename_i p j;split at h
  .rename_i e g k a;cases q:G4 Z.fn e with
   |false=>grind
   |true=>
    rw[q]at h;simp only[KK]at h;cases h;exact⟨j,Bh.fn (i.fn _ (js q)) a rfl (Wh g).symm⟩
  .rename_i x g k a;split at h
   .rename_i e n m l;cases q:G4 Z.fn e with
    |false=>grind
    |true=>
     rw[q]at h;simp only[KK]at h;cases h;exact⟨j,Nn (i.fn _ (js q)) a rfl (QU l) (by rw[Wh])⟩
   .cases h
  .cases h
theorem Czz(i:IC P Z){r:γ}{f:Nat}{args a:AA A}{w:β->A}(π:AA Nat)(h:F.bind F'=some r)(q:∀v,F=some v->C P f a Hc (RQ w (λ_=>Hc) v))
  (e:KE Z o env=some (d,f,args))(g:∀v,F=some v->F' v=some r->WO P h0 N all l (up env d (w v)) H Q)(m:∀v,SY (w v)=some (.mk (w v)))
  (hargs:args=C3 (Af π H.length) a)(hH:π.map (λp=>H[p]?)=(Hc.map (Q9 (Af π H.length))).map some)(hπ:π.Nodup)(hg:Y1 all o env=some true)(u:Nat.blt d N=true)(j:Nat.ble h0 H.length=true):WO P h0 N all (o::l) env H Q:=by
 obtain⟨v,s,t⟩:=YE h;obtain⟨n,k⟩:=bI (H:=H) i e
 grind[Pc,QS]
theorem DzZ(x:IC P Z){K:AA Oper->Env->Qb->Prop}{m:Nat}{j:AA Oper}{e:AA Nat}{xs:AA A}{r:γ}{f:Nat}{args a:AA A}{w:β->A}(π:AA Nat)(h:F.bind F'=some r)(t:∀v,F=some v->C P f a Hc (RQ w (λ_=>Hc) v))
  (i:KE Z o (Q7 (Qf o) 0 e xs env)=some (d,f,args))(g:∀v,F=some v->F' v=some r->DS P N m j e env H K l (xs++[w v]))(s:∀v,SY (w v)=some (.mk (w v)))
  (hargs:args=C3 (Af π H.length) a)(hH:π.map (λp=>H[p]?)=(Hc.map (Q9 (Af π H.length))).map some)(hπ:π.Nodup)(hg:Y1 j.toArray o (Q7 (Qf o) 0 e xs env)=some true)(z:Nat.blt d N=true)(y:Nat.blt xs.length m=true):DS P N m j e env H K (o::l) xs:=by
 obtain⟨v,n,u⟩:=YE h;obtain⟨k,q⟩:=bI x i;exact .wo (Pc π k q (t v n) (s v) (WO.nil Y6.mk) hargs hH hπ (QS hg) z (by simp)) (g v n u) k y
theorem ln:DI H [] []:=trivial
theorem ls{ax d:AA A}{a:A}(k:DI H ax d)(h:YR a=true:=by exact rfl):DI H (a::ax) (a::d):=⟨.inl ⟨rfl,h⟩,k⟩
theorem lo{ax a:AA A}{i n k:Nat}{es:AA (AA A)}(d:DI H ax a)(hH:H[i]?=some (.row t k es):=by exact rfl)(hn:es.length=n:=by exact XZ ..):DI H (.osl i 0 n k::ax) (.rsl k es::a):=
 ⟨.inr (by grind),d⟩
theorem Cbz(p:IC P Z){r:γ}{f:Nat}{args a:AA A}{w:β->A}(h:F.bind F'=some r)(k:∀v,F=some v->C P f a [] (RQ w (λ_=>[]) v))
  (e:KE Z o env=some (d,f,args))(n:DI H args a)(g:∀v,F=some v->F' v=some r->WO P h0 N all l (up env d (w v)) H Q)(s:∀v,YF (w v)=true)
  (hg:Y1 all o env=some true)(q:Nat.blt d N=true):WO P h0 N all (o::l) env H Q:=by
 obtain⟨v,m,t⟩:=YE h;obtain⟨j,i⟩:=bI p e;refine b7 i n (k v m) ?_ ?_ (QS hg) j q
 .grind
 grind
end
def ixL:AA Nat:=[0,1,2,3,4,5,6,7,8,9,10,11,12,13,14,15,16,17,18,19,20,21,22,23,24,25,26,27,28,29,30,31,32,33,34,35,36,37,38,39,40,41,42,43,44,45,46,47,48,49,50,51,52,53,54,55,56,57,58,59,60,61,62,63]
def Oc:AA Nat->AA Nat->Nat->FN
 |a::r,b::s,j=>bif Nat.beq a j then .mk b else Oc r s j
 |_,_,j=>.mk j
mutual
def m0(sel:AA Nat):A->Bx
 |.ptr i off=>match Oc sel ixL i with
  |.mk j=>.mk (.ptr j off)
 |.osl i o n k=>match Oc sel ixL i with
  |.mk j=>.mk (.osl j o n k)
 |.map i=>match Oc sel ixL i with
  |.mk j=>.mk (.map j)
 |.fn f a c=>match V3 sel a,V3 sel c with
  |.mk a',.mk c'=>.mk (.fn f a' c')
 |a=>.mk a
def V3(sel:AA Nat):AA A->FL
 |[]=>.mk []
 |a::r=>match m0 sel a,V3 sel r with
  |.mk a',.mk r'=>.mk (a'::r')
end
inductive FV where
 |mk (e:Env)
def jS(sel:AA Nat)(env:Env):AA Nat->Env->FV
 |[],nE=>.mk nE
 |s::r,nE=>match SR env s with
  |.mk a=>match m0 sel a,jS sel env r nE with
   |.mk a',.mk e=>.mk ((s,a')::e)
def Ka(H:Qb):AA Nat->AA Nat->AA (Nat×AR)->FB
 |a::r,p::ps,[]=>match Y0 H a,Ka H r ps []with
  |some b,.mk l=>.mk (b::l)
  |none,.mk l=>.mk l
 |a::r,p::ps,(q,b)::n=>bif Nat.beq p q then(match Ka H r ps n with|.mk l=>.mk (b::l))else(match Y0 H a,Ka H r ps ((q,b)::n)with
  |some b,.mk l=>.mk (b::l)
  |none,.mk l=>.mk l)
 |_,_,_=>.mk []
def Ol(sel keep:AA Nat)(nE:Env)(nH:AA (Nat×AR))(env:Env)(H:Qb):AB (Env×Qb):=
 match jS sel env keep nE,Ka H sel ixL nH with
 |.mk e,.mk h=>some (e,h)
variable {E':β->Env}{H':β->Qb}
section
variable {P:Program} {h0 N:Nat} {c:Code} {env:Env} {H:Qb} {Q:QW}
def OZ(h0:Nat)(b:β)(E':β->Env)(H':β->Qb)(Q:QW):QW
 |.normal,env,H=>Le h0 env H (E' b) (H' b)
 |.exit id,env,H=>Q (.exit id) env H
 |.ret,env,H=>Q .ret env H
theorem JE{env:Env}{b:β}(h:Le h0 env H (E' b) (H' b)):OZ h0 b E' H' Q .normal env H:=h
theorem Ct(b:β)(sel keep:AA Nat)(nE:β->Env)(nH:β->AA (Nat×AR))(_:∀b,Ol sel keep (nE b) (nH b) env H=some (E' b,H' b))(h:TC P h0 N c env H (OZ h0 b E' H' Q))(k:∀env H,Le h0 env H (E' b) (H' b)->Q .normal env H):TC P h0 N c env H Q:=
 h.mono λx env' H' q=>by
  cases x with
  |normal=>exact k _ _ q
  |exit id=>exact q
  |ret=>exact q
theorem DD{B:Type}{b:AG S B}{E':S->Env}{H':S->Qb}(sel keep:AA Nat)(nE:S->Env)(nH:S->AA (Nat×AR))(_:∀s,Ol sel keep (nE s) (nH s) env H=some (E' s,H' s))(h:TC P h0 N c env H (LC h0 b E' H' Q))(k:∀s env H,b=.k s->Le h0 env H (E' s) (H' s)->Q .normal env H):TC P h0 N c env H Q:=oA E' H' h k
theorem Lp{B:Type}{step:S->AB (AG S B)}{E':S->Env}{H':S->Qb}{m:Nat}{s0:S}{b0:B}(sel keep:AA Nat)(nE:S->Env)(nH:S->AA (Nat×AR))(h:iter step m s0=some b0)(_:∀s,Ol sel keep (nE s) (nH s) env H=some (E' s,H' s))(hI:Le h0 env H (E' s0) (H' s0))
  (body:∀s d,step s=some d->(∀b,d=.d b->b=b0)->TC P h0 N c (E' s) (H' s) (Ss (λs env H=>Le h0 env H (E' s) (H' s)) d Q)):TC P h0 N (.loop c) env H Q:=TC.loop E' H' h hI body
end
theorem Oj{S B:Type}{d:AG S B}{x b0:B}(hb:∀b,d=.d b->b=b0)(h:some (AG.d x)=some d):x=b0:=hb x (Oi h).symm
theorem Rt{fn:Func}{env:Env}{β:Type}{e r:β}{w:β->A}{Hc:β->Qb}(h:some e=some r)(s:Nat)(π:AA Nat)(a:fn.results= #[.tmp s]:=by exact rfl)(hpre:π.take h0=List.range h0:=by exact rfl)
  (hH:π.map (λp=>H[p]?)=((Hc e).map (Q9 (Af π H.length))).map some:=by exact rfl)(hπ:π.Nodup:=by decide)(hE:Fk (Af π H.length) env [(s,w e)]:=by exact⟨rfl,trivial⟩):LJ P h0 fn (RQ w Hc r) .ret env H:=by
 cases h;exact R1 s a (Lr π hpre hH hπ hE)
theorem Cl{env:Env}{e b:β}(h:some e=some b)(π:AA Nat)(a:π.take h0=List.range h0:=by exact rfl)
  (hH:π.map (λp=>H[p]?)=((H' e).map (Q9 (Af π H.length))).map some:=by exact rfl)(hπ:π.Nodup:=by decide)(hE:Fk (Af π H.length) env (E' e):=by(repeat' (first|exact trivial|refine⟨rfl,?_⟩))):OZ h0 b E' H' Q .normal env H:=by
 cases h;exact Lr π a hH hπ hE
def ND(cat:AA Nat):AA (AA (Nat×Nat)):=cat.map λc=>match c with|0=>[(0,0)]|1=>[(0,1)]|2=>[(1,1)]|_=>[(0,0),(1,1)]
def ml(b:Nat)(cat:AA Nat):AA (AA Nat):=cat.map λc=>match c with|2=>[b]|_=>[]
def mx(cat:AA Nat):AA Bool:=cat.map λc=>match c with|1=>true|_=>false
section
variable {P:Program} {T:C2} {h0 N m b:Nat} {cat:AA Nat} {l:AA Oper} {ds:AA Nat} {env:Env} {H H1:Qb} {Q:QW} {K:AA Oper->Env->Qb->Prop}
theorem jl{P:Program}{N:Nat}{l:AA Oper}{ds:AA Nat}{xs:AA A}{env0:Env}{hB hE:Nat}:∀(ss:AA (AA (Qb×Qb))) (b:Nat),(∀i s,ss[i]?=some s->∀p∈s,JH P N l ds xs env0 hB hE (b+i) p.1 p.2)->CF P N l ds xs env0 hB hE b ss
 |[],b,h=>.nil
 |s::ss,b,h=>.cons (h 0 s rfl) (jl ss (b+1) λi s' hs=>by rw[show b+1+i=b+(i+1)by omega];simp_all)
def Zx(P:Program)(N:Nat)(cat:AA Nat)(l:AA Oper)(ds:AA Nat)(env:Env)(H H1:Qb)(zs:AA A)(j:Nat):Prop:=
 ∀p∈(ND cat).getD j [],JH P N l ds zs env H.length H.length j ([H,H1].getD p.1 []) ([H,H1].getD p.2 [])
def DB(P:Program)(N m:Nat)(cat:AA Nat)(l:AA Oper)(ds:AA Nat)(env:Env)(H H1:Qb)(K:AA Oper->Env->Qb->Prop)(r:AA Oper)(xs:AA A):Prop:=
 r=l.drop xs.length->∃ys,xs.length+ys.length=m/\(∀j,xs.length<=j->j<m->Zx P N cat l ds env H H1 (xs++ys) j)/\K (l.drop m) (FZ ds (xs++ys) env) H1
def DA(P:Program)(N m:Nat)(cat:AA Nat)(l:AA Oper)(ds:AA Nat)(env:Env)(H:Qb)(K:AA Oper->Env->Qb->Prop)(r:AA Oper)(xs:AA A):Prop:=
 r=l.drop xs.length->∃ys H1,xs.length+ys.length=m/\H.length<=H1.length/\(∀j,xs.length<=j->j<m->Zx P N cat l ds env H H1 (xs++ys) j)/\K (l.drop m) (FZ ds (xs++ys) env) H1
theorem tp{d:AA A}(f:cat.length=m)(n:∀j,0<=j->j<m->Zx P N cat l ds env H H1 d j):CF P N l ds d env H.length (H.length+0) 0 ((ND cat).map λq=>q.map λp=>([H,H1].getD p.1 [],[H,H1].getD p.2 [])):=by
 refine jl _ 0 λi s a p k=>?_;rw[Xp]at a;cases e:(ND cat)[i]? with
 |none=>grind
 |some q=>
  rw[e]at a;cases a;obtain⟨h,g,rfl⟩:=Xf.1 k;have r:i<m:=by
   grind[ND]
  have:=n i (XS _) r h (by grind)
  grind
theorem DA.len(a:H.length<=H1.length):[H,H1].all (λX=>Nat.ble (H.length+0) X.length)=true:=by
 simp_all
theorem u0(m b:Nat)(cat:AA Nat)(n:P.follows .mixedOrders=true)(j:De l m N (G6 m 0 l) (mx cat) (ml b cat) [[],[b]] (ND cat)=true)(d:Nat.beq cat.length m=true)(f:Nat.ble h0 H.length=true)
  (h:DA P N m cat l (G6 m 0 l) env H (λr e H=>WO P h0 N l.toArray r e H Q) l []):TC P h0 N (.region id l.toArray true) env H Q:=by
 obtain⟨g,H1,q,k,i,p⟩:=h rfl;have a:=XO d;exact b6 m 0 _ _ _ _ _ g [H,H1] H1 n j (by grind) rfl f (DA.len k) (by simp) rfl (tp a i) (by simp[ND,a]) p
theorem S5{xs:AA A}{o:Oper}(d:o::r=l.drop xs.length):l[xs.length]?=some o/\r=l.drop (xs.length+1):=by
 have a:xs.length<l.length:=by
  grind[List.drop_eq_nil_of_le]
 rw[Xq a]at d
 grind
theorem aO{zs:AA A}{j c:Nat}(d:Y0 cat j=some c)(h:∀p∈match c with|0=>[(0,0)]|1=>[(0,1)]|2=>[(1,1)]|_=>[(0,0),(1,1)],JH P N l ds zs env H.length H.length j ([H,H1].getD p.1 []) ([H,H1].getD p.2 [])):Zx P N cat l ds env H H1 zs j:=by
 intro p a
 grind[KQ,ND]
theorem KR{hB hE:Nat}{xs a:AA A}{o:Oper}{x:A}{X X':Qb}(e:l[xs.length]?=some o)(hdd:J5 hB hE X X'=true)(h:WO P X.length N l.toArray [o] (Q7 (Qf o) 0 ds xs env) X (Y6 (up (Q7 (Qf o) 0 ds xs env) d x) X'))(f:o.dst=some d):
  JH P N l ds (xs++x::a) env hB hE xs.length X X':=
 .woE o _ d x e f kO (he:=by
  intro s;rcases j4 (af:=Qf o) (env0:=env) (s:=s) ds xs (x::a) 0 with⟨j,y,k,g,m,i⟩|q|q
  .grind
  .grind
  grind) (hdd:=hdd) (h:=h)
theorem Y4{n:Nat}{X X':Qb}:J5 n n X X'=true:=by unfold J5;simp
theorem DA.wo{xs:AA A}{o:Oper}{x:A}(h:WO P H.length N l.toArray [o] (Q7 (Qf o) 0 ds xs env) H (Y6 (up (Q7 (Qf o) 0 ds xs env) d x) H))(k:DA P N m cat l ds env H K r (xs++[x]))
  (t:Y0 cat xs.length=some 0:=by exact rfl)(hd:o.dst=some d:=by exact rfl)(hx:Nat.blt xs.length m=true:=by exact rfl):DA P N m cat l ds env H K (o::r) xs:=by
 intro f;obtain⟨e,w⟩:=S5 f;obtain⟨g,H1,s,u,n,a⟩:=k (by grind);simp[Ve,Vd]at s n a;refine⟨x::g,H1,by grind,u,λj z y=>?_,a⟩;rcases Vy xs.length j with q|q
 .grind
 .obtain rfl:j=xs.length:=by omega
  refine aO t λp i=>?_;obtain rfl:=Vx.1 i;exact KR e Y4 h hd
theorem DA.op{xs:AA A}{o:Oper}{x:A}(h:WO P H.length N l.toArray [o] (Q7 (Qf o) 0 ds xs env) H (Y6 (up (Q7 (Qf o) 0 ds xs env) d x) H1))(k:DB P N m cat l ds env H H1 K r (xs++[x]))(hl:Nat.ble H.length H1.length=true:=by exact rfl)
  (hc:Y0 cat xs.length=some 1:=by exact rfl)(hd:o.dst=some d:=by exact rfl)(hx:Nat.blt xs.length m=true:=by exact rfl):DA P N m cat l ds env H K (o::r) xs:=by
 intro f;obtain⟨e,t⟩:=S5 f;obtain⟨g,s,n,a⟩:=k (by grind);simp[Ve,Vd]at s n a;refine⟨x::g,H1,by grind,(by simp_all),λj w u=>?_,a⟩;rcases Vy xs.length j with q|q
 .grind
 .obtain rfl:j=xs.length:=by omega
  refine aO hc λp i=>?_;obtain rfl:=Vx.1 i;exact KR e Y4 h hd
theorem KO{xs:AA A}{o:Oper}{x x':A}{H1':Qb}(h:CD P o (Q7 (Qf o) 0 ds xs env) H x H1)(a:Hg x=.mk x')(e:U3 H1=.mk H1')(k:DB P N m cat l ds env H H1' K r (xs++[x']))(f:o.dst=some d:=by exact rfl)(hg:Y1 ⟨l⟩ o (Q7 (Qf o) 0 ds xs env)=some true:=by exact rfl)(hN:Nat.blt d N=true:=by exact rfl)(hl:Nat.ble H.length H1'.length=true:=by exact rfl)
  (hc:Y0 cat xs.length=some 1:=by exact rfl)(hx:Nat.blt xs.length m=true:=by exact rfl):DA P N m cat l ds env H K (o::r) xs:=by
 rw[bA]at a;rw[ja]at e;cases a;cases e;exact .op (Jq (XR _) (QS hg) f hN h (WO.nil Y6.mk)) k hl hc f hx
theorem DB.done{xs:AA A}(a:Nat.beq xs.length m=true)(h:K r (FZ ds xs env) H1):DB P N m cat l ds env H H1 K r xs:=by
 intro f;have e:=XO a;refine⟨[],by simpa using e,λj g d=>by omega,?_⟩
 grind
theorem DB.add{xs:AA A}{o:Oper}{x:A}(h:∀ys,l[xs.length]?=some o->Zx P N cat l ds env H H1 (xs++x::ys) xs.length)(k:DB P N m cat l ds env H H1 K r (xs++[x])):DB P N m cat l ds env H H1 K (o::r) xs:=by
 intro a;obtain⟨e,d⟩:=S5 a;obtain⟨ys,g,f,i⟩:=k (by grind)
 grind
theorem DB.wo1{xs:AA A}{o:Oper}{x:A}(h:WO P H1.length N l.toArray [o] (Q7 (Qf o) 0 ds xs env) H1 (Y6 (up (Q7 (Qf o) 0 ds xs env) d x) H1))(k:DB P N m cat l ds env H H1 K r (xs++[x]))
  (f:Y0 cat xs.length=some 2:=by exact rfl)(hd:o.dst=some d:=by exact rfl):DB P N m cat l ds env H H1 K (o::r) xs:=
 .add (λg a=>aO f λp e=>by
  obtain rfl:=Vx.1 e;exact KR a Y4 h hd) k
theorem DB.wo2{xs:AA A}{o:Oper}{x:A}(h:WO P H.length N l.toArray [o] (Q7 (Qf o) 0 ds xs env) H (Y6 (up (Q7 (Qf o) 0 ds xs env) d x) H))(g:WO P H1.length N l.toArray [o] (Q7 (Qf o) 0 ds xs env) H1 (Y6 (up (Q7 (Qf o) 0 ds xs env) d x) H1))(k:DB P N m cat l ds env H H1 K r (xs++[x]))
  (f:Y0 cat xs.length=some 3:=by exact rfl)(hd:o.dst=some d:=by exact rfl):DB P N m cat l ds env H H1 K (o::r) xs:=
 .add (λi e=>aO f λp a=>by
  rcases X3.1 a with rfl|a
  .exact KR e Y4 h hd
  .obtain rfl:=Vx.1 a;exact KR e Y4 g hd) k
def WI(T:C2)(N m:Nat)(cat:AA Nat)(l:AA Oper)(ds:AA Nat)(env:Env)(H:Qb):Nat->Nat->AA Oper->AA A->AB (AA Oper×AA A)
 |0,_,r,xs=>some (r,xs)
 |_+1,_,[],_=>none
 |n+1,i,o::r,xs=>match Nat.blt i m,Y0 cat i with
  |true,some 0=>match o.dst with
   |none=>none
   |some d=>match Nat.blt d N with
    |false=>none
    |true=>match Y1 ⟨l⟩ o (Q7 (Qf o) 0 ds xs env)with
     |none=>none
     |some false=>match Fj xs (.tup [])with
      |.mk xs'=>WI T N m cat l ds env H n (i+1) r xs'
     |some true=>match D7 T o (Q7 (Qf o) 0 ds xs env) H with
      |none=>none
      |some x=>match Fj xs x with
       |.mk xs'=>WI T N m cat l ds env H n (i+1) r xs'
  |_,_=>none
theorem km(hT:Fm P T):∀(n i:Nat) {r r':AA Oper} {xs xs':AA A},i=xs.length->WI T N m cat l ds env H n i r xs=some (r',xs')->DA P N m cat l ds env H K r' xs'->DA P N m cat l ds env H K r xs
 |0,i,r,r',xs,xs',_,h,k=>by cases h;exact k
 |n+1,i,[],r',xs,xs',_,h,k=>by cases h
 |n+1,i,o::r,r',xs,xs',hi,h,k=>by
  subst hi;unfold WI at h;split at h
  .rename_i q1 q0;split at h
   .cases h
   .rename_i d hd;split at h
    .cases h
    .rename_i q2;split at h
     .cases h
     .rename_i hw;simp[Jy]at h;exact .wo (WO.skip (QS hw) hd q2 (WO.nil Y6.mk)) (km hT n _ (by simp) h k) q0 hd q1
     .rename_i hw;split at h
      .cases h
      .rename_i x hv;simp[Jy]at h;exact .wo (QM (QS hw) hd q2 (KS hT hv) (WO.nil Y6.mk)) (km hT n _ (by simp) h k) q0 hd q1
  .cases h
theorem vk{p:Bx}{r:Lx}(h:Kc [] p=some r):Kc H p=some r:=by
 unfold Kc at h⊢
 grind[Y0]
theorem kf{o:Oper}{e:Env}{x:A}(h:D7 T o e []=some x):D7 T o e H=some x:=by
 unfold D7 at h⊢;split at h<;>first|exact h|skip
 split at h
 .cases h
 grind[vk]
def Ow(T:C2)(N:Nat)(cat:AA Nat)(l:AA Oper)(ds:AA Nat)(env:Env)(H1:Qb):Nat->Nat->AA Oper->AA A->AB (AA Oper×AA A)
 |0,_,r,xs=>some (r,xs)
 |_+1,_,[],_=>none
 |n+1,i,o::r,xs=>match o.dst with
  |none=>none
  |some d=>match Nat.blt d N with
   |false=>none
   |true=>match Y1 ⟨l⟩ o (Q7 (Qf o) 0 ds xs env)with
    |none=>none
    |some false=>match Y0 cat i with
     |some 2=>(match Fj xs (.tup [])with
      |.mk xs'=>Ow T N cat l ds env H1 n (i+1) r xs')
     |some 3=>(match Fj xs (.tup [])with
      |.mk xs'=>Ow T N cat l ds env H1 n (i+1) r xs')
     |_=>none
    |some true=>match Y0 cat i with
     |some 2=>(match D7 T o (Q7 (Qf o) 0 ds xs env) H1 with
      |none=>none
      |some x=>match Fj xs x with
       |.mk xs'=>Ow T N cat l ds env H1 n (i+1) r xs')
     |some 3=>(match D7 T o (Q7 (Qf o) 0 ds xs env) []with
      |none=>none
      |some x=>match Fj xs x with
       |.mk xs'=>Ow T N cat l ds env H1 n (i+1) r xs')
     |_=>none
theorem Wz(hT:Fm P T):∀(n i:Nat) {r r':AA Oper} {xs xs':AA A},i=xs.length->Ow T N cat l ds env H1 n i r xs=some (r',xs')->DB P N m cat l ds env H H1 K r' xs'->DB P N m cat l ds env H H1 K r xs
 |0,i,r,r',xs,xs',_,h,k=>by cases h;exact k
 |n+1,i,[],r',xs,xs',_,h,k=>by cases h
 |n+1,i,o::r,r',xs,xs',hi,h,k=>by
  subst hi;unfold Ow at h;split at h
  .cases h
  .rename_i d hd;split at h
   .cases h
   .rename_i q2;split at h
    .cases h
    .rename_i hw;split at h
     .rename_i q0;simp[Jy]at h;exact .wo1 (WO.skip (QS hw) hd q2 (WO.nil Y6.mk)) (Wz hT n _ (by simp) h k) q0 hd
     .rename_i q0;simp[Jy]at h;exact .wo2 (WO.skip (QS hw) hd q2 (WO.nil Y6.mk)) (WO.skip (QS hw) hd q2 (WO.nil Y6.mk)) (Wz hT n _ (by simp) h k) q0 hd
     .cases h
    .rename_i hw;split at h
     .rename_i q0;split at h
      .cases h
      .rename_i x hv;simp[Jy]at h;exact .wo1 (QM (QS hw) hd q2 (KS hT hv) (WO.nil Y6.mk)) (Wz hT n _ (by simp) h k) q0 hd
     .rename_i q0;split at h
      .cases h
      .rename_i x hv;simp[Jy]at h;exact .wo2 (QM (QS hw) hd q2 (KS hT (kf hv)) (WO.nil Y6.mk)) (QM (QS hw) hd q2 (KS hT (kf hv)) (WO.nil Y6.mk)) (Wz hT n _ (by simp) h k) q0 hd
     .cases h
end
def V4(L:AA (Nat×AA (Nat×Nat)))(fs:AA (Nat×Nat×Nat)):Bool:=
 fs.all λe=>match FQ L e.1 with
  |some pl=>(match Y0 pl e.2.1 with
   |some q=>Nat.beq q.1 e.2.2&& !(Nat.beq q.2 0)
   |none=>false)
  |none=>false
theorem PL.get{fs:AA Field}{a:AA (Nat×Nat)}(h:PL P fs a):∀{f off n:Nat},Y0 a f=some (off,n)->∃fd,fs[f]?=some fd/\fd.offset=off/\ ∀w,(sizeOf fd.type).run P w=.ok n w:=by
 induction h with
 |nil=>intro f off n h;cases h
 |cons h k e=>
  intro f off n d;cases f with
  |zero=>cases d;grind
  |succ f=>grind[Y0]
theorem uA{L:AA (Nat×AA (Nat×Nat))}{fs:AA (Nat×Nat×Nat)}(l:∀e∈L,Sf P e.1 e.2)(h:V4 L fs=true):∀e∈fs,∃n,QK P e.1 e.2.1 e.2.2 n:=by
 intro e d;have:=Xt.1 h e d;split at this
 .rename_i u a;split at this
  .rename_i q m;obtain⟨j,n⟩:=q;simp only[XU,Bool.not_eq_true']at this;have k:=XO this.1;obtain⟨g,i,p⟩:=l _ (LI a);obtain⟨r,t,s,f⟩:=PL.get p m;refine⟨n,⟨⟨_,r,i,by grind,s.trans k,f,?_⟩⟩⟩
   grind[Nat.beq_refl]
  .cases this
 .cases this
section
variable {P:Program} {Z:NQ} {h0 N:Nat} {all:Array Oper} {o:Oper} {l:AA Oper} {env:Env} {H:Qb} {Q:QW} {d:Nat}
theorem Cdz(q:IC P Z){r:γ}{f:Nat}{args a:AA A}{w:β->A}{Hr:β->Qb}(π:AA Nat)(h:F.bind F'=some r)(m:∀v,F=some v->C P f a Hc (RQ w Hr v))
  (e:KE Z o env=some (d,f,args))(g:∀v,F=some v->F' v=some r->WO P h0 N all l (up env d (Je (Af π H.length) (w v))) (YI H π ((Hr v).map (Q9 (Af π H.length)))) Q)
  (hargs:args=C3 (Af π H.length) a)(hH:π.map (λp=>H[p]?)=(Hc.map (Q9 (Af π H.length))).map some)(hπ:π.Nodup)(hg:Y1 all o env=some true)(s:Nat.blt d N=true)(i:Nat.ble h0 H.length=true):WO P h0 N all (o::l) env H Q:=by
 obtain⟨v,n,t⟩:=YE h;obtain⟨k,j⟩:=bI (H:=H) q e;refine QC π j (m v n) ?_ hargs hH hπ (QS hg) k s i
 grind
end
inductive FLL where
 |mk (l:List (List A))
def V2(sel:AA Nat):AA (AA A)->FLL
 |[]=>.mk []
 |a::r=>match V3 sel a,V2 sel r with
  |.mk a',.mk r'=>.mk (a'::r')
inductive FBk where
 |mk (b:AR)
def jH(sel:AA Nat):AR->FBk
 |.cells t cs=>match V3 sel cs with
  |.mk l=>.mk (.cells t l)
 |.rowr t k es=>match V2 sel es with
  |.mk l=>.mk (.rowr t k l)
 |.wins t a n c=>match Oc sel ixL a with
  |.mk a'=>.mk (.wins t a' n c)
 |.ents t a b es=>match Oc sel ixL a,Oc sel ixL b with
  |.mk a',.mk b'=>.mk (.ents t a' b' es)
 |b=>.mk b
def TO(H:Qb)(sel:AA Nat):AA Nat->FB
 |[]=>.mk []
 |a::r=>match Y0 H a with
  |some b=>(match jH sel b,TO H sel r with
   |.mk b',.mk l=>.mk (b'::l))
  |none=>.mk []
def dS(sel sl:AA Nat)(env:Env)(H:Qb):AB (Env×Qb):=
 match jS sel env sl [],TO H sel sel with
 |.mk e,.mk h=>some (e,h)
theorem Rx{fn:Func}{env E':Env}{H':Qb}{Qr:A->Qb->Prop}{e:A}(π sl:AA Nat)(_:dS π sl env H=some (E',H'))(d:Df P fn E' H' e)(f:Qr e H')(a:π.take h0=List.range h0:=by exact rfl)
  (hH:π.map (λp=>H[p]?)=(H'.map (Q9 (Af π H.length))).map some:=by exact rfl)(hπ:π.Nodup:=by decide)(hE:Fk (Af π H.length) env E':=by(repeat' (first|exact trivial|refine⟨rfl,?_⟩))):LJ P h0 fn Qr .ret env H:=
 ⟨E',H',e,Lr π a hH hπ hE,d,f⟩
variable {T:Type}
def N3:AA T->T->AA T->Prop:=λl x rem=>l=x::rem
def F6{S T B:Type}(step:S->T->AB (AG S B)):AA T->S->AB (AG S B)
 |[],s=>some (.k s)
 |x::l,s=>(step s x).bind λd=>match d with
  |.k s'=>F6 step l s'
  |.d b=>some (.d b)
def KL{S T B:Type}(step:S->AB (AA T×AG S B)):Nat->S->AB (AA T×B)
 |0,_=>none
 |n+1,s=>(step s).bind λp=>match p.2 with
  |.k s'=>(KL step n s').bind λq=>some (p.1++q.1,q.2)
  |.d b=>some (p.1,b)
variable {B:Type}
def nL(h1:Nat)(env:Env)(Q:QW)(d:AG S B)(Hp:S->Qb):QW
 |.normal,env',H'=>∃s,d=.k s/\Le h1 env' H' [] (Hp s)
 |.exit id,env',H'=>(∃b,d=.d b)/\ ∃H2,Le h1 env' H' [] H2/\Q (.exit id) env H2
 |.ret,env',H'=>(∃b,d=.d b)/\ ∃H2,Le h1 env' H' [] H2/\Q .ret env H2
theorem oI{S B:Type}{h1:Nat}{env:Env}{H':Qb}{s:S}{d:AG S B}{Hp:S->Qb}(e:some (AG.k s)=some d)(h:Le h1 env' H' [] (Hp s)):nL h1 env Q d Hp .normal env' H':=⟨s,(Oi e).symm,h⟩
theorem rS{r:Operand}{ps:AA Nat}{assign body:Code}{env:Env}{f:FuncId}{g a:AA A}{T B:Type}{enc:T->AA A}{xs:AA T}{step:S->T->AB (AG S B)}{z:S}{D:AG S B}
  (π:AA Nat)(Hp:S->Qb)(h:F6 step xs z=some D)(n:K4 P f a Hc enc N3 xs)(m:∀x,(enc x).length=ps.length)(O:∀args w,(callFunc f args).run P w=.ok (.enter f args) w)
  (V:Nat.ble h0 H.length=true)(hg:AM env r=.fn (.func f) [] g)(hargs:g=C3 (Af π H.length) a)(hH:π.map (λp=>H[p]?)=(Hc.map (Q9 (Af π H.length))).map some)(hπ:π.Nodup)(y:(ps.all λp=>Nat.blt p N)=true)
  (i:Le H.length env (Nb H π) env (Hp z))
  (k:∀s x d,step s x=some d->(∀b,d=.d b->D=.d b)->TC P H.length N assign (V' ps (enc x) env) (Hp s) λe env1 H1=>e=.normal/\TC P H.length N body env1 H1 (nL H.length env Q d Hp))
  (j:∀s,D=.k s->Q .normal env (Hp s)):TC P h0 N (.rangeFunc r ps.toArray assign body) env H Q:=by
 refine TC.rangeFunc π Hp (λs l=>F6 step l s=some D) z (by simp_all) hg hargs hH hπ y O n m i h ?_ ?_
 .rintro s l x rem t rfl;obtain⟨d,R,t⟩:=YE t;refine(k s x d R ?_).mono ?_
  .grind
  .rintro e env1 H1 ⟨G,L⟩;refine⟨G,L.mono ?_⟩;intro J F H2 q;cases J with
   |normal=>
    obtain⟨E,rfl,i⟩:=q;exact⟨Hp E,i,E,t,rfl⟩
   |exit id=>
    obtain⟨_,H3,u,q⟩:=q;exact⟨H3,u,q⟩
   |ret=>
    obtain⟨_,H3,u,q⟩:=q;exact⟨H3,u,q⟩
 .intro s M;exact j s (Oi M).symm
section
variable {T:Type} {X:CT T} {P:Program} {h0 N:Nat} {c:Code} {env:Env} {H:Qb} {st:DW T} {Q:YT T}
def WQ(h0:Nat)(E:S->Env)(Hp:S->Qb)(d:AG S B)(rest:AA T)(Q:YT T):YT T
 |.normal,env,H,st=>∃s,d=.k s/\Le h0 env H (E s) (Hp s)/\st=.on rest
 |.exit id,env,H,st=>Q (.exit id) env H st
 |.ret,env,H,st=>Q .ret env H st
theorem xA{S B:Type}{step:S->AB (AA T×AG S B)}{E:S->Env}{Hp:S->Qb}{m:Nat}{i:S}{l rem:AA T}{b:B}(h:KL step m i=some (l,b))(w:Le h0 env H (E i) (Hp i))
  (body:∀s zs d rest,step s=some (zs,d)->(∀b',d=.d b'->b'=b/\rest=rem)->An X P h0 N c (E s) (Hp s) (.on (zs++rest)) (WQ h0 E Hp d rest Q)):An X P h0 N (.loop c) env H (.on (l++rem)) Q:=by
 refine rT (I:=λn env H r=>∃s a,KL step n s=some (a,b)/\r=.on (a++rem)/\Le h0 env H (E s) (Hp s)) ?_ ⟨i,l,h,rfl,w⟩;rintro n env H r ⟨s,a,f,rfl,k⟩;cases n with
 |zero=>cases f
 |succ n=>
  obtain⟨⟨zs,d⟩,t,f⟩:=YE f;refine WS k ?_;cases d with
  |k y=>
   obtain⟨⟨u,G⟩,z,f⟩:=YE f;cases f;rw[Ve];refine(body s zs (.k y) (u++rem) t (λb' e=>by cases e)).mono ?_;rintro x g H' j q;cases x with
   |normal=>
    obtain⟨F,e,p,rfl⟩:=q;cases e;exact⟨n,Xo n,_,_,z,rfl,p⟩
   |exit id=>exact q
   |ret=>exact q
  |d b'=>
   cases f;refine(body s _ (.d b) rem t (λb' e=>by cases e;exact⟨rfl,rfl⟩)).mono ?_;rintro x g H' j q;cases x with
   |normal=>obtain⟨F,e,_⟩:=q;cases e
   |exit id=>exact q
   |ret=>exact q
def KA(X:CT T)(P:Program)(h0 N:Nat):AA Kf->YT T->YT T
 |[],Q=>Q
 |.seq c::k,Q=>V7 X P h0 N c (KA X P h0 N k Q)
 |.blo id::k,Q=>SK id (KA X P h0 N k Q)
 |.unr c::k,Q=>λ_ _ _ _=>False
@[reducible] def Nr(X:CT T)(P:Program)(h0 N:Nat):Cf->AA Kf->Env->Qb->DW T->YT T->Prop
 |.code c,k,env,H,st,Q=>An X P h0 N c env H st (KA X P h0 N k Q)
 |.ops all l,k,env,H,st,Q=>Co X P h0 N all l env H st (KA X P h0 N k Q)
 |.out x,k,env,H,st,Q=>KA X P h0 N k Q x env H st
def m7:Cf->AA Kf->Bool
 |.code (.loop _),_=>false
 |.out _,.unr _::_=>false
 |_,_=>true
theorem xR{Tx:C2}(i:Fm P Tx){c d:Cf}{k f:AA Kf}{env:Env}{H':Qb}(h:Sd Tx h0 N c k env H=some (d,f,env',H'))(a:m7 c k=true)(g:Nr X P h0 N d f env' H' st Q):Nr X P h0 N c k env H st Q:=by
 unfold Sd at h;split at h
 .cases h;exact An.seq g
 .cases h;exact An.block g
 .cases a
 .cases h;exact An.skip g
 .cases h;exact An.ret g
 .cases h;exact An.exit g
 .cases h;exact An.region g
 .grind[An.cond,QU]
 .cases h;exact Co.nil g
 .split at h
  .rename_i q;cases h;exact Co.step (nr i q (WO.nil ⟨rfl,g⟩))
  .cases h
 .cases h;exact g
 .cases h;exact g
 .cases h;exact g
 .cases h;exact g
 .split at h
  .rename_i q;have e:=XO q;show(bif Nat.beq _ _ then _ else _)
   grind
  .show(bif Nat.beq _ _ then _ else _)
   grind
 .cases h;exact g
 .cases a
 .cases a
 .cases a
 .cases h
def Oe(Tx:C2)(h0 N:Nat):Nat->Cf->AA Kf->Env->Qb->AB (Cf×AA Kf×Env×Qb)
 |0,c,k,env,H=>some (c,k,env,H)
 |n+1,c,k,env,H=>match m7 c k with
  |true=>(match Sd Tx h0 N c k env H with
   |some (c',k',env',H')=>Oe Tx h0 N n c' k' env' H'
   |none=>none)
  |false=>none
theorem Wb{Tx:C2}(hT:Fm P Tx):∀(n:Nat) {c c':Cf} {k k':AA Kf} {env env':Env} {H H':Qb},Oe Tx h0 N n c k env H=some (c',k',env',H')->Nr X P h0 N c' k' env' H' st Q->Nr X P h0 N c k env H st Q
 |0,c,c',k,k',env,env',H,H',h,g=>by cases h;exact g
 |n+1,c,c',k,k',env,env',H,H',h,g=>by
  unfold Oe at h;split at h
  .rename_i hn;split at h
   .rename_i e;exact xR hT e hn (Wb hT n h g)
   .cases h
  .cases h
theorem An.lf{k:AA Kf}(h:TC P h0 N c env H (λx env H=>KA X P h0 N k Q x env H st)):An X P h0 N c env H st (KA X P h0 N k Q):=An.lift h
theorem ji{all:Array Oper}{o:Oper}{x:T}{l:AA T}{e:T->A}{z:Operand}{g:Array TypeId}(hE:X.enc=λx=>[e x])(j:X.nx=N3)(a:o.op=.call {callee:=.value y,args:= #[z],argTypes:=g})(h:AM env y=.fn (.yield X.l) [] [])(f:AM env z=e x)(i:YR (e x)=true)
  (k:Co X P h0 N all r (up env d (.bool true)) H (.on l) Q)(m:Co X P h0 N all r (up env d (.bool false)) H (.off l) Q)(hg:Qy all o env true:=by exact rfl)(hd:o.dst=some d:=by exact rfl)(hNd:Nat.blt d N=true:=by exact rfl):Co X P h0 N all (o::r) env H (.on (x::l)) Q:=by
 refine Co.yield (by rw[j];rfl) hg hd hNd ?_ ?_
 .rw[hE];exact pp a h f i
 grind
theorem Co.y2{all:Array Oper}{o:Oper}{x:T}{l:AA T}{g h:T->A}{j k:Operand}{n:Array TypeId}(hE:X.enc=λx=>[g x,h x])(q:X.nx=N3)(m:o.op=.call {callee:=.value y,args:= #[j,k],argTypes:=n})(p:AM env y=.fn (.yield X.l) [] [])(a:AM env j=g x)(f:AM env k=h x)(e:YR (g x)=true)(i:YR (h x)=true)
  (s:Co X P h0 N all r (up env d (.bool true)) H (.on l) Q)(t:Co X P h0 N all r (up env d (.bool false)) H (.off l) Q)(hg:Qy all o env true:=by exact rfl)(hd:o.dst=some d:=by exact rfl)(hNd:Nat.blt d N=true:=by exact rfl):Co X P h0 N all (o::r) env H (.on (x::l)) Q:=by
 refine Co.yield (by rw[q];rfl) hg hd hNd ?_ ?_
 .rw[hE];exact xm m p a f e i
 grind
end
variable {R:Type}
def yl(x:T)(k:AB (AA T×R)):AB (AA T×R):=k.bind λp=>some (x::p.1,p.2)
def ap(a:AB (AA T×B))(k:B->AB (AA T×R)):AB (AA T×R):=a.bind λp=>(k p.2).bind λq=>some (p.1++q.1,q.2)
theorem jW{T R:Type}{x:T}{k:AB (AA T×R)}{a:AA T}{v:R}(h:yl x k=some (a,v)):∃zs,k=some (zs,v)/\a=x::zs:=by
 obtain⟨⟨zs,e⟩,f,d⟩:=YE h
 grind
theorem nB{T B R:Type}{a:AB (AA T×B)}{k:B->AB (AA T×R)}{d:AA T}{v:R}(h:ap a k=some (d,v)):∃y1 b y2,a=some (y1,b)/\k b=some (y2,v)/\d=y1++y2:=by
 obtain⟨⟨y1,b⟩,i,e⟩:=YE h;obtain⟨⟨y2,f⟩,g,j⟩:=YE e
 grind
section
variable {T:Type} {X:CT T} {P:Program} {h0 N:Nat} {c c':Code} {env:Env} {H:Qb} {st:DW T} {Q:YT T}
def jQ(h0:Nat)(b:β)(E':β->Env)(H':β->Qb)(rem:AA T)(Q:YT T):YT T
 |.normal,env,H,st=>Le h0 env H (E' b) (H' b)/\st=.on rem
 |.exit id,env,H,st=>Q (.exit id) env H st
 |.ret,env,H,st=>Q .ret env H st
theorem pP(b:β)(rem:AA T)(sel keep:AA Nat)(nE:β->Env)(nH:β->AA (Nat×AR))(_:∀b,Ol sel keep (nE b) (nH b) env H=some (E' b,H' b))(h:An X P h0 N c env H st (jQ h0 b E' H' rem Q))(k:∀env H,Le h0 env H (E' b) (H' b)->Q .normal env H (.on rem)):An X P h0 N c env H st Q:=
 h.mono λx env' H' st' q=>by
  cases x with
  |normal=>obtain⟨q1,rfl⟩:=q;grind
  |exit id=>exact q
  |ret=>exact q
theorem nF{b:β}{rem:AA T}(h:Le h0 env H (E' b) (H' b)):jQ h0 b E' H' rem Q .normal env H (.on rem):=⟨h,rfl⟩
theorem jU{b:β}{rem:AA T}(h:Q .ret env H st):jQ h0 b E' H' rem Q .ret env H st:=h
theorem nM{B:Type}{step:S->AB (AA T×AG S B)}{E':S->Env}{H':S->Qb}{m:Nat}{s0:S}{ys rem:AA T}{b:B}(sel keep:AA Nat)(nE:S->Env)(nH:S->AA (Nat×AR))(h:KL step m s0=some (ys,b))(_:∀s,Ol sel keep (nE s) (nH s) env H=some (E' s,H' s))(hI:Le h0 env H (E' s0) (H' s0))
  (body:∀s zs d rest,step s=some (zs,d)->(∀b',d=.d b'->b'=b/\rest=rem)->An X P h0 N c (E' s) (H' s) (.on (zs++rest)) (WQ h0 E' H' d rest Q)):An X P h0 N (.loop c) env H (.on (ys++rem)) Q:=xA h hI body
theorem O4{S B:Type}{E':S->Env}{H':S->Qb}{s:S}{d:AG S B}{zs rest:AA T}(e:some ([],AG.k s)=some (zs,d))(h:Le h0 env H (E' s) (H' s)):WQ h0 E' H' d rest Q .normal env H (.on (zs++rest)):=by
 cases e;exact⟨s,rfl,h,rfl⟩
theorem nw{S B:Type}{E':S->Env}{H':S->Qb}{d:AG S B}{rest:AA T}(h:Q (.exit id) env H st):WQ h0 E' H' d rest Q (.exit id) env H st:=h
theorem jd{S B:Type}{E':S->Env}{H':S->Qb}{d:AG S B}{rest:AA T}(h:Q .ret env H st):WQ h0 E' H' d rest Q .ret env H st:=h
theorem Oy{S B:Type}{d:AG S B}{x b:B}{zs rest rem:AA T}(a:∀b',d=.d b'->b'=b/\rest=rem)(h:some ([],AG.d x)=some (zs,d)):zs=[]/\b=x/\rest=rem:=by
 grind
theorem su{f:FuncId}{fn:Func}{c:Code}{a:AA A}{enc:T->AA A}{xs:AA T}(d:P.funcs[f]?=some fn)(i:fn.body=some c)(j:fn.ntmps=N)(e:Nat.ble (a.length+1) N=true)(g:fn.results= #[])
  (h:∀X,X.enc=enc->X.nx=N3->An X P H.length N c (NZ 0 (.fn (.yield X.l) [] []::a)) H (.on (xs++[])) Zw):K4 P f a H enc N3 xs:=by
 grind[tI]
end
open Go.MapKept
section
variable {fr ro:Nat->Prop} {U:AZ} {H:Qb} {w:World}
end
end Go.Sw
namespace Go.Sw
open Go.MapKept
def D6{α β:Type}(ek:α->A)(ev:β->AA A)(l:AA (α×AB (AA β))):AA (A×AB (AA (AA A))):=l.map λp=>(ek p.1,p.2.map (List.map ev))
def aF{α β:Type}[DecidableEq α](l:AA (α×AB (AA β)))(x:α):AA (α×AB (AA β)):=l.map λp=>bif p.1=x then(p.1,none)else p
section
variable {P:Program} {kt:TypeId} {α β:Type} [DecidableEq α] {ek:α->A} {ev:β->AA A} {ro:Nat->Prop} {w:World} {t k:Nat} (K:Jj P kt ek)
include K
theorem n8{x:α}:∀{l:AA (α×AB (AA β))} {es:AA MapEntry},MO ro w t k (D6 ek ev l) es->MO ro w t k (D6 ek ev (aF l x)) es
 |[],es,h=>h
 |p::l,es,h=>by
  obtain⟨e,l',rfl,h1,h2,h3⟩:=h;by_cases q:p.1=x
  .refine⟨e,l',rfl,by grind,λrows hr=>?_,n8 h3⟩
   grind
  .refine⟨e,l',rfl,by grind,(by grind),n8 h3⟩
omit K
theorem kw{x:α}{c:Nat}:∀{l:AA (α×AB (AA β))} {es:AA MapEntry},Hj (D6 ek ev (aF l x)) es c->Hj (D6 ek ev l) es c
 |[],es,h=>by cases es<;>exact h.elim
 |p::l,[],h=>h.elim
 |p::l,e::es,h=>by
  rcases h with⟨h1,h2⟩|h
  .by_cases q:p.1=x
   .grind
   .exact .inl ⟨by grind,h2⟩
  .exact .inr (kw h)
theorem xU{x:α}:∀{l:AA (α×AB (AA β))} {es:AA MapEntry},Oa (D6 ek ev l) es->Oa (D6 ek ev (aF l x)) es
 |[],es,h=>by cases es<;>trivial
 |p::l,[],h=>trivial
 |p::l,e::es,h=>by
  obtain⟨h1,h2⟩:=h;refine⟨λc q1 q2 q3=>?_,xU h2⟩;by_cases q:p.1=x
  .grind
  .exact h1 c (by grind) q2 (kw q3)
include K
theorem MO.find:∀{l:AA (α×AB (AA β))} {es:AA MapEntry},MO ro w t k (D6 ek ev l) es->∀(x:α),(es.map (·.key)).Nodup->
  ((∀e:MapEntry,e∈es->e.key≠Q0 (ek x))->Yv l x=none)/\
  (∀(j:Nat) (e:MapEntry),es[j]?=some e->e.key=Q0 (ek x)->∃q,Yv l x=some q/\(∀rows,q=some rows->SO ro w t k (rows.map ev) e.val)/\
   ∀c p n cap,q.isSome=true->e.val=.slice (some ⟨c,p,none⟩) n cap->Hj (D6 ek ev l) es c/\(Oa (D6 ek ev l) es->¬Hj (D6 ek ev (aF l x)) es c))
 |[],es,h,x,_=>by
  cases(show es=[]from h);exact⟨λ_=>rfl,(by simp)⟩
 |p::l,es,h,x,hn=>by
  obtain⟨e0,l',rfl,h1,h2,h3⟩:=h;have hk:=VR.val (K.scl _) h1;simp only[Vf,List.nodup_cons]at hn;obtain⟨a1,a2⟩:=MO.find (l:=l) h3 x hn.2;by_cases hp:p.1=x
  .subst hp;constructor
   .grind
   .intro j e he hx;cases j with
    |zero=>
     simp only[XD,Option.some.injEq]at he;subst he;refine⟨p.2,by simp[Yv],(by grind),λc p' n cap hs hv=>⟨.inl (by grind),λhd hq=>?_⟩⟩;rcases hq with⟨q1,_⟩|hq
     .simp at q1
     .exact hd.1 c (by grind) ⟨p',n,cap,hv⟩ (kw (l:=l) hq)
    |succ j=>
     grind
  .have e1:Yv (p::l) x=Yv l x:=by simp[Yv,hp]
   rw[e1];constructor
   .grind
   .intro j e he hx;cases j with
    |zero=>
     simp only[XD,Option.some.injEq]at he;subst he;exact absurd (K.inj _ _ (hk.symm.trans hx)) hp
    |succ j=>
     obtain⟨q,g,m,f⟩:=a2 j e (by grind) hx;refine⟨q,g,m,λc p' n cap hs hv=>?_⟩;obtain⟨a,i⟩:=f c p' n cap hs hv;refine⟨.inr a,λhd hq=>?_⟩;rcases hq with⟨q1,d⟩|hq
     .exact hd.1 c (by grind) d a
     .exact i hd.2 hq
end
section
variable {P:Program} {o:Oper} {env:Env} {H:Qb}
variable {T kt et:Nat} {α β:Type} [DecidableEq α] {ek:α->A} {ev:β->AA A} {x y:Operand} {i t k:Nat} {l:AA (α×AB (AA β))} {key:α} {rows:AA β}
end
end Go.Sw
namespace Go.Sw
open Go.MapKept
theorem MO.append{ro:Nat->Prop}{w:World}{t k:Nat}:∀{l m:AA (A×AB (AA (AA A)))} {es fs:AA MapEntry},MO ro w t k l es->MO ro w t k m fs->MO ro w t k (l++m) (es++fs)
 |[],m,es,fs,h,q=>by cases(show es=[]from h);exact q
 |p::l,m,es,fs,h,q=>by
  obtain⟨e,l',rfl,h1,h2,h3⟩:=h;exact⟨e,l'++fs,rfl,h1,h2,MO.append h3 q⟩
theorem MO.length{ro:Nat->Prop}{w:World}{t k:Nat}:∀{l:AA (A×AB (AA (AA A)))} {es:AA MapEntry},MO ro w t k l es->es.length=l.length
 |[],es,h=>by cases(show es=[]from h);rfl
 |p::l,es,h=>by
  obtain⟨e,l',rfl,h1,h2,h3⟩:=h;simp[MO.length h3]
def m4(v:Value)(c:Nat):Prop:=∃p n cap,v=.slice (some ⟨c,p,none⟩) n cap
section
variable {P:Program} {kt:TypeId} {α β:Type} [DecidableEq α] {ek:α->A} {ev:β->AA A} {ro:Nat->Prop} {w:World} {t k:Nat} (K:Jj P kt ek)
def G5{α β:Type}[DecidableEq α](l:AA (α×AB (AA β)))(x:α)(rows:AA β):AA (α×AB (AA β)):=l.map λp=>bif p.1=x then(p.1,some rows)else p
include K
theorem qZ{x:α}{rows:AA β}:∀{l:AA (α×AB (AA β))} {es:AA MapEntry},MO ro w t k (D6 ek ev l) es->(∀e∈es,e.key≠Q0 (ek x))->G5 l x rows=l
 |[],es,h,q=>rfl
 |p::l,es,h,q=>by
  obtain⟨e,l',rfl,h1,h2,h3⟩:=h;have hk:=VR.val (K.scl _) h1;have hp:p.1≠x:=(by grind);have:=qZ h3 (λe he=>q e (by simp[he])) (rows:=rows)
  simp_all[G5]
theorem MO.put{x:α}{rows:AA β}{v:Value}(m:SO ro w t k (rows.map ev) v):∀{l:AA (α×AB (AA β))} {es:AA MapEntry} {j:Nat} {e:MapEntry},MO ro w t k (D6 ek ev l) es->
  (es.map (·.key)).Nodup->es[j]?=some e->e.key=Q0 (ek x)->
  MO ro w t k (D6 ek ev (G5 l x rows)) (es.modify j λe=>{e with key:=Q0 (ek x),val:=v})/\
  (∀c,Hj (D6 ek ev (G5 l x rows)) (es.modify j λe=>{e with key:=Q0 (ek x),val:=v}) c->Hj (D6 ek ev l) es c\/m4 v c)/\
  (Oa (D6 ek ev l) es->(∀c,Hj (D6 ek ev l) es c->¬m4 v c)->Oa (D6 ek ev (G5 l x rows)) (es.modify j λe=>{e with key:=Q0 (ek x),val:=v}))
 |[],es,j,e,h,hn,he,hk=>by cases(show es=[]from h);simp at he
 |p::l,es,j,e,h,hn,he,hk=>by
  obtain⟨e0,l',rfl,h1,h2,h3⟩:=h;have hk0:=VR.val (K.scl _) h1;simp only[Vf,List.nodup_cons]at hn;cases j with
  |zero=>
   simp[XD,Option.some.injEq]at he;subst he;have hp:=K.inj _ _ (hk0.symm.trans hk);have e0':G5 l x rows=l:=qZ K h3 λe he z=>hn.1 (by rw[hk, <- z];exact VC he);have e1:G5 (p::l) x rows=(p.1,some rows)::l:=by
    have:G5 (p::l) x rows=(p.1,some rows)::G5 l x rows:=by simp[G5,hp]
    rw[this,e0']
   rw[e1];refine⟨⟨_,l',rfl,?_,?_,h3⟩,?_,?_⟩
   .rw[<- hp];exact Wl (K.scl _)
   .intro f u;cases u;exact m
   .rintro c (⟨_,q⟩|q)
    .exact .inr q
    .exact .inl (.inr q)
   .rintro⟨n,d⟩ a;exact⟨λc _ q z=>a c (.inr z) q,d⟩
  |succ j=>
   have hp:p.1≠x:=by
    intro q;refine hn.1 (Xf.2 ⟨e,VD he,?_⟩);rw[hk,hk0,q]
   obtain⟨B,r,s⟩:=MO.put m h3 hn.2 he hk;have e1:G5 (p::l) x rows=p::G5 l x rows:=by simp[G5,hp]
   rw[e1];refine⟨⟨_,_,rfl,h1,h2,B⟩,?_,?_⟩
   .rintro c (q|q)
    .exact .inl (.inl q)
    .exact(r c q).imp .inr id
   .rintro⟨n,d⟩ a;refine⟨λc g i z=>?_,s d λc y=>a c (.inr y)⟩;rcases r c z with z|z
    .exact n c g i z
    .exact a c (.inl ⟨g,i⟩) z
end
section
variable {P:Program} {o:Oper} {env:Env} {H:Qb}
variable {T kt et:Nat} {α β:Type} [DecidableEq α] {ek:α->A} {ev:β->AA A} {x y zz:Operand} {i j t k n:Nat} {l m:AA (α×AB (AA β))} {key:α} {rows:AA β}
end
end Go.Sw
namespace Go.Sw
open Go.MapKept
section
variable {fr ro:Nat->Prop} {U:AZ} {H:Qb} {w:World}
theorem MO.er{t k:Nat}:∀{es:AA (A×AB (AA (AA A)))} {l:AA MapEntry},MO ro w t k es l->ER ro [] w (es.map λe=>(e.1,.any)) l
 |[],_,h=>h
 |x::r,_,⟨e,l',h1,h2,h3,h4⟩=>⟨e,l',h1,h2,trivial,MO.er h4⟩
end
section
variable {P:Program} {o:Oper} {env:Env} {H:Qb} {T kt et i t k:Nat} {x:Operand} {es:AA (A×AB (AA (AA A)))}
end
section
variable {P:Program} {o:Oper} {env:Env} {H:Qb}
variable {T kt et:Nat} {α β:Type} [DecidableEq α] {ek:α->A} {ev:β->AA A} {x y zz:Operand} {i j t k n:Nat} {l m:AA (α×AB (AA β))} {key:α} {rows:AA β}
end
end Go.Sw
namespace Go.Sw
open Go.MapKept
section
variable {P:Program} {o:Oper} {env:Env} {H:Qb}
variable {T kt et:Nat} {α β:Type} [DecidableEq α] {ek:α->A} {ev:β->AA A} {x y zz:Operand} {i j t k n:Nat} {l m:AA (α×AB (AA β))} {key:α} {rows:AA β}
end
end Go.Sw
namespace Go.Sw
abbrev IG:=AA (Nat×Nat×Nat)
def WA:Nat->Nat->AA (Nat×Nat)
 |lo,0=>[(lo,lo)]
 |lo,n+1=>(lo,lo)::WA (lo+1) n
def mn(p:Nat×Nat×Nat):AA (Nat×Nat):=bif Nat.beq p.1 1 then[(p.2.1,p.2.1+1)]else WA p.2.1 (p.2.2-p.2.1)
def NC(cat:IG):AA (AA (Nat×Nat)):=cat.map mn
def mj(bs:AA Nat)(cat:IG):AA (AA Nat):=cat.map λp=>bs.take p.2.1
def mw(cat:IG):AA Bool:=cat.map λp=>Nat.beq p.1 1
def Z6(bs:AA Nat):AA (AA Nat):=(List.range (bs.length+1)).map bs.take
theorem bR:∀(n lo:Nat),∀p∈WA lo n,p.1=p.2
 |0,lo,p,h=>by cases h with|head=>rfl|tail _ h=>cases h
 |n+1,lo,p,h=>by
  rcases X3.1 h with rfl|h
  .rfl
  .exact bR n _ p h
variable {Zs:AA Qb}{hi:Nat}
section
variable {P:Program} {T:C2} {h0 N m:Nat} {bs:AA Nat} {cat:IG} {l:AA Oper} {ds:AA Nat} {env:Env} {H:Qb} {Hs:AA Qb} {Q:QW} {K:AA Oper->Env->Qb->Prop}
def M5(P:Program)(N:Nat)(cat:IG)(l:AA Oper)(ds:AA Nat)(env:Env)(n:Nat)(Hs:AA Qb)(zs:AA A)(j:Nat):Prop:=
 ∀p∈(NC cat).getD j [],JH P N l ds zs env n n j (Hs.getD p.1 []) (Hs.getD p.2 [])
def WL:AA (Nat×AB AR)->Qb->Prop
 |[],_=>True
 |p::r,Z=>Z[p.1]?=p.2/\WL r Z
def DK(P:Program)(N m:Nat)(bs:AA Nat)(cat:IG)(l:AA Oper)(ds:AA Nat)(env:Env)(n:Nat)(K:AA Oper->Env->Qb->Prop)(B:AA (Nat×AB AR))(Hs:AA Qb)(X:Qb)(r:AA Oper)(xs:AA A):Prop:=
 r=l.drop xs.length->∃ys Zs Y,xs.length+ys.length=m/\Hs.length+Zs.length=bs.length/\((∀Z∈Zs,n<=Z.length)/\(Hs.reverse++X::Zs).getD bs.length []=Y/\ ∀Z∈Zs,WL B Z)/\(∀j,xs.length<=j->j<m->M5 P N cat l ds env n (Hs.reverse++X::Zs) (xs++ys) j)/\K (l.drop m) (FZ ds (xs++ys) env) Y
theorem tr{d:AA A}{n:Nat}(f:cat.length=m)(r:∀j,0<=j->j<m->M5 P N cat l ds env n Zs d j):CF P N l ds d env n (n+0) 0 ((NC cat).map λq=>q.map λp=>(Zs.getD p.1 [],Zs.getD p.2 [])):=by
 refine jl _ 0 λi s a p k=>?_;rw[Xp]at a;cases e:(NC cat)[i]? with
 |none=>grind
 |some q=>
  rw[e]at a;cases a;obtain⟨h,g,rfl⟩:=Xf.1 k;have t:i<m:=by
   grind[NC]
  have:=r i (XS _) t h (by grind)
  grind
theorem u6{id:Nat}(m:Nat)(d:AA Nat)(cat:IG)(p:P.follows .mixedOrders=true)(k:De l m N (G6 m 0 l) (mw cat) (mj d cat) (Z6 d) (NC cat)=true)(f:Nat.beq cat.length m=true)(g:Nat.ble h0 H.length=true)
  (h:DK P N m d cat l (G6 m 0 l) env H.length (λr e H=>WO P h0 N l.toArray r e H Q) [] [] H l []):TC P h0 N (.region id l.toArray true) env H Q:=by
 obtain⟨j,Zs,Y,t,u,s,q,n⟩:=h rfl;have a:=XO f;have i:(Z6 d).length=d.length+1:=by simp[Z6]
 refine b6 m 0 _ _ _ _ _ j (H::Zs) Y p k (by grind) (by simp_all) g ?_ (by simp) (by grind) (tr a q) (by simp[NC,a]) n
 simp_all
variable {n:Nat} {X X1:Qb} {B:AA (Nat×AB AR)} {xs:AA A} {o:Oper} {r:AA Oper} {x:A} {d:Nat}
theorem DK.done(d:Nat.beq xs.length m=true)(a:Nat.beq Hs.length bs.length=true)(h:K r (FZ ds xs env) X):DK P N m bs cat l ds env n K B Hs X r xs:=by
 intro i;have e:=XO d;have f:=XO a;refine⟨[],[],X,by simpa using e,by omega,⟨(λZ hZ=>by cases hZ),?_,λZ hZ=>by cases hZ⟩,λj k g=>by omega,?_⟩
 .grind
 grind
theorem DK.add(t:∀ys Zs,Hs.length+Zs.length=bs.length->(∀Z∈Zs,WL B Z)->l[xs.length]?=some o->M5 P N cat l ds env n (Hs.reverse++X::Zs) (xs++x::ys) xs.length)(k:DK P N m bs cat l ds env n K B Hs X r (xs++[x])):DK P N m bs cat l ds env n K B Hs X (o::r) xs:=by
 intro d;obtain⟨p,i⟩:=S5 d;obtain⟨ys,Zs,Y,f,g,e,h,a⟩:=k (by grind);simp[Ve,Vd]at f h a;refine⟨x::ys,Zs,Y,by grind,g,e,λj s q=>?_,a⟩
 grind
theorem Sn{zs:AA A}{j:Nat}{c:Nat×Nat×Nat}(d:Y0 cat j=some c)(h:∀p∈mn c,JH P N l ds zs env n n j (Zs.getD p.1 []) (Zs.getD p.2 [])):M5 P N cat l ds env n Zs zs j:=by
 intro p a
 grind[KQ,NC]
theorem vY{c:Nat}(a:Nat.beq c Hs.length=true):(Hs.reverse++X::Zs).getD c []=X:=by
 simp_all
theorem DK.wo{c:Nat}(h:WO P X.length N l.toArray [o] (Q7 (Qf o) 0 ds xs env) X (Y6 (up (Q7 (Qf o) 0 ds xs env) d x) X))(k:DK P N m bs cat l ds env n K B Hs X r (xs++[x]))
  (e:Y0 cat xs.length=some (0,c,c):=by exact rfl)(hd:o.dst=some d:=by exact rfl)(hcH:Nat.beq c Hs.length=true:=by exact rfl):DK P N m bs cat l ds env n K B Hs X (o::r) xs:=
 .add (λys Zs hn hf ho=>Sn e λp a=>by
  have:=by
   change p∈WA c (c-c)at a;rw[Nat.sub_self]at a;exact Vx.1 a
  grind[vY,KR,Y4]) k
theorem DK.wa{lo:Nat}(h:∀X,WO P X.length N l.toArray [o] (Q7 (Qf o) 0 ds xs env) X (Y6 (up (Q7 (Qf o) 0 ds xs env) d x) X))(k:DK P N m bs cat l ds env n K B Hs X r (xs++[x]))
  (f:Y0 cat xs.length=some (0,lo,hi):=by exact rfl)(hd:o.dst=some d:=by exact rfl):DK P N m bs cat l ds env n K B Hs X (o::r) xs:=
 .add (λys Zs hn hf ho=>Sn f λp a=>by
  have e:=bR _ _ p a
  grind[KR,Y4]) k
theorem DK.op{c u:Nat}(h:WO P X.length N l.toArray [o] (Q7 (Qf o) 0 ds xs env) X (Y6 (up (Q7 (Qf o) 0 ds xs env) d x) X1))(k:DK P N m bs cat l ds env n K B (X::Hs) X1 r (xs++[x]))(hl:Nat.ble n X1.length=true:=by exact rfl)
  (hc:Y0 cat xs.length=some (1,c,u):=by exact rfl)(hd:o.dst=some d:=by exact rfl)(hcH:Nat.beq c Hs.length=true:=by exact rfl)(hB:WL B X1:=by repeat (first|exact trivial|refine⟨rfl,?_⟩)):DK P N m bs cat l ds env n K B Hs X (o::r) xs:=by
 intro g;obtain⟨E,z⟩:=S5 g;obtain⟨s,Zs,Y,w,y,e,i,f⟩:=k (by grind);simp only[X0,XY,List.length_nil,Ve,VG,Vd,List.reverse_cons]at w y e i f;refine⟨x::s,X1::Zs,Y,by grind,by grind,⟨λZ a=>?_,e.2.1,?_⟩,λj G F=>?_,f⟩
 .rcases X3.1 a with rfl|a
  .simp_all
  grind
 .intro Z a;rcases X3.1 a with rfl|a
  .exact hB
  .exact e.2.2 Z a
 .rcases Vy xs.length j with q|q
  .grind
  .obtain rfl:j=xs.length:=by omega
   refine Sn hc λp t=>?_;have:p=(c,c+1):=Vx.1 t
   grind[Nat.eq_of_beq_eq_true,KR,Y4]
theorem vh{hB hE:Nat}{xs a:AA A}{o:Oper}{X X':Qb}(d:l[xs.length]?=some o)(hdd:J5 hB hE X X'=true)(h:WO P X.length N l.toArray [o] (Q7 (Qf o) 0 ds xs env) X (Y6 (Q7 (Qf o) 0 ds xs env) X'))(e:o.dst=none):
  JH P N l ds (xs++.any::a) env hB hE xs.length X X':=
 .unitE o _ d e kO (he:=by
  intro s;rcases j4 (af:=Qf o) (env0:=env) (s:=s) ds xs (.any::a) 0 with⟨j,y,i,f,k,g⟩|q|q
  .grind
  .grind
  grind) (hdd:=hdd) (h:=h)
theorem DK.un{c t:Nat}(h:WO P X.length N l.toArray [o] (Q7 (Qf o) 0 ds xs env) X (Y6 (Q7 (Qf o) 0 ds xs env) X1))(k:DK P N m bs cat l ds env n K B (X::Hs) X1 r (xs++[.any]))(hl:Nat.ble n X1.length=true:=by exact rfl)
  (hc:Y0 cat xs.length=some (1,c,t):=by exact rfl)(hd:o.dst=none:=by exact rfl)(hcH:Nat.beq c Hs.length=true:=by exact rfl)(hB:WL B X1:=by repeat (first|exact trivial|refine⟨rfl,?_⟩)):DK P N m bs cat l ds env n K B Hs X (o::r) xs:=by
 intro f;obtain⟨y,x⟩:=S5 f;obtain⟨i,Zs,Y,u,w,d,g,e⟩:=k (by grind);simp only[X0,XY,List.length_nil,Ve,VG,Vd,List.reverse_cons]at u w d g e;refine⟨.any::i,X1::Zs,Y,by grind,by grind,⟨λZ a=>?_,d.2.1,?_⟩,λj E z=>?_,e⟩
 .rcases X3.1 a with rfl|a
  .simp_all
  grind
 .intro Z a;rcases X3.1 a with rfl|a
  .exact hB
  .exact d.2.2 Z a
 .rcases Vy xs.length j with q|q
  .grind
  .obtain rfl:j=xs.length:=by omega
   refine Sn hc λp s=>?_;have:p=(c,c+1):=Vx.1 s
   grind[Nat.eq_of_beq_eq_true,vh,Y4]
def Ox(T:C2)(N m:Nat)(cat:IG)(l:AA Oper)(ds:AA Nat)(env:Env)(n:Nat)(fl:Bool):Nat->Nat->Nat->AA Qb->Qb->AA Oper->AA A->AB (AA Qb×AA Oper×AA A)
 |0,_,_,Hs,X,r,xs=>some (Hs,r,xs)
 |_+1,_,_,_,_,[],_=>none
 |k+1,i,j,Hs,X,o::r,xs=>match o.dst with
  |none=>none
  |some d=>match Nat.blt d N with
   |false=>none
   |true=>match Y1 ⟨l⟩ o (Q7 (Qf o) 0 ds xs env)with
    |none=>none
    |some false=>(match Fj xs (.tup [])with
      |.mk xs'=>match Y0 cat i with
       |some (0,_,_)=>Ox T N m cat l ds env n fl k (i+1) j Hs X r xs'
       |some (1,c,_)=>(match fl&&Nat.beq c j,Nat.ble n X.length with
        |true,true=>Ox T N m cat l ds env n fl k (i+1) (j+1) (X::Hs) X r xs'
        |_,_=>none)
       |_=>none)
    |some true=>match Y0 cat i with
     |some (0,lo,hi)=>(match D7 T o (Q7 (Qf o) 0 ds xs env) []with
      |some x=>(match Fj xs x with
       |.mk xs'=>Ox T N m cat l ds env n fl k (i+1) j Hs X r xs')
      |none=>match Nat.beq lo hi,Nat.beq lo j with
       |true,true=>(match D7 T o (Q7 (Qf o) 0 ds xs env) X with
        |none=>none
        |some x=>match Fj xs x with
         |.mk xs'=>Ox T N m cat l ds env n fl k (i+1) j Hs X r xs')
       |_,_=>none)
     |_=>none
theorem W0(hT:Fm P T){fl:Bool}(hfl:fl=true->B=[]):∀(k i j:Nat) {Hs Hs':AA Qb} {r r':AA Oper} {xs xs':AA A},i=xs.length->j=Hs.length->Ox T N m cat l ds env n fl k i j Hs X r xs=some (Hs',r',xs')->DK P N m bs cat l ds env n K B Hs' X r' xs'->DK P N m bs cat l ds env n K B Hs X r xs
 |0,i,j,Hs,Hs',r,r',xs,xs',_,_,h,k=>by cases h;exact k
 |k0+1,i,j,Hs,Hs',[],r',xs,xs',_,_,h,k=>by cases h
 |k0+1,i,j,Hs,Hs',o::r,r',xs,xs',hi,hj,h,k=>by
  subst hi hj;unfold Ox at h;split at h
  .cases h
  .rename_i d hd;split at h
   .cases h
   .rename_i q2;split at h
    .cases h
    .rename_i hw;simp[Jy]at h;split at h
     .rename_i lo hi' q0;exact .wa (λX=>WO.skip (QS hw) hd q2 (WO.nil Y6.mk)) (W0 hT hfl k0 _ _ (by simp) rfl h k) q0 hd
     .rename_i c c' q0;split at h
      .rename_i q1 q3;rw[XU]at q1;exact .op (WO.skip (QS hw) hd q2 (WO.nil Y6.mk)) (W0 hT hfl k0 _ _ (by simp) (by simp) h k) q3 q0 hd q1.2 (hfl q1.1▸trivial)
      .cases h
     .cases h
    .rename_i hw;split at h
     .rename_i lo hi' q0;split at h
      .rename_i x hv;simp[Jy]at h;exact .wa (λX=>QM (QS hw) hd q2 (KS hT (kf hv)) (WO.nil Y6.mk)) (W0 hT hfl k0 _ _ (by simp) rfl h k) q0 hd
      .split at h
       .rename_i q1 q3;split at h
        .cases h
        .rename_i x hv;simp[Jy]at h;obtain rfl:=XO q1;exact .wo (QM (QS hw) hd q2 (KS hT hv) (WO.nil Y6.mk)) (W0 hT hfl k0 _ _ (by simp) rfl h k) q0 hd q3
       .cases h
     .cases h
theorem WH{α:Type}{b:Bool}{p q:AB α}{v:α}{a d:AA A}(j:Nat)(h:(bif b then p else q)=some v)(i:Y0 xs j=some (.bool b))(g:Og xs j (.bool true)=.mk a)(f:Og xs j (.bool false)=.mk d)
  (t:b=true->p=some v->DK P N m bs cat l ds env n K B Hs X r a)(e:b=false->q=some v->DK P N m bs cat l ds env n K B Hs X r d):DK P N m bs cat l ds env n K B Hs X r xs:=by
 cases b with
 |true=>simp_all[Wx]
 |false=>simp_all[Wx]
theorem DK.v(h:AK P o (Q7 (Qf o) 0 ds xs env) X x)(k:DK P N m bs cat l ds env n K B Hs X r (xs++[x])){c:Nat}(hg:Y1 ⟨l⟩ o (Q7 (Qf o) 0 ds xs env)=some true:=by exact rfl)
  (hd:o.dst=some d:=by exact rfl)(hN:Nat.blt d N=true:=by exact rfl)(hc:Y0 cat xs.length=some (0,c,c):=by exact rfl)(hcH:Nat.beq c Hs.length=true:=by exact rfl):DK P N m bs cat l ds env n K B Hs X (o::r) xs:=
 .wo (QM (QS hg) hd hN h (WO.nil Y6.mk)) k hc hd hcH
def SW(T:C2)(o:Oper)(e:Env)(x:A):Nat->AA Qb->Prop
 |0,_=>True
 |k+1,Y::r=>D7 T o e Y=some x/\SW T o e x k r
 |_+1,[]=>False
theorem j7{T:C2}{o:Oper}{e:Env}{x:A}:∀{k:Nat} {r:AA Qb},SW T o e x k r->∀j,j<k->D7 T o e (r.getD j [])=some x
 |0,_,_,j,hj=>(by omega)
 |k+1,[],h,_,_=>h.elim
 |k+1,Y::r,h,0,_=>h.1
 |k+1,Y::r,h,j+1,hj=>by
  have:=j7 h.2 j (by omega)
  grind
theorem jz:∀(n lo:Nat),∀p∈WA lo n,lo<=p.1/\p.1<=lo+n
 |0,lo,p,h=>by cases h with|head=>omega|tail _ h=>cases h
 |n+1,lo,p,h=>by
  rcases X3.1 h with rfl|h
  .omega
  .have:=jz n _ p h;omega
def OW(P:Program)(N:Nat)(l:AA Oper)(o:Oper)(e:Env)(d:Nat)(x:A):Nat->AA Qb->Prop
 |0,_=>True
 |k+1,Y::r=>WO P Y.length N l.toArray [o] e Y (Y6 (up e d x) Y)/\OW P N l o e d x k r
 |_+1,[]=>False
theorem oB{e:Env}:∀{k:Nat} {r:AA Qb},OW P N l o e d x k r->∀j,j<k->WO P (r.getD j []).length N l.toArray [o] e (r.getD j []) (Y6 (up e d x) (r.getD j []))
 |0,_,_,j,hj=>(by omega)
 |k+1,[],h,_,_=>h.elim
 |k+1,Y::r,h,0,_=>h.1
 |k+1,Y::r,h,j+1,hj=>by
  have:=oB h.2 j (by omega)
  grind
theorem Nd{lo:Nat}(h:OW P N l o (Q7 (Qf o) 0 ds xs env) d x (hi+1-lo) (X::Hs))(k:DK P N m bs cat l ds env n K B Hs X r (xs++[x]))
  (q:Y0 cat xs.length=some (0,lo,hi):=by exact rfl)(hd:o.dst=some d:=by exact rfl)(hcH:Nat.beq hi Hs.length=true:=by exact rfl)(hle:Nat.ble lo hi=true:=by exact rfl):DK P N m bs cat l ds env n K B Hs X (o::r) xs:=
 .add (λys Zs hn hf ho=>Sn q λp a=>by
  have e:=bR _ _ p a;have f:=XP hle;have hb:=jz (hi-lo) lo p a;have j:=XO hcH;rw[<- e];have g:=oB h (Hs.length-p.1) (by omega);have i:(Hs.reverse++X::Zs).getD p.1 []=(X::Hs).getD (Hs.length-p.1) []:=by
   grind
  rw[i];exact KR ho Y4 g hd) k
theorem DK.vs(i:Fm P T){lo:Nat}(h:SW T o (Q7 (Qf o) 0 ds xs env) x (hi+1-lo) (X::Hs))(k:DK P N m bs cat l ds env n K B Hs X r (xs++[x]))
  (g:Y0 cat xs.length=some (0,lo,hi))(f:o.dst=some d)(e:Nat.beq hi Hs.length=true)(hg:Y1 ⟨l⟩ o (Q7 (Qf o) 0 ds xs env)=some true)(p:Nat.blt d N=true)(a:Nat.ble lo hi=true):DK P N m bs cat l ds env n K B Hs X (o::r) xs:=by
 refine Nd ?_ k g f e a;generalize hi+1-lo=c at h;generalize X::Hs=L at h
 induction c generalizing L with
 |zero=>trivial
 |succ c j=>
  cases L with
  |nil=>exact h.elim
  |cons Y L=>exact⟨QM (QS hg) f p (KS i h.1) (WO.nil Y6.mk),j L h.2⟩
def aL(o:Oper)(e:Env):AB Nat:=match o.op with
 |.load _ (.global _)=>none
 |.load _ x=>match BJ e x with
  |.mk (.ptr b _)=>some b
  |_=>none
 |_=>none
theorem xk{T:C2}{e:Env}{b:Nat}{Y Z:Qb}(h:aL o e=some b)(i:Z[b]?=Y[b]?):D7 T o e Z=D7 T o e Y:=by
 have f:∀{x:Operand} {a:Nat},BJ e x=.mk (.ptr b a)->Kc Z (BJ e x)=Kc Y (BJ e x):=λq=>by
  rw[q];simp only[Kc,KQ,i]
 unfold aL at h;unfold D7;split at h
 .cases h
 .rename_i t x j d;split at h
  .rename_i k a q;cases h;rw[d];cases x with
   |global g=>exact absurd rfl (j g)
   |_=>simp only[f q]
  .cases h
 .cases h
theorem uE(M:Fm P T){lo b:Nat}(hl:aL o (Q7 (Qf o) 0 ds xs env)=some b)(h:SW T o (Q7 (Qf o) 0 ds xs env) x (Hs.length+1-lo) (X::Hs))(k:DK P N m bs cat l ds env n K ((b,X[b]?)::B) Hs X r (xs++[x]))
  (H:Y0 cat xs.length=some (0,lo,hi))(y:o.dst=some d)(f:Nat.ble lo Hs.length=true)(a:Nat.ble hi bs.length=true)(hg:Y1 ⟨l⟩ o (Q7 (Qf o) 0 ds xs env)=some true)(V:Nat.blt d N=true):DK P N m bs cat l ds env n K B Hs X (o::r) xs:=by
 have F:DK P N m bs cat l ds env n K ((b,X[b]?)::B) Hs X (o::r) xs:=.add (λw Zs hn hf ho=>Sn H λp u=>by
  have e:=bR _ _ p u;have f:=XP f;have a:=XP a;have hb:=jz (hi-lo) lo p u;rw[<- e];have s:D7 T o (Q7 (Qf o) 0 ds xs env) ((Hs.reverse++X::Zs).getD p.1 [])=some x:=by
   rcases Vy Hs.length p.1 with q|q
   .have z:=j7 h 0 (by omega);obtain⟨j,W⟩:∃j,p.1=Hs.length+1+j:=⟨p.1-Hs.length-1,by omega⟩;have g:(Hs.reverse++X::Zs).getD p.1 []=Zs.getD j []:=by grind
    have i:j<Zs.length:=by omega
    have Q:=(hf Zs[j] (List.getElem_mem i)).1;have E:Zs.getD j []=Zs[j]:=by grind
    rw[g,E,xk hl Q];exact z
   .have s:=j7 h (Hs.length-p.1) (by omega);have g:(Hs.reverse++X::Zs).getD p.1 []=(X::Hs).getD (Hs.length-p.1) []:=by grind
    rw[g];exact s
  exact KR ho Y4 (QM (QS hg) y V (KS M s) (WO.nil Y6.mk)) y) k
 intro R;obtain⟨w,Zs,Y,G,J,t,O,L⟩:=F R;exact⟨w,Zs,Y,G,J,⟨t.1,t.2.1,λZ hZ=>(t.2.2 Z hZ).2⟩,O,L⟩
end
def room(n:Int):AB Nat:=bif decide (0<n)&&decide (n<=4294967296)then some n.toNat else none
section
variable {P:Program} {o:Oper} {env:Env} {H:Qb}
theorem jZ{h0 i:Nat}{x x':AR}(hH:H[i]?=some x)(e:x=x'):Le h0 env H env (H.set i x'):=by
 grind[List.set_getElem_self,Le.refl]
theorem RL.put{ro:Nat->Prop}{U:AZ}{w:World}{k:Nat}:∀{a:Nat} {es fs:AA (AA A)} {l m:AA Value},RL ro U w k es l->a+fs.length<=es.length->Sw.allK k fs->LR ro U w fs.flatten m->(∀v∈m,Qz v)->
  RL ro U w k (es.take a++fs++es.drop (a+fs.length)) (Sw.splice l (a*k) m)
 |0,es,[],l,m,h,hn,hk,hm,hp=>by
  obtain rfl:m=[]:=hm;simpa[Sw.splice]using h
 |0,[],f::fs,l,m,h,hn,hk,hm,hp=>by simp at hn
 |0,c::es,f::fs,l,m,⟨l1,l2,h1,h2,h3,h4⟩,hn,hk,hm,hp=>by
  subst h1;have hl1:=h3.1.length;have hml:=hm.length;rw[Vh,X0]at hml;have e1:m.take k++m.drop k=m:=Xy _ _;have q1:LR ro U w f (m.take k):=by have:=hm.take k;rwa [Vh,X4 (by rw[hk.1];omega),VE (by rw[hk.1];omega)]at this
  have q2:=by have:=hm.drop k;rwa [Vh,X5 (by rw[hk.1];omega),List.drop_of_length_le (by rw[hk.1];omega),Vd]at this
  have d:=RL.put (a:=0) h4 (by grind) hk.2 q2 (λv e=>hp v (List.mem_of_mem_drop e));simp only[List.take_zero,Vd,Xv,Nat.zero_mul,Sw.splice]at d⊢;refine⟨m.take k,m.drop k++l2.drop (m.drop k).length,?_,hk.1,⟨q1,λv e=>hp v (List.mem_of_mem_take e)⟩,by simp_all⟩;have g:k<=m.length:=by rw[hml,hk.1];omega
  rw[<- Ve,e1];congr 1
  grind[List.drop_length_add_append]
 |a+1,[],fs,l,m,h,hn,hk,hm,hp=>by simp at hn
 |a+1,c::es,fs,l,m,⟨l1,l2,h1,h2,h3,h4⟩,hn,hk,hm,hp=>by
  subst h1;have hl1:=h3.1.length;have d:=RL.put (a:=a) h4 (by simp at hn;omega) hk hm hp;refine⟨l1,Sw.splice l2 (a*k) m,?_,h2,h3,?_⟩
  .have e1:(a+1)*k=l1.length+a*k:=by rw[Xn];omega
   unfold Sw.splice;rw[e1,X8,show l1.length+a*k+m.length=l1.length+(a*k+m.length)from by omega,X7];simp
  .have i:a+1+fs.length=(a+fs.length)+1:=by omega
   simpa[i]using d
def V6(P:Program)(H:Qb)(x:A)(k:Nat)(es:AA (AA A)):Prop:=
 ∀fr ro U w v,AU fr ro U H w->VR ro U w x v->(∃a c,v=.slice a es.length c)/\
  ∀j,j<=es.length->allK k (es.take j)/\ ∃l,(Builtin.firstCells k j v).run P w=.ok l.toArray w/\LR ro [] w (es.take j).flatten l/\ ∀v∈l,Qz v
theorem yh{fr ro:Nat->Prop}{U:AZ}{w:World}{k j b off n c:Nat}{es:AA (AA A)}(h:RR ro [] w b k es off)(e:j<=es.length):
  allK k (es.take j)/\ ∃l,(Builtin.firstCells k j (.slice (some ⟨b,off,none⟩) n c)).run P w=.ok l.toArray w/\LR ro [] w (es.take j).flatten l/\ ∀v∈l,Qz v:=by
 obtain⟨f,d,a⟩:=(h.take j).flat;rw[Xx,XA e]at a;obtain⟨l,g,i⟩:=cH (c:=c) f a;exact⟨d,l,(g w rfl),i⟩
theorem r_{k n c:Nat}{a:AB Addr}{w:World}:(Builtin.firstCells k 0 (.slice a n c)).run P w=.ok #[] w:=by
 cases a<;>simp[go_sem]
theorem V6.osl{i s n k t:Nat}{es es':AA (AA A)}(hH:H[i]?=some (.row t k es))(he:(es.drop s).take n=es')(J:s+n<=es.length):V6 P H (.osl i s n k) k es':=by
 intro fr F U w v sm h;have q:es'.length=n:=by grind
 rcases h with⟨rfl,rfl⟩|⟨b,p,a,B,m,u,rfl,y,⟨E,z⟩,L,G⟩
 .have e:es'=[]:=(by grind);subst e;refine⟨⟨none,0,rfl⟩,λj g=>?_⟩;obtain rfl:j=0:=by omega
  exact⟨trivial,[],r_,rfl,by simp⟩
 .rw[q];refine⟨⟨_,a,rfl⟩,λj g=>?_⟩;obtain⟨l,r,f⟩:=sm.blk i _ _ u hH;have d:=((Jc (pre:=[]) (by simpa using r) f).drop s).take n;rw[he]at d;by_cases x:0<a
  .obtain rfl:=y x;simpa using yh (fr:=fr) (U:=U) d (by omega)
  .obtain rfl:j=0:=by omega
   exact⟨trivial,[],r_,rfl,by simp⟩
end
open Go.MapKept
section
variable {fr ro ro':Nat->Prop} {U:AZ} {H:Qb} {w:World}
end
end Go.Sw
namespace Go.Sw
theorem jC{α:Type}{n:Int}{x:AB α}{r:α}(h:(bif n<20 then x else none)=some r):decide (20<=n)=false/\decide (20<n)=false/\x=some r:=by
 grind
variable {α:Type}
def LB(l:AA α)(o:AB (AA α)):AB (AA α):=o.bind λr=>bif Nat.beq l.length r.length then some r else none
variable {l r:AA α}
theorem qK{o:AB (AA α)}(h:LB l o=some r):o=some r/\l.length=r.length:=by
 cases o with
 |none=>cases h
 |some x=>
  have a:(bif Nat.beq l.length x.length then some x else none)=some r:=h;cases q:Nat.beq l.length x.length with
  |false=>grind
  |true=>
   simp_all
theorem kr{o:AB (AA α)}(h:LB l o=some r):o=some r:=(qK h).1
theorem yB{o:AB (AA α)}(h:LB l o=some r):l.length=r.length:=(qK h).2
section
variable {P:Program} {o:Oper} {env:Env} {H:Qb} {α:Type} {e:α->AA A}
end
open Go.MapKept
section
variable {P:Program} {o:Oper} {env:Env} {H:Qb}
theorem yW{T:Nat}(f:o.op=.makeMap T none:=by exact rfl):CD P o env H (.map H.length) (H++[.mapP []]):=by
 intro e d U N a w r;refine⟨.map (some w.heap.size),w.alloc (.map #[] 0),d,[some w.heap.size],?_,⟨w.heap.size,?_,rfl⟩,r.sim.alloc ⟨#[],0,Ys _ _,rfl,by simp,by simp,by simp⟩,Qm.alloc _ r.sim.roLt r.sim.frLt⟩
 .simp_all[execOp,Instr.makeMap]
 .rw[<- r.sim.len];simp
variable {T kt et:Nat} {α β:Type} [DecidableEq α] {ek:α->A} {ev:β->A} {x y:Operand} {i:Nat} {l:AA (α×β)} {k:α} {z0:β} {z:Value}
theorem lM(K:Jj P kt ek){v:β}(q:Yv l k=some v)(u:P.underlying T=some (.map kt et))
  (s:o.op=.lookup T x y false:=by exact rfl)(hx:AM env x=.map i:=by exact rfl)(hH:H[i]?=some (.mapP (Qt ek ev l)):=by exact rfl)(hy:AM env y=ek k:=by exact rfl):AK P o env H (ev v):=by
 intro W V U N a w r;have h:=Ql r x;rw[hx]at h;obtain⟨b,G,t⟩:=h;have g:=Ql r y;rw[hy]at g;have F:=VR.val (K.scl _) g;obtain⟨J,d,B,p,Y,Q,O⟩:=r.sim.blk i _ _ G hH;obtain⟨z,E⟩:=ER.find K p k O;rcases K.find w k J.toList (PC K p)with⟨n,f⟩|⟨j,e,n,f,L⟩
 .have:=(z f).1;rw[q]at this;cases this
 .obtain⟨R,X,m,M⟩:=E j e f L;rw[q]at m;obtain rfl:=XX m;refine⟨e.val,?_,M⟩;simp only[execOp,s,t,F,Instr.lookup,Vi,run_underlying u,Result.andThen,MapKept.run_getObj_map B,Vj,K.check,n];rfl
theorem zQ(K:Jj P kt ek)(M:Yv l k=none)(t:P.underlying T=some (.map kt et))(F:∀w,(zeroValue et).run P w=.ok (.pointer none) w)
  (q:o.op=.lookup T x y false:=by exact rfl)(hx:AM env x=.map i:=by exact rfl)(hH:H[i]?=some (.mapP (Qt ek ev l)):=by exact rfl)(hy:AM env y=ek k:=by exact rfl):AK P o env H .nilp:=by
 intro W V U N a w r;have g:=Ql r x;rw[hx]at g;obtain⟨b,E,s⟩:=g;have f:=Ql r y;rw[hy]at f;have B:=VR.val (K.scl _) f;obtain⟨G,d,u,n,Y,O,L⟩:=r.sim.blk i _ _ E hH;obtain⟨Q,z⟩:=ER.find K n k L;rcases K.find w k G.toList (PC K n)with⟨m,p⟩|⟨j,e,m,p,J⟩
 .refine⟨.pointer none,?_,rfl⟩;simp only[execOp,q,s,B,Instr.lookup,Vi,run_underlying t,Result.andThen,MapKept.run_getObj_map u,Vj,K.check,m,F];rfl
 .obtain⟨R,X,h,u3⟩:=z j e p J;rw[M]at h;cases h
theorem wt(K:Jj P kt ek){v:β}{zz:Operand}(Y:Yv l k=none)(F:P.underlying T=some (.map kt et))
  (z:o.op=.mapUpdate T x y zz:=by exact rfl)(hx:AM env x=.map i:=by exact rfl)(hH:H[i]?=some (.mapP (Qt ek ev l)):=by exact rfl)(hy:AM env y=ek k:=by exact rfl)(hv:AM env zz=ev v:=by exact rfl):
  FS P o env H (H.set i (.mapP (Qt ek ev (l++[(k,v)])))):=by
 intro V J U N a w r;have s:=Ql r x;rw[hx]at s;obtain⟨b,q,E⟩:=s;have m:=Ql r y;rw[hy]at m;have G:=VR.val (K.scl _) m;have n:=Ql r zz;rw[hv]at n;obtain⟨t,d,p,h,W,O,L⟩:=r.sim.blk i _ _ q hH;obtain⟨Q,R⟩:=ER.find K h k L;have g:∀(obj:Obj) y,w.shape? b=some y->({w with heap:=w.heap.setIfInBounds b obj}:World).shape? b=some y:=by
  grind[World.shape?]
 rcases K.find w k t.toList (PC K h)with⟨u,M⟩|⟨j,e,u,M,X⟩
 .have f:=r.sim.set (x':=.mapP (Qt ek ev (l++[(k,v)]))) (obj:=.map (t.push {key:=Q0 (ek k),val:=a.eval zz,born:=d}) (d+1)) q hH rfl (g _)
   (λe B=>⟨_,_,B,by
    rw[Qt,Xg,Array.toList_push];exact(h.mono e).append ⟨_,_,rfl,(Wl (K.scl _)),n.mono e,rfl⟩,by
    grind,by
    grind,by
    grind⟩)
  refine⟨_,J,[],?_,by grind,f.2⟩;simp only[execOp,z,E,G,Vi,Instr.mapUpdate,run_underlying F,Result.andThen,MapKept.run_getObj_map p,K.check,u,MapKept.run_setObj_map _ p];rfl
 grind
end
section
variable {fr ro:Nat->Prop} {U:AZ} {H:Qb} {w:World}
theorem AU.shutAny(s:AU fr ro U H w){i b:Nat}{m:AR}(hσ:U[i]?=some (some b))(hH:H[i]?=some m)(hl:m.live=true):
  AU fr (λc=>ro c\/c=b) U (H.set i .dead) w:=by
 have hown:=s.own i b _ hσ hH hl;have ext:BI ro U w (λc=>ro c\/c=b) U w:=⟨λ_ q=>.inl q,λ_ _=>rfl,λ_ _ q=>q,λ_ _ q=>q⟩;have a:∀(j:Nat) (v:AR),(H.set i .dead)[j]?=some v->v≠ .dead->j≠i/\H[j]?=some v:=by
  grind
 refine⟨by rw[X2];exact s.len,s.roOk.to (λ_ q=>.inl q) (λ_ _=>rfl) ?_,s.frLt,?_,?_,?_,?_,s.hidTo (· = ·) Yd (XR _) (λj d x c F t B E=>E.elim id λq=>((s.hid j d x c F t B).ne i b _ hσ hH hl q).elim) (λ_ _ _ _ _ _ _ q=>q) λj d y L N J=>.inl ⟨j,y,rfl,L,(a j y N (bF J)).2,id,λ_ q=>q⟩⟩
 .rintro c (q|rfl)
  .exact s.roLt c q
  omega
 .rintro c (q|rfl)
  .exact s.roFr c q
  grind
 .intro j c v g f h;obtain⟨e,f⟩:=a j v f (Hq h);obtain⟨z,M,G⟩:=s.own j c v g f h;refine⟨z,?_,G⟩;rintro(q|rfl)
  .exact M q
  .exact e (s.inj j i c v _ g hσ f hH h hl)
 .intro j l c v n g f h u p k;exact s.inj j l c v n g f (a j v h (Hq p)).2 (a l n u (Hq k)).2 p k
 .intro j y v g f;by_cases r:v≠ .dead
  .exact(s.blk j y v g (a j v f r).2).keep ext (λ_ _ _=>rfl) (λ_ _ _ _=>rfl)
  .obtain rfl:v=.dead:=Classical.not_not.1 r;trivial
def IA(H:Qb):AA Nat->Qb
 |[]=>H
 |i::l=>IA (H.set i .dead) l
theorem qV{l:AA Nat}:∀{H:Qb} {j:Nat},j∉l->(IA H l)[j]?=H[j]? :=by
 induction l with
 |nil=>intro H j _;rfl
 |cons i l a=>
  grind[IA]
theorem kz:∀{l:AA Nat} {ro:Nat->Prop} {H:Qb} (s:AU fr ro U H w),l.Nodup->(∀i∈l,∃x,H[i]?=some x/\x.live=true)->
  ∃ro',AU fr ro' U (IA H l) w/\(∀c,ro c->ro' c)/\ ∀i∈l,∀b,U[i]?=some (some b)->ro' b
 |[],ro,H,s,_,_=>⟨ro,s,λ_ q=>q,λ_ h=>by cases h⟩
 |i::l,ro,H,s,hn,hl=>by
  rw[List.nodup_cons]at hn;obtain⟨x,hx,hxl⟩:=hl i (by simp);have rest:∀i'∈l,∃x,(H.set i .dead)[i']?=some x/\x.live=true:=by
   grind
  have m:∃q,U[i]?=some q:=by
   have:i<U.length:=by rw[s.len];grind
   simp_all
  obtain⟨q,j⟩:=m;cases q with
  |some b=>
   obtain⟨ro',a,f,g⟩:=kz (s.shutAny j hx hxl) hn.2 rest;refine⟨ro',a,(by grind),λi' e k d=>?_⟩
   grind
  |none=>
   obtain⟨ro',a,f,g⟩:=kz (s.kill i) hn.2 rest;refine⟨ro',a,f,λi' e k d=>?_⟩
   grind
end
end Go.Sw
namespace Go.Sw
structure BY (α β:Type) where
 number:Int
 r0:List α
 r1:List α
 r2:List α
 reports:List β
 appeal:Bool
 deriving DecidableEq
structure FK (α β:Type) where
 T:Nat
 tF:Nat
 kF:Nat
 tR:Nat
 kR:Nat
 eF:α->List A
 eR:β->List A
section
variable {α β:Type} (K:FK α β)
def t8(b:Nat)(x:BY α β):AA A:=[.int .i64 x.number,.osl (b+1) 0 x.r0.length K.kF,.osl (b+2) 0 x.r1.length K.kF,.osl (b+3) 0 x.r2.length K.kF,.osl (b+4) 0 x.reports.length K.kR,.bool x.appeal]
def aI(b:Nat)(x:BY α β):AA AR:=[.cells K.T (t8 K b x),.row K.tF K.kF (x.r0.map K.eF),.row K.tF K.kF (x.r1.map K.eF),.row K.tF K.kF (x.r2.map K.eF),.row K.tR K.kR (x.reports.map K.eR)]
def K0:Nat->AA (BY α β)->AA AR
 |_,[]=>[]
 |b,x::l=>aI K b x++K0 (b+5) l
def jE(x:BY α β):AA A:=[.int .i64 x.number,.rsl K.kF (x.r0.map K.eF),.rsl K.kF (x.r1.map K.eF),.rsl K.kF (x.r2.map K.eF),.rsl K.kR (x.reports.map K.eR),.bool x.appeal]
def U5:Nat->AA (BY α β)->AA (Int×Nat)
 |_,[]=>[]
 |b,x::l=>(x.number,b)::U5 (b+5) l
def Ho(j:Nat):A:=.ptr j 0
def GW(x:BY α β):A:=.rp (jE K x)
def Hm(fs:AA (BY α β)):AA (Int×BY α β):=fs.map λx=>(x.number,x)
theorem qy(b:Nat)(x:BY α β)(l:AA (BY α β)):K0 K b (x::l)=aI K b x++K0 K (b+5) l:=rfl
theorem xx(b:Nat)(x:BY α β):(aI K b x).length=5:=rfl
end
section
variable {fr ro ro':Nat->Prop} {U:AZ} {w:World}
theorem Nq(sub:∀c,ro c->ro' c){i t k:Nat}{es:AA (AA A)}{v:Value}(r:∀b,U[i]?=some (some b)->BR ro U w (.row t k es) (some b)/\ro' b)(h:VR ro U w (.osl i 0 es.length k) v):VR ro' [] w (.rsl k es) v:=by
 rcases h with⟨u,h⟩|⟨b,p,a,x,m,n,h,z,⟨d,s⟩,E,B⟩
 .have:es=[]:=(by grind);subst this;exact⟨none,0,h,XR _,.inl rfl⟩
 .refine⟨_,a,h,d,?_⟩;by_cases e:es=[]
  .exact .inl e
  .right;have y:0<a:=Vb (by grind) d;obtain⟨⟨l,j,f⟩,g⟩:=r b n;refine⟨b,0,by simp,g,?_⟩;have:=Jc (pre:=[]) (by simpa using j) f;exact this.keep ⟨sub,λ_ _=>rfl,λ_ _ q=>q,λ_ _ q=>q⟩ rfl
theorem aN{ro:Nat->Prop}{w:World}{b t:Nat}:∀{cs:AA A} {pre l:AA Value},w.heap[b]?=some (.cells (pre++l).toArray t (0,0))->LR ro [] w cs l->(∀v∈l,Qz v)->CR ro [] w b cs pre.length
 |[],pre,l,_,_,_=>trivial
 |a::cs,pre,l,hb,hl,hp=>by
  obtain⟨v,l',rfl,h1,h2⟩:=hl;refine⟨⟨v,?_,hp v (by simp),h1⟩,?_⟩
  .unfold World.cell?
   grind
  .have:=aN (pre:=pre++[v]) (by simpa using hb) h2 (by grind)
   grind
variable {α β:Type} (K:FK α β)
theorem uK(sub:∀c,ro c->ro' c){b:Nat}{x:BY α β}{v:Value}(f:∀(d c:Nat) (y:AR),(aI K b x)[d]?=some y->U[b+d]?=some (some c)->BR ro U w y (some c)/\ro' c)(h:VR ro U w (.ptr b 0) v):VR ro' [] w (.rp (jE K x)) v:=by
 obtain⟨c,n,i⟩:=h;obtain⟨⟨l,s,a,r⟩,g⟩:=f 0 c _ rfl n;refine⟨c,0,i,g,(aN (pre:=[]) (by simpa using s) ?_ r)⟩;obtain⟨v0,F,rfl,m,a⟩:=a;obtain⟨p,G,rfl,L,a⟩:=a;obtain⟨u,M,rfl,B,a⟩:=a;obtain⟨j,z,rfl,H,a⟩:=a;obtain⟨q,E,rfl,J,a⟩:=a;obtain⟨t,N,rfl,k,a⟩:=a;refine⟨v0,_,rfl,m,p,_,rfl,Nq sub (λc e=>f 1 c _ rfl e) (by grind),u,_,rfl,Nq sub (λc e=>f 2 c _ rfl e) (by grind),j,_,rfl,Nq sub (λc e=>f 3 c _ rfl e) (by grind),
  q,_,rfl,Nq sub (λc e=>f 4 c _ rfl e) (by grind),t,_,rfl,k,a⟩
theorem u9(sub:∀c,ro c->ro' c){ek:Int->A}(hek:∀(k:Int) (v:Value),VR ro U w (ek k) v->VR ro' [] w (ek k) v):∀{b:Nat} {fs:AA (BY α β)} {es:AA MapEntry},(∀(d c:Nat) (y:AR),(K0 K b fs)[d]?=some y->U[b+d]?=some (some c)->BR ro U w y (some c)/\ro' c)->
  ER ro U w (Qt ek Ho (U5 b fs)) es->ER ro' [] w (Qt ek (GW K) (Hm fs)) es
 |b,[],es,_,h=>h
 |b,x::l,es,hb,h=>by
  obtain⟨e,l',rfl,h1,h2,h3⟩:=h;refine⟨e,l',rfl,hek _ _ h1,?_,?_⟩
  .refine uK K sub (λd c y hy hc=>hb d c y ?_ hc) h2
   grind[qy]
  .refine u9 sub hek (λd c y hy hc=>hb (d+5) c y ?_ (by grind)) h3
   grind[qy,xx]
end
section
variable {fr ro:Nat->Prop} {U:AZ} {w:World} {α β:Type} (K:FK α β)
theorem AU.shutMapP{H:Qb}(s:AU fr ro U H w){i b:Nat}{es es':AA (A×A)}(hσ:U[i]?=some (some b))(hH:H[i]?=some (.mapP es))(he:∀l,ER ro U w es l->ER (λc=>ro c\/c=b) [] w es' l):
  AU fr (λc=>ro c\/c=b) U (H.set i (.fmap es')) w:=by
 have hown:=s.own i b _ hσ hH rfl;have ext:BI ro U w (λc=>ro c\/c=b) U w:=⟨λ_ q=>.inl q,λ_ _=>rfl,λ_ _ q=>q,λ_ _ q=>q⟩;have a:∀(j:Nat) (v:AR),(H.set i (.fmap es'))[j]?=some v->v.live=true->j≠i/\H[j]?=some v:=by
  intro j v h F;by_cases e:j=i
  .subst e;rw[Xb]at h
   grind[AR.live]
  grind
 have n:∀(j:Nat) (v:AR),(H.set i (.fmap es'))[j]?=some v->v.holds=true->H[j]?=some v:=by
  intro j v h F;by_cases e:j=i
  .subst e;rw[Xb]at h;simp only[if_true]at h;split at h
   .cases h;cases F
   .simp at h
  grind
 refine⟨by rw[X2];exact s.len,s.roOk.to (λ_ q=>.inl q) (λ_ _=>rfl) ?_,s.frLt,?_,?_,?_,?_,s.hidTo (· = ·) Yd (XR _) (λj d x c N G L M=>M.elim id λq=>((s.hid j d x c N G L).ne i b _ hσ hH rfl q).elim) (by simp) (by grind)⟩
 .rintro c (q|rfl)
  .exact s.roLt c q
  omega
 .rintro c (q|rfl)
  .exact s.roFr c q
  grind
 .intro j c v g f m;obtain⟨e,f⟩:=a j v f m;obtain⟨p,t,r⟩:=s.own j c v g f m;refine⟨p,?_,r⟩;rintro(q|rfl)
  .exact t q
  .exact e (s.inj j i c v _ g hσ f hH m rfl)
 .intro j z c v B g f m J E u;exact s.inj j z c v B g f (a j v m E).2 (a z B J u).2 E u
 .intro j y v g f;by_cases e:j=i
  .subst e;rw[Xa (XJ.1 hH).1]at f;cases f;rw[hσ]at g;cases g;obtain⟨l,k,p,t,r⟩:=s.blk j _ _ hσ hH;exact⟨.inr rfl,l,k,p,he _ t,r⟩
  .rw[XN (λq=>e q.symm)]at f;exact(s.blk j y v g f).keep ext (λ_ _ _=>rfl) (λ_ _ _ _=>rfl)
end
open Go.Sort Go.Proofs Go.Shelf
theorem xJ{α:Type}{l:AA α}(h:l.length=1):∃v,l=[v]:=by
 match l,h with
 |[v],_=>simp
theorem kK{α β:Type}(f:α->β):∀l:AA α,(l.map λa=>[f a]).flatten=l.map f
 |[]=>rfl
 |a::l=>by simp[kK f l]
structure mb (ro:Nat->Prop) (w:World) {T:Type} (ea:T->A) (l:List T) where
 x:T
 v:Value
 mem:x∈l
 rel:VR ro [] w (ea x) v
 plain:Qz v
theorem uB{P:Program}{ρ:Ren}(L0:SlLaysF0.n6 P ρ){T:Type}[DecidableEq T]{F:T->A}{t g:Nat}{cap:AA A}{l l':AA T}{cf:T->T->AB Int}(hs:IE cf l=some l')
  (ay:∀x y c,cf x y=some c->C P g ([F x,F y]++cap) [] (λa H=>a=.int .i64 c/\H=[]))
  (aE:∀w,(isAgg (ρ.t 24)).run P w=.ok false w)(zE:∀w,(Go.sizeOf (ρ.t 24)).run P w=.ok 1 w)(eg:∀args w,(callFunc g args).run P w=.ok (.enter g args) w)(hd:YB cap=true):
  C P (ρ.f 6) [.osl 0 0 l.length 1,.fn (.func g) [] cap] [.row t 1 (l.map λx=>[F x])] (λa H=>a=.tup []/\H=[.row t 1 (l'.map λx=>[F x])]):=by
 have L:SlLaysF.n6 P ρ:={L0 with a24:=aE,z24:=zE};intro fr B U vals w s hv;obtain⟨vs,r1,rfl,bn,vf,r2,rfl,bh,hr⟩:=hv;cases(show r2=[]from hr);obtain⟨lf,lc,rfl,h1,aw⟩:=bh;cases(show lf=[]from h1);have ak:LR B [] w cap lc:=LR.data hd aw;obtain⟨a9,ag,O,ai,a8⟩:=bZ hs;have al:∀(ad:AB Addr) (c:Nat),vs=.slice ad 0 c->l=[]->
   Calls P (ρ.f 6) [vs,.func (.func g) #[] lc.toArray].toArray w λe w'=>∃v r H' ab τ,e=.returned v/\(r=.tup []/\H'=[.row t 1 (l'.map λx=>[F x])])/\AU fr ab (U++τ) H' w'/\VR ab (U++τ) w' r v/\Qm fr B w ab w':=by
  rintro ad c rfl rfl;have aj:l'=[]:=by rw[<- a8];rfl
  subst aj;refine(AnyF.slices_SortFunc_none L0 ad c (.func (.func g) #[] lc.toArray) w).mono ?_;rintro e w' ⟨rfl,rfl⟩;exact⟨_,_,_,B,[],rfl,⟨rfl,rfl⟩,by simpa using s,⟨[],rfl,rfl⟩,Qm.refl _ _ _⟩
 rcases bn with⟨h0,rfl⟩|⟨b,p,cp,t',m,q1,rfl,q2,⟨q3,br⟩,q4,q5⟩
 .grind
 .by_cases aj:l=[]
  .grind
  .have bd:0<l.length:=List.length_pos_iff.2 aj;obtain rfl:=q2 (Vb bd q3);obtain⟨lv,e1,e2⟩:=s.blk 0 _ _ q1 rfl;obtain⟨hb,ah,a0⟩:=s.own 0 b _ q1 rfl rfl;obtain⟨R,G,ba,rfl,bo⟩:=RL.parts e2
   let α:=mb B w F l
   have a4:∀p∈R,p.1∈l:=λp hp=>by rw[<- ba];exact VC hp
   have a7:∀p∈R,∃v,p.2=[v]/\VR B [] w (F p.1) v/\Qz v:=by
    intro p hp;obtain⟨g1,g2,g3⟩:=bo p hp;obtain⟨v,e⟩:=xJ g1;rw[e]at g2 g3;obtain⟨v',l',e',g4,g5⟩:=g2;cases e';exact⟨v,e,g4,g3 v (by simp)⟩
   let val:AA Value->Value:=λl=>l.headD .nilFunc
   have V:∀p∈R,p.2=[val p.2]/\VR B [] w (F p.1) (val p.2)/\Qz (val p.2):=by
    intro p hp;obtain⟨v,e,g⟩:=a7 p hp;rw[e];exact⟨rfl,g⟩
   let ds:AA α:=R.attach.map λp=>⟨p.1.1,val p.1.2,a4 _ p.2,(V _ p.2).2.1,(V _ p.2).2.2⟩
   have bb:∀{γ:Type} (f:T×AA Value->γ),R.attach.map (λp=>f p.1)=R.map f:=λf=>by simp
   have J:ds.map (·.x)=l:=by
    show(R.attach.map _).map _=_;rw[List.map_map];exact(bb (·.1)).trans ba
   have ax:ds.map (·.v)=R.map λp=>val p.2:=by
    show(R.attach.map _).map _=_;rw[List.map_map];exact bb λp=>val p.2
   have ar:ds.length=l.length:=by rw[<- J];simp
   have a6:ds≠[]:=by intro q;rw[q]at ar;simp at ar;omega
   let inh:Inhabited α:=⟨ds.head a6⟩
   let enc':α->Value:=λa=>a.v
   let cf':α->α->Int:=λx y=>(cf x.x y.x).getD 0
   have ac:∀x y:α,ltOf cf' x y=C9 cf x.x y.x:=by
    intro x y;obtain⟨c,u⟩:=ag x.x x.mem y.x y.mem;simp only[ltOf,C9,cf',u,Option.getD_some]
   have hO:SWO (ltOf cf'):=⟨λx=>by rw[ac];exact O.irrefl _ x.mem,λx y z a b=>by rw[ac]at*;exact O.trans _ x.mem _ y.mem _ z.mem a b,
    λx y z a b=>by rw[ac]at*;exact O.ntrans _ x.mem _ y.mem _ z.mem a b⟩
   have bj:(R.map (·.2)).flatten=ds.map enc':=by
    have e3:R.map (·.2)=(R.map λp=>val p.2).map λv=>[v]:=by
     rw[List.map_map];exact List.map_congr_left λp hp=>(V p hp).1
    rw[e3, <- ax];have:=kK (λv:Value=>v) (ds.map (·.v));rw[this];simp[enc']
   rw[bj]at e1;have hH:Holds enc' w b 0 ds.toArray:=by
    intro j hj;simp only[List.size_toArray]at hj;constructor
    .unfold World.cell?;simp only[e1,Option.isSome_none,Xj,if_false,Xv];rw[Wy,XK (by simpa using hj),Xp,kQ _ _ hj];rfl
    .unfold World.frozen?;simp only[e1];simp
   have an:∀(d:Array α),d.size=ds.toArray.size->(putRow enc' w b 0 d).heap=w.heap.setIfInBounds b (.cells ((d.toList.map enc'++G)).toArray t (0,0)):=by
    intro d k;have au:(d.toList.map enc').length=(ds.map enc').length:=by simp at k⊢;rw[k]
    unfold putRow mapBlock;show w.heap.modify b _=_;rw[Ww e1];simp only[onCells];congr 2;unfold putCells;apply Array.ext_getElem?;intro i;simp only[Array.getElem?_mapIdx,Wy,XS,true_and,Xv,Nat.sub_zero];by_cases hi:i<d.size
    .have aa:i<(d.toList.map enc').length:=by simpa using hi
     rw[XK aa,XK (by rw[<- au];exact aa),XI (by rw[<- au];exact aa),XI aa];simp only[Xk,Vp hi];congr 1;rw[getElem!_pos d i hi];simp
    .have aa:¬i<(d.toList.map enc').length:=by simpa using hi
     rw[XL (by omega),XL (by omega),au];cases(G[i-(ds.map enc').length]?)with
     |none=>rfl
     |some v=>exact congrArg some (Vn hi)
   have N:∀(m:Nat) (os:Array Obj) (d:Array α),d.size=ds.toArray.size->
     (∀c,c<w.heap.size->c≠b->(sortWorld enc' w b 0 m d os).heap[c]?=w.heap[c]?)/\(sortWorld enc' w b 0 m d os).heap[b]?=some (.cells ((d.toList.map enc'++G)).toArray t (0,0))/\
     w.heap.size<=(sortWorld enc' w b 0 m d os).heap.size:=by
    intro m os d k;have e:(sortWorld enc' w b 0 m d os).heap=w.heap.setIfInBounds b (.cells ((d.toList.map enc'++G)).toArray t (0,0))++os:=by
     rw[<- an d k];rfl
    rw[e];refine⟨λc u bp=>?_,?_,by simp⟩
    .rw[Array.getElem?_append_left (by simpa using u),Va,Vn (λq=>bp q.symm)]
    .rw[Array.getElem?_append_left (by simpa using hb),Va,Vp rfl,Vp hb]
   have Q:∀(m:Nat) (os:Array Obj) (d:Array α),d.size=ds.toArray.size->∀c y,w.shape? c=some y->(sortWorld enc' w b 0 m d os).shape? c=some y:=by
    intro m os d k c y hy;obtain⟨g1,g2,g3⟩:=N m os d k;by_cases u:c=b
    .subst u;unfold World.shape? at hy⊢;rw[e1]at hy;rw[g2];simp only[Option.some.injEq]at hy⊢;rw[<- hy];congr 1;simp only[List.size_toArray,X0,XZ];simp at k⊢;rw[k]
    .unfold World.shape? at hy⊢;rw[g1 c (pi hy) u];exact hy
   have ae:∀(m:Nat) (os:Array Obj) (d:Array α),d.size=ds.toArray.size->∀τ,BI B τ w B τ (sortWorld enc' w b 0 m d os):=by
    intro m os d k τ;obtain⟨g1,g2,g3⟩:=N m os d k;exact⟨λ_ q=>q,λc u=>g1 c (s.roLt c u) (λq=>ah (q▸u)),Q m os d k,λ_ _ q=>q⟩
   have bk:CmpLays1 P g lc.toArray enc' cf' b 0 ds.toArray.size w:=by
    intro m os dk a5 x y;obtain⟨c,u⟩:=ag x.x x.mem y.x y.mem;have E:=ae m os dk a5 [];have bl:=ay _ _ _ u;generalize hW:sortWorld enc' w b 0 m dk os=W at*;have bf:w.heap.size<=W.heap.size:=by rw[<- hW];exact(N m os dk a5).2.2
    have sW:AU (λc=>c<W.heap.size/\ ¬B c) B [] [] W:=
     ⟨rfl,s.roOk.to (λ_ q=>q) E.keep (λc u=>Vb (s.roLt c u) bf),λc u=>u.1,λc u hf=>hf.2 u,λi b x h=>by simp at h,λi j b x y h=>by simp at h,λi y x h=>by simp at h,λi b x c h=>by simp at h⟩
    have aq:LR B [] W ([F x.x,F y.x]++cap) ([x.v,y.v]++lc):=
     LR.append (show LR B [] W [F x.x,F y.x] [x.v,y.v]from⟨_,_,rfl,x.rel.mono E,_,_,rfl,y.rel.mono E,rfl⟩) (ak.mono E)
    have M:=bl _ B [] _ W sW aq;have bi:(([x.v,y.v]++lc).toArray:Array Value)= #[enc' x,enc' y]++lc.toArray:=by simp[enc']
    rw[bi]at M;refine M.mono ?_;rintro e w' ⟨v,r,H',ab,τ,rfl,⟨rfl,rfl⟩,s',bc,ev⟩;refine⟨?_,?_⟩
    .rw[show v=.int .i64 c from bc];simp only[cf',u,Option.getD_some]
    .refine oZ (λc u=>?_) ev.size ev.os ev.tape ev.output ev.drawn;by_cases az:B c
     .exact ev.keepRo c az
     .exact ev.keepFr c ⟨u,az⟩
   have Y:ds.toArray.size=l.length:=by simpa using ar
   have bs:b+0=b:=rfl;have af:=Any.slices_SortFunc L enc' (λx=>qb x.plain) cf' hO g lc.toArray b 0 cp ds.toArray w eg bk hH hb (by rw[Y];unfold QE at a9;omega);rw[Y]at af;rw[Nat.zero_mul];refine af.mono ?_;rintro e w' ⟨rfl,d,n,os,X,av,rfl⟩;have k:d.size=ds.toArray.size:=X.1;obtain⟨g1,g2,g3⟩:=N n os d k;have am:d.toList.Perm ds:=by
    have h:=X.2.2;have x1:d.extract 0 l.length=d:=by rw[<- Y, <- k];exact Array.extract_size
    have x2:ds.toArray.extract 0 l.length=ds.toArray:=by rw[<- Y];exact Array.extract_size
    rw[x1,x2]at h;simpa using h
   have a2:d.toList.map (·.x)=l':=by
    rw[<- a8];refine JN (lt:=C9 cf) ?_ ?_ ?_ (QV O)
    .exact((am.map (·.x)).trans (by rw[J])).trans (Qu _ _).symm
    .intro x hx y hy;have bg:x∈l:=by rw[<- J];exact(am.map (·.x)).mem_iff.1 hx
     have bm:y∈l:=by rw[<- J];exact(am.map (·.x)).mem_iff.1 hy
     exact ai x bg y bm
    .rw[VA];intro i j hi hj be;simp only[XZ]at hi hj;simp only[List.getElem_map];rw[<- ac];have:=av i j (XS _) be (by rw[<- Y, <- k];simpa using hj);rw[getElem!_pos d j (by simpa using hj),getElem!_pos d i (by simpa using hi)]at this;simpa using this
   have bq:RL B [] (sortWorld enc' w b 0 n d os) 1 (l'.map λx=>[F x]) (d.toList.map enc'++G):=by
    have e3:d.toList.map enc'=((d.toList.map λa=>(a.x,[a.v])).map (·.2)).flatten:=by
     rw[List.map_map];exact(kK (λa:α=>a.v) d.toList).symm
    have e4:l'=(d.toList.map λa=>(a.x,[a.v])).map (·.1):=by rw[<- a2];simp
    rw[e3,e4];refine lV (enc:=λx=>[F x]) (λ_=>rfl) ?_;intro p hp;obtain⟨a,_,rfl⟩:=Xf.1 hp;exact⟨⟨_,_,rfl,a.rel.mono (ae n os d k []),rfl⟩,λv hv=>by rw[Vx.1 hv];exact a.plain⟩
   have a1:Qm fr B w B (sortWorld enc' w b 0 n d os):=
    ⟨λ_ q=>q,λc u=>g1 c (s.roLt c u) (λq=>ah (q▸u)),λc u=>g1 c (s.frLt c u) (λq=>a0 (q▸u)),g3,Q n os d k,rfl,rfl,rfl,Nat.le_add_right _ _⟩
   have ao:U.length=1:=s.len;have a3:AU fr B U [.row t 1 (l'.map λx=>[F x])] (sortWorld enc' w b 0 n d os):=by
    have i0:∀{i:Nat} {x:AR},([.row t 1 (l'.map λx=>[F x])]:Qb)[i]?=some x->i=0/\x=.row t 1 (l'.map λx=>[F x]):=by
     intro i x h;cases i with
     |zero=>simp at h;exact⟨rfl,h.symm⟩
     |succ i=>simp at h
    refine⟨ao,s.roOk.to (λ_ q=>q) a1.keepRo (λc u=>Vb (s.roLt c u) g3),λc u=>Vb (s.frLt c u) g3,s.roFr,λi c x h1 h2 h3=>?_,λi j c x y h1 h2 h3 h4 _ _=>?_,λi y x h1 h2=>?_,λi b x c h1 h2 h3=>by obtain⟨rfl,rfl⟩:=i0 h2;exact h3.elim⟩
    .obtain⟨rfl,rfl⟩:=i0 h2;obtain⟨p1,p2⟩:=s.own 0 c _ h1 rfl rfl;exact⟨Vb p1 g3,p2⟩
    .rw[(i0 h3).1,(i0 h4).1]
    .obtain⟨rfl,rfl⟩:=i0 h2;rw[q1]at h1;cases h1;exact⟨_,g2,bq⟩
   exact⟨_,_,_,B,[],rfl,⟨rfl,rfl⟩,by simpa using a3,⟨[],rfl,rfl⟩,a1⟩
end Go.Sw
namespace Go.Sw
structure Pl where
 b:Nat
 i0:Nat
 i1:Nat
 i2:Nat
 i3:Nat
def Pl.ix(p:Pl):AA Nat:=[p.b,p.i0,p.i1,p.i2,p.i3]
section
variable {α β:Type} (K:FK α β)
def Yg(p:Pl)(x:BY α β):AA A:=[.int .i64 x.number,.osl p.i0 0 x.r0.length K.kF,.osl p.i1 0 x.r1.length K.kF,.osl p.i2 0 x.r2.length K.kF,.osl p.i3 0 x.reports.length K.kR,.bool x.appeal]
structure G7 (H:Qb) (x:BY α β) (p:Pl):Prop where
 c:H[p.b]?=some (.cells K.T (Yg K p x))
 r0:H[p.i0]?=some (.row K.tF K.kF (x.r0.map K.eF))
 r1:H[p.i1]?=some (.row K.tF K.kF (x.r1.map K.eF))
 r2:H[p.i2]?=some (.row K.tF K.kF (x.r2.map K.eF))
 r3:H[p.i3]?=some (.row K.tR K.kR (x.reports.map K.eR))
abbrev DX(α β:Type):=AA (BY α β×Pl)
def Jg(bk:DX α β):AA (Int×Nat):=bk.map λe=>(e.1.number,e.2.b)
structure YP (lo:Nat) (H:Qb) (bk:DX α β):Prop where
 laid:∀e∈bk,G7 K H e.1 e.2
 own:∀e∈bk,e.2.ix.Nodup
 ne:bk.Pairwise λe f=>∀i∈e.2.ix,i∉f.2.ix
 lo:∀e∈bk,∀i∈e.2.ix,lo<=i
 num:(bk.map (·.1.number)).Nodup
variable {K} {lo:Nat} {H H':Qb} {bk l r:DX α β} {e:BY α β×Pl} {x':BY α β} {p':Pl}
theorem YP.nil:YP K lo H []:=⟨(λ_ h=>by cases h),(λ_ h=>by cases h),List.Pairwise.nil,(λ_ h=>by cases h),List.nodup_nil⟩
theorem G7.lt(h:G7 K H e.1 e.2):∀i∈e.2.ix,i<H.length:=by
 intro i a;have g:∀{j:Nat} {y:AR},H[j]?=some y->j<H.length:=(by grind);simp[Pl.ix,X3,List.not_mem_nil,or_false]at a;rcases a with rfl|rfl|rfl|rfl|rfl
 .exact g h.c
 .exact g h.r0
 .exact g h.r1
 .exact g h.r2
 .exact g h.r3
theorem G7.keep(h:G7 K H e.1 e.2)(k:∀i∈e.2.ix,H'[i]?=H[i]?):G7 K H' e.1 e.2:=by
 refine⟨?_,?_,?_,?_,?_⟩
 .rw[k _ (by simp[Pl.ix])];exact h.c
 .rw[k _ (by simp[Pl.ix])];exact h.r0
 .rw[k _ (by simp[Pl.ix])];exact h.r1
 .rw[k _ (by simp[Pl.ix])];exact h.r2
 .rw[k _ (by simp[Pl.ix])];exact h.r3
theorem YP.keep(h:YP K lo H bk)(k:∀j,lo<=j->j<H.length->H'[j]?=H[j]?):YP K lo H' bk:=
 ⟨λe he=>(h.laid e he).keep λi hi=>k i (h.lo e he i hi) ((h.laid e he).lt i hi),h.own,h.ne,h.lo,h.num⟩
theorem YP.upd(h:YP K lo H (l++e::r))(x:G7 K H' x' p')(F:x'.number=e.1.number)(u:∀j,lo<=j->j<H.length->j∉e.2.ix->H'[j]?=H[j]?)
  (hi:∀i∈p'.ix,i∈e.2.ix\/H.length<=i)(y:p'.ix.Nodup)(hl:lo<=H.length):YP K lo H' (l++(x',p')::r):=by
 obtain⟨t,z,B⟩:=List.pairwise_append.1 h.ne;obtain⟨E,w⟩:=Xc.1 z;have mem:∀f∈l++(x',p')::r,f=(x',p')\/(f∈l++e::r/\ ∀i∈f.2.ix,i∉e.2.ix):=by
  intro f a
  grind
 refine⟨?_,?_,?_,?_,?_⟩
 .intro f a;rcases mem f a with rfl|⟨d,n⟩
  .exact x
  .exact(h.laid f d).keep λi hi=>u i (h.lo f d i hi) ((h.laid f d).lt i hi) (n i hi)
 .intro f a;rcases mem f a with rfl|⟨d,n⟩
  .exact y
  .exact h.own f d
 .refine List.pairwise_append.2 ⟨t,Xc.2 ⟨?_,w⟩,?_⟩
  .intro f a i m k;rcases hi i m with q|q
   .grind
   .have:=(h.laid f (by simp[a])).lt i k;omega
  .intro f a g s i k p;rcases X3.1 s with rfl|s
   .rcases hi i p with q|q
    .grind
    .have:=(h.laid f (by simp[a])).lt i k;omega
   grind
 .intro f a;rcases mem f a with rfl|⟨d,n⟩
  .intro i m;rcases hi i m with q|q
   .exact h.lo e (by simp) i q
   .omega
  .exact h.lo f d
 .have:=h.num
  grind
theorem YP.add(h:YP K lo H bk)(n:G7 K H' x' p')(r:∀e∈bk,e.1.number≠x'.number)(l:∀j,lo<=j->j<H.length->H'[j]?=H[j]?)
  (hi:∀i∈p'.ix,H.length<=i)(p:p'.ix.Nodup)(hl:lo<=H.length):YP K lo H' (bk++[(x',p')]):=by
 have m:=h.keep l;have mem:∀f∈bk++[(x',p')],f∈bk\/f=(x',p'):=by
  simp
 refine⟨?_,?_,?_,?_,?_⟩
 .intro f a;rcases mem f a with q|rfl
  .exact m.laid f q
  .exact n
 .intro f a;rcases mem f a with q|rfl
  .exact h.own f q
  .exact p
 .refine List.pairwise_append.2 ⟨h.ne,by simp,λf a g s i d k=>?_⟩;have:=(h.laid f a).lt i d
  grind
 .intro f a i d;rcases mem f a with q|rfl
  .exact h.lo f q i d
  grind
 .rw[Xg];refine List.nodup_append.2 ⟨h.num,by simp,?_⟩
  grind
theorem k8:∀(a:DX α β) (k:Int),(Yv (Jg a) k=none/\ ∀e∈a,e.1.number≠k)\/ ∃l e r,a=l++e::r/\e.1.number=k/\(∀y∈l,y.1.number≠k)/\Yv (Jg a) k=some e.2.b
 |[],k=>.inl ⟨rfl,λ_ h=>by cases h⟩
 |e::l,k=>by
  have e0:Yv (Jg (e::l)) k=if e.1.number=k then some e.2.b else Yv (Jg l) k:=by
   grind[Yv,Jg]
  by_cases q:e.1.number=k
  .exact .inr ⟨[],e,l,rfl,q,(λ_ h=>by cases h),by grind⟩
  .rcases k8 l k with⟨f,d⟩|⟨p,y,r,f,d,i,g⟩
   .grind
   grind
theorem xC(p q:DX α β):Jg (p++q)=Jg p++Jg q:=by simp[Jg]
theorem xD(a:x'.number=e.1.number)(d:p'.b=e.2.b):Jg (l++(x',p')::r)=Jg (l++e::r):=by simp[Jg,a,d]
end
section
variable {fr ro ro':Nat->Prop} {U:AZ} {w:World} {α β:Type} (K:FK α β)
theorem vL(sub:∀c,ro c->ro' c){p:Pl}{x:BY α β}{v:Value}{H:Qb}(hl:G7 K H x p)(e:∀i∈p.ix,∀(c:Nat) (y:AR),H[i]?=some y->U[i]?=some (some c)->BR ro U w y (some c)/\ro' c)(h:VR ro U w (.ptr p.b 0) v):VR ro' [] w (.rp (jE K x)) v:=by
 obtain⟨c,n,g⟩:=h;obtain⟨⟨l,t,a,s⟩,f⟩:=e p.b (by simp[Pl.ix]) c _ hl.c n;refine⟨c,0,g,f,(aN (pre:=[]) (by simpa using t) ?_ s)⟩;obtain⟨v0,G,rfl,m,a⟩:=a;obtain⟨q,J,rfl,N,a⟩:=a;obtain⟨z,O,rfl,E,a⟩:=a;obtain⟨j,B,rfl,L,a⟩:=a;obtain⟨r,F,rfl,M,a⟩:=a;obtain⟨u,P,rfl,k,a⟩:=a;refine⟨v0,_,rfl,m,q,_,rfl,Nq sub (λc d=>e p.i0 (by simp[Pl.ix]) c _ hl.r0 d) (by grind),z,_,rfl,Nq sub (λc d=>e p.i1 (by simp[Pl.ix]) c _ hl.r1 d) (by grind),j,_,rfl,Nq sub (λc d=>e p.i2 (by simp[Pl.ix]) c _ hl.r2 d) (by grind),
  r,_,rfl,Nq sub (λc d=>e p.i3 (by simp[Pl.ix]) c _ hl.r3 d) (by grind),u,_,rfl,k,a⟩
theorem qS(sub:∀c,ro c->ro' c){H:Qb}{ek:Int->A}(hek:∀(k:Int) (v:Value),VR ro U w (ek k) v->VR ro' [] w (ek k) v):∀{bk:DX α β} {es:AA MapEntry},(∀e∈bk,G7 K H e.1 e.2)->(∀e∈bk,∀i∈e.2.ix,∀(c:Nat) (y:AR),H[i]?=some y->U[i]?=some (some c)->BR ro U w y (some c)/\ro' c)->
  ER ro U w (Qt ek Ho (Jg bk)) es->ER ro' [] w (Qt ek (GW K) (Hm (bk.map (·.1)))) es
 |[],es,_,_,h=>h
 |x::l,es,hl,hb,h=>by
  obtain⟨e,l',rfl,h1,h2,h3⟩:=h;exact⟨e,l',rfl,hek _ _ h1,vL K sub (hl x (by simp)) (hb x (by simp)) h2,qS sub hek (by grind) (λe he=>hb e (by simp[he])) h3⟩
def LA(bk:DX α β):AA Nat:=bk.flatMap λe=>e.2.ix
theorem YP.all{lo:Nat}{H:Qb}:∀{f:DX α β},YP K lo H f->(LA f).Nodup/\ ∀i∈LA f,lo<=i/\ ∃y,H[i]?=some y/\y.live=true:=by
 intro f h;refine⟨?_,?_⟩
 .have k:=h.own;have j:=h.ne
  grind[LA]
 .intro i d;obtain⟨e,g,d⟩:=List.mem_flatMap.1 d;refine⟨h.lo e g i d,?_⟩;have a:=h.laid e g;simp[Pl.ix,X3,List.not_mem_nil,or_false]at d;rcases d with rfl|rfl|rfl|rfl|rfl
  .exact⟨_,a.c,rfl⟩
  .exact⟨_,a.r0,rfl⟩
  .exact⟨_,a.r1,rfl⟩
  .exact⟨_,a.r2,rfl⟩
  .exact⟨_,a.r3,rfl⟩
end
section
variable {α β:Type} (K:FK α β) {env:Env} {H:Qb}
theorem vA{h0 lo m:Nat}{f:DX α β}(B:YP K lo H f)(P:Nat.blt m lo=true)(Q:H[m]?=some (.mapP (Qt (λn=>.int .i64 n) Ho (Jg f)))):
  Le h0 env H env ((IA H (LA f)).set m (.fmap (Qt (λn=>.int .i64 n) (GW K) (Hm (f.map (·.1)))))):=by
 intro V u U N a w r;have s:=r.sim;obtain⟨nd,E⟩:=B.all;have J:m<lo:=by simp_all
 have O:∃q,U[m]?=some q:=by
  have:m<U.length:=by rw[s.len];grind
  simp_all
 obtain⟨q,z⟩:=O;cases q with
 |none=>exact(s.blk m _ _ z Q).elim
 |some x=>
 obtain⟨d,R,g,p⟩:=kz s nd (by grind);have t:(IA H (LA f))[m]?=some (.mapP (Qt (λn=>.int .i64 n) Ho (Jg f))):=by
  grind[qV]
 have T:=R.shutMapP (es':=Qt (λn=>.int .i64 n) (GW K) (Hm (f.map (·.1)))) z t (λl G=>?_)
 .have sub:∀c,u c->d c\/c=x:=(by grind);have ext:BI u U w (λc=>d c\/c=x) U w:=⟨sub,λ_ _=>rfl,λ_ _ q=>q,λ_ _ q=>q⟩;exact⟨_,U,⟨T,λq=>(r.env q).mono ext,r.size,r.defers⟩,sub,rfl⟩
 .have ext:BI u U w d U w:=⟨g,λ_ _=>rfl,λ_ _ q=>q,λ_ _ q=>q⟩;exact qS K (ek:=λn=>.int .i64 n) (ro':=λc=>d c\/c=x) (λc j=>.inl j) (λk v h=>h) B.laid (λe F i L c y M j=>(⟨(s.blk _ _ _ j M).keep ext (λ_ _ _=>rfl) (λ_ _ _ _=>rfl),.inl (p _ (List.mem_flatMap.2 ⟨e,F,L⟩) c j)⟩)) G
end
section
variable {P:Program} {h0 N:Nat} {all:Array Oper} {o:Oper} {l:AA Oper} {env:Env} {H:Qb} {Q:QW}
theorem lO{d:Nat}{f:FuncId}{args:AA A}{Qr:A->Qb->Prop}(j:Bh P o env H f args)(x:C P f args H Qr)
  (k:∀r H1,Qr r H1->WO P h0 N all l (up env d r) H1 Q)(J:h0<=H.length)(hg:Qy all o env true:=by exact rfl)(hd:o.dst=some d:=by exact rfl)(hN:Nat.blt d N=true:=by exact rfl):
  WO P h0 N all (o::l) env H Q:=by
 intro G fr n U a w r hrd;obtain⟨g,z,B⟩:=j fr n U N a w r;refine lT (YV hg r) z ?_;have hσl:=r.sim.len;refine Calls.mono (x fr n U g w r.sim B) ?_;rintro e p ⟨v,m,H1,h,τ,rfl,E,y,u,ev⟩;have t:=k m H1 E;simp only[hd];have i:d<N:=by simp_all
 have F:BL fr h (U++τ) H1 (up env d m) N {a with tmps:=a.tmps.setIfInBounds d v} p:=
  ⟨y,VR.up (fr:=fr) (λs=>(r.env s).mono (ev.ext U τ)) (by rw[r.size];exact i) u,by simpa using r.size,r.defers.keep ev⟩
 exact⟨_,rfl,Yx (λe a w q=>q.step ev (by grind)) _ _ _ (t G fr h (U++τ) _ p F (hrd.to ev λ_ q=>q))⟩
end
section
variable {h0 n:Nat} {env env':Env} {H H':Qb}
theorem u'(n:Nat)(hn:h0<=n)(hl:n<=H.length)(hH:(H'.map (Q9 (Af (List.range n) H.length))).map some=(List.range n).map (λp=>H[p]?))(hE:Fk (Af (List.range n) H.length) env env'):Le h0 env H env' H':=
 nK (List.range n) (by grind) hH.symm List.nodup_range hE
end
section
variable {P:Program} {o:Oper} {env:Env} {H:Qb} {α:Type}
end
section
variable {α β:Type}
def D_(k:Int):BY α β:=⟨k,[],[],[],[],false⟩
def Cu(fs:AA (BY α β))(k:Int):AA (BY α β):=bif fs.any (λx=>decide (x.number=k))then fs else fs++[D_ k]
def FR(fs:AA (BY α β))(k:Int)(g:BY α β->BY α β):AA (BY α β):=fs.map λx=>bif x.number=k then g x else x
def Ov(fs:AA (BY α β)):Bool:=fs.all λx=>Nat.ble (x.r0.length+1) QE&&Nat.ble (x.r1.length+1) QE&&Nat.ble (x.r2.length+1) QE&&Nat.ble (x.reports.length+1) QE
variable (K:FK α β) {lo:Nat} {H H':Qb} {bk:DX α β}
theorem Wf{fs:AA (BY α β)}{k:Int}(h:∃x∈fs,x.number=k):Cu fs k=fs:=by
 unfold Cu
 grind
theorem Wq{fs:AA (BY α β)}{k:Int}(h:∀x∈fs,x.number≠k):Cu fs k=fs++[D_ k]:=by
 unfold Cu
 grind
theorem vr{l r:AA (BY α β)}{x:BY α β}{k:Int}{g:BY α β->BY α β}(a:((l++x::r).map (·.number)).Nodup)(d:x.number=k):FR (l++x::r) k g=l++g x::r:=by
 simp_all[List.nodup_append,FR,List.map_congr_left]
theorem qC{l r:AA (BY α β)}{x:BY α β}(h:Ov (l++x::r)=true):x.r0.length+1<=QE/\x.r1.length+1<=QE/\x.r2.length+1<=QE/\x.reports.length+1<=QE:=by
 simp_all[Ov]
def FY(n:Nat):Pl:=⟨n,n+1,n+2,n+3,n+4⟩
def Wj(n:Nat)(k:Int):Qb:=[.cells K.T (Yg K (FY n) (D_ k)),.row K.tF K.kF [],.row K.tF K.kF [],.row K.tF K.kF [],.row K.tR K.kR []]
theorem yU{h0:Nat}{env:Env}{k:Int}(d:h0<=H.length):
  Le h0 env (H++[.cells K.T [.int .i64 k,.nils,.nils,.nils,.nils,.bool false]]) env (H++Wj K H.length k):=by
 have a:∀(n:Nat) (G:Qb) (cs cs':AA A) (t k':Nat) (m:Nat),n=H.length+1+G.length->cs[m]?=some .nils->cs'=cs.set m (.osl n 0 0 k')->
   Le h0 env (H++.cells K.T cs::G) env (H++.cells K.T cs'::(G++[.row t k' []])):=by
  intro n G cs cs' t k' m hn hm hc;have:=YY (h0:=h0) (env:=env) (H:=H++.cells K.T cs::G) (i:=H.length) (t:=t) (k:=k') (T:=K.T)
   (by simp;omega) (by simp) hm
  grind
 refine Le.trans (a (H.length+1) [] _ _ K.tF K.kF 1 (by simp) rfl rfl) ?_;refine Le.trans (a (H.length+2) [.row K.tF K.kF []] _ _ K.tF K.kF 2 (by simp) rfl rfl) (Le.trans (a (H.length+3) [.row K.tF K.kF [],.row K.tF K.kF []] _ _ K.tF K.kF 3 (by simp) rfl rfl) ?_);exact a (H.length+4) [.row K.tF K.kF [],.row K.tF K.kF [],.row K.tF K.kF []] _ _ K.tR K.kR 4 (by simp) rfl rfl
theorem G7.new{k:Int}:G7 K (H++Wj K H.length k) (D_ k) (FY H.length):=by
 have g:∀(j:Nat) (y:AR),(Wj K H.length k)[j]?=some y->(H++Wj K H.length k)[H.length+j]?=some y:=by
  grind
 exact⟨g 0 _ rfl,g 1 _ rfl,g 2 _ rfl,g 3 _ rfl,g 4 _ rfl⟩
theorem oG(n:Nat):(∀i∈(FY n).ix,n<=i)/\(FY n).ix.Nodup:=by
 simp_all[Pl.ix,FY]
variable {K}
theorem YP.new{k:Int}(h:YP K lo H bk)(a:∀e∈bk,e.1.number≠k)(hl:lo<=H.length):YP K lo (H++Wj K H.length k) (bk++[(D_ k,FY H.length)]):=by
 refine h.add (G7.new K) a (by grind) (oG _).1 (oG _).2 hl
theorem YP.row{l r:DX α β}{e:BY α β×Pl}{x':BY α β}{d:Pl}{i:Nat}{y:AR}(h:YP K lo H (l++e::r))(hl:lo<=H.length)(w:x'.number=e.1.number)(hi:i∈e.2.ix)(n:i≠e.2.b)(x:d.b=e.2.b)
  (hH:H'=(H.set i .dead++[y]).set e.2.b (.cells K.T (Yg K d x')))
  (p:d.ix=e.2.ix.map λj=>bif Nat.beq j i then H.length else j)
  (h0:H'[d.i0]?=some (.row K.tF K.kF (x'.r0.map K.eF)))(s:H'[d.i1]?=some (.row K.tF K.kF (x'.r1.map K.eF)))(u:H'[d.i2]?=some (.row K.tF K.kF (x'.r2.map K.eF)))(q:H'[d.i3]?=some (.row K.tR K.kR (x'.reports.map K.eR))):
  YP K lo H' (l++(x',d)::r):=by
 have k:=h.laid e (by simp);have f:=k.lt;have t:e.2.b<H.length:=f _ (by simp[Pl.ix]);refine h.upd ⟨?_,h0,s,u,q⟩ w ?_ ?_ ?_ hl
 .grind
 .grind[List.getElem?_set_ne,Pl.ix]
 .grind
 .rw[p];have g:=h.own e (by simp);refine List.pairwise_map.2 (List.Pairwise.imp_of_mem ?_ g);intro a b B x m;cases z:Nat.beq a i with
  |true=>
   cases E:Nat.beq b i with
   |true=>simp_all
   |false=>grind
  |false=>
   grind
end
section
variable {fr ro:Nat->Prop} {U:AZ} {H:Qb} {w:World}
end
section
variable {P:Program} {o:Oper} {env:Env} {H:Qb}
theorem Le.frow{h0 s i n k t:Nat}{es:AA (AA A)}(B:lk env s=.osl i 0 n k)(hH:H[i]?=some (.frow t k es))(j:es.length=n):Le h0 env H (up env s (.rsl k es)) H:=by
 intro P x U N a w r;refine⟨x,U,⟨r.sim,?_,r.size,r.defers⟩,λ_ q=>q,rfl⟩;intro e;simp only[lk];by_cases q:e=s
 .subst q;rw[VB];have:=r.env e;rw[B]at this;rcases this with⟨g,f⟩|⟨b,p,d,T,m,g,f,u,⟨O,J⟩,Q,L⟩
  .have:es=[]:=(by grind);subst this;exact⟨none,0,by rw[f];rfl,XR _,.inl rfl⟩
  .obtain⟨F,l,E,G,R⟩:=r.sim.blk i _ _ g hH;refine⟨_,d,by rw[f,j],by omega,?_⟩;by_cases h:es=[]
   .exact .inl h
   .right;have y:0<d:=(by grind);have M:=u y;exact⟨b,0,by simp,F,(Jc (pre:=[]) (by simpa using E) G)⟩
 .have:Nat.beq e s=false:=by
   cases z:Nat.beq e s with
   |true=>simp_all
   |false=>rfl
  rw[this];exact r.env e
end
open Go.MapKept
section
variable {P:Program} {kt et:Nat} {α β:Type} [DecidableEq α] {ek:α->A} {ev:β->A} {ro:Nat->Prop} {U:AZ} {w:World} (K:Jj P kt ek)
include K
variable {o:Oper} {env:Env} {H:Qb} {T T' i:Nat} {x y:Operand} {l m:AA (α×β)} {k:α}
end
end Go.Sw
namespace Go.Sw
variable {y:Operand}
section
variable {P:Program} {h0 N:Nat} {all:Array Oper} {o1 o2:Oper} {l:AA Oper} {env:Env} {H:Qb} {Q:QW}
theorem xB{t n d:Nat}{z:Value}{v:A}{cs zs:AA A}(hz:∀w,(zeroValue t).run P w=.ok z w)(hv:ZR v z)(hs:∀w,(Go.sizeOf t).run P w=.ok n w)
  (k:WO P h0 N all l (up env d (.rp cs)) H Q)(hk:Yr v=true:=by exact rfl)(hzs:YD v=zs:=by exact rfl)(hpl:zs.all YJ=true:=by exact rfl)(hzn:zs.length=n:=by exact rfl)(hn:cs.length=n:=by exact rfl)
  (ho1:o1.op=.alloc t:=by exact rfl)(hd1:o1.dst=some d:=by exact rfl)(ho2:o2.op=.store t (.tmp d) y:=by exact rfl)(hd2:o2.dst=none:=by exact rfl)(hy:AM (up env d .any) y=.agg cs:=by exact rfl)(hda:YB cs=true:=by exact rfl)(hcp:cs.all YJ=true:=by exact rfl)(hkc:Yr (.agg cs)=true:=by exact rfl)(hcc:YD (.agg cs)=cs:=by exact rfl)
  (hg1:Qy all o1 env true:=by exact rfl)(hg2:Qy all o2 (up env d .any) true:=by exact rfl)(hN:Nat.blt d N=true:=by exact rfl):WO P h0 N all (o1::o2::l) env H Q:=by
 intro rd fr p U a w r hrd;obtain⟨M,h2,h3⟩:=(hv p U w).cells hk;rw[hzs]at h3
 let w1:World:=w.alloc (.cells M.toArray t)
 have T:(execOp a.eval o1).run P w=.ok (.value (.pointer (some ⟨w.heap.size,0,none⟩))) w1:=by
  generalize a.eval=ρ at*;have e:(newVar t z).run P w=.ok ⟨w.heap.size,0,none⟩ (w.alloc (.cells M.toArray t)):=by
   unfold newVar;rw[h2];rfl
  simp only[execOp,ho1,Instr.alloc,Vi,hz,Result.andThen,e];rfl
 refine JT (YV hg1 r) T ?_;simp only[hd1,Act.put];have ab:d<N:=by simp_all
 have G:d<a.tmps.size:=by rw[r.size];exact ab
 let a1:Act:={a with tmps:=a.tmps.setIfInBounds d (.pointer (some ⟨w.heap.size,0,none⟩))}
 have B:∀b,b<w.heap.size->w1.heap[b]?=w.heap[b]? :=λb hb=>Yt _ _ b hb;have L:w.heap.size<=w1.heap.size:=by grind
 have g:Qm fr p w p w1:=Qm.alloc _ r.sim.roLt r.sim.frLt;have r1:BL fr p U H (up env d .any) N a1 w1:=⟨r.sim.grown B L,VR.up (fr:=fr) (λs=>(r.env s).mono (g.ext0 U)) G trivial,by simpa[a1]using r.size,r.defers.keep g⟩;have R:=Ql r1 y;rw[hy]at R;obtain⟨m,h4,O⟩:=R.cells hkc;rw[hcc]at O;have j:w1.heap[w.heap.size]?=some (.cells M.toArray t (0,0)):=Ys _ _;have ac:M.length=n:=by rw[h3.length,hzn]
 have W:m.length=n:=by rw[O.length,hn]
 have X:=Yz (P:=P) (vs:=m) 0 0 j (by omega) (O.plain hcp);have Y:splice M (0+0) m=m:=by
  unfold splice
  grind
 rw[Y]at X
 let w2:World:={w1 with heap:=w1.heap.setIfInBounds w.heap.size (.cells m.toArray t (0,0))}
 have he:a1.eval (.tmp d)=.pointer (some ⟨w.heap.size,0,none⟩):=by
  show(a.tmps.setIfInBounds d _).getD d undef=_
  simp_all
 have F:(execOp a1.eval o2).run P w1=.ok .skip w2:=by
  have ag:(storeVar t ⟨w.heap.size,0,none⟩ (a1.eval y)).run P w1=.ok () w2:=by
   unfold storeVar;rw[Vi,hs];simp only[Result.andThen]
   grind
  simp_all[execOp,Instr.storeAt,Instr.sureAddr]
 refine po (YV hg2 r1) F ?_;simp only[hd2,Act.put];have f:∀b,b<w.heap.size->w2.heap[b]?=w.heap[b]? :=λb hb=>by
  grind
 have ae:w2.heap.size=w1.heap.size:=by simp[w2]
 have af:w.heap.size<w1.heap.size:=(X9.1 j).1;have E:w.heap.size<=w2.heap.size:=by omega
 have h:w2.heap[w.heap.size]?=some (.cells m.toArray t (0,0)):=by
  grind
 have s1:=r.sim.grown f E;have s2:=s1.addRo (b:=w.heap.size) (by omega) (λq=>Nat.lt_irrefl _ (r.sim.frLt _ q)) (λi x J V p3=>Nat.lt_irrefl _ (r.sim.own i _ x J V p3).1)
  (λi d x J V p3=>Nat.lt_irrefl _ (r.sim.hid i d x _ J V (r.sim.hidKeep J V (λz=>f d (r.sim.own i d x J V z).1) (λb q=>f b (r.sim.roLt b q)) p3)).lt)
 have ev:Qm fr p w (λc=>p c\/c=w.heap.size) w2:=by
  refine⟨λb q=>.inl q,λb q=>f b (r.sim.roLt b q),λb q=>f b (r.sim.frLt b q),E,?_,g.os,g.tape,g.output,g.drawn⟩
  grind[World.shape?]
 have aa:VR (λc=>p c\/c=w.heap.size) U w2 (.rp cs) (.pointer (some ⟨w.heap.size,0,none⟩)):=by
  refine⟨w.heap.size,0,rfl,.inr rfl,?_⟩;refine aN (pre:=[]) (by simpa using h) ?_ (O.plain hcp);have h6:LR p [] w1 cs m:=LR.data hda O;refine h6.mono ⟨λ_ q=>.inl q,λb q=>?_,λb x u=>?_,λ_ _ q=>q⟩
  .show(w1.heap.setIfInBounds w.heap.size _)[b]?=_;have:=r.sim.roLt b q;rw[Array.getElem?_setIfInBounds_ne (by omega)]
  .by_cases e:b=w.heap.size
   .subst e;unfold World.shape? at u⊢;rw[j]at u;rw[h];simp at u⊢;rw[ac]at u;rw[W];exact u
   .unfold World.shape? at u⊢;rw[show w2.heap[b]?=w1.heap[b]? from Array.getElem?_setIfInBounds_ne (Ne.symm e)];exact u
 have r2:BL fr (λc=>p c\/c=w.heap.size) U H (up env d (.rp cs)) N a1 w2:=
  ⟨s2,VR.up (fr:=fr) (λs=>(r.env s).mono (ev.ext0 U)) G aa,by simpa[a1]using r.size,r.defers.keep ev⟩
 exact Yx (λe a w q=>q.step ev rfl) _ _ _ (k rd fr _ U a1 w2 r2 (hrd.to ev λ_ q=>q))
end
variable {t:TypeId}
section
variable {P:Program} {o:Oper} {env:Env} {H:Qb}
theorem sz{e:TypeId}{p:AB Addr}{w:World}(a:∀w,(underlying t).run P w=.ok (.pointer e) w):(Op.equal t (.pointer p) (.pointer none)).run P w=.ok p.isNone w:=by
 have k:∀d,(Op.equalIn (d+1) t (.pointer p) (.pointer none)).run P w=.ok p.isNone w:=by
  cases p<;>simp[Op.equalIn,a]
 exact k 9999
theorem zb{e u:TypeId}{x:Operand}{i off:Nat}(n:∀w,(underlying t).run P w=.ok (.pointer e) w)(f:AM env x=.ptr i off)(g:o.op=.binOp .eql t x (.const (.pointer none)) u:=by exact rfl):AK P o env H (.bool false):=by
 intro k m U N a w r;have d:=Ql r x;rw[f]at d;obtain⟨b,j,h⟩:=d;have l:a.eval (.const (.pointer none))=.pointer none:=rfl;refine⟨_,?_,rfl⟩
 simp_all[execOp,Go.binOp,eqGuard,sz]
theorem za{e u:TypeId}{x:Operand}(l:∀w,(underlying t).run P w=.ok (.pointer e) w)(f:AM env x=.nilp)(g:o.op=.binOp .eql t x (.const (.pointer none)) u:=by exact rfl):AK P o env H (.bool true):=by
 intro i k U N a w r;have d:=Ql r x;rw[f]at d;have j:a.eval (.const (.pointer none))=.pointer none:=rfl;have h:a.eval x=.pointer none:=d;refine⟨_,?_,rfl⟩
 simp_all[execOp,Go.binOp,eqGuard,sz]
end
variable {hi:Int}
section
variable {P:Program} {o:Oper} {env:Env} {H:Qb} {α:Type}
def K7(l:AA α)(lo hi i:Int):AB α:=bif decide (0<=lo)&&(decide (0<=i)&&decide (lo+i<hi))then AJ l (lo+i)else none
theorem oc{l:AA α}{lo i:Int}{v:α}(h:K7 l lo hi i=some v):0<=lo/\0<=i/\lo+i<hi/\AJ l (lo+i)=some v:=by
 unfold K7 at h
 grind
theorem jp{l:AA α}{lo i:Int}{v:α}(h:K7 l lo hi i=some v):AJ l (lo+i)=some v:=(oc h).2.2.2
theorem kX{t a k b:Nat}{x:Operand}{l:AA α}{f:IntKind}{lo i:Int}{v:α}(h:K7 l lo hi i=some v)(m:∀w,(underlying t).run P w=.ok (.slice a) w)(n:∀w,(sizeOf a).run P w=.ok k w)
  (d:o.op=.indexAddr t x y:=by exact rfl)(hx:AM env x=.osl b (0+lo.toNat) (hi.toNat-lo.toNat) k:=by exact rfl)(hy:AM env y=.int f i:=by exact rfl):AK P o env H (.ptr b ((lo+i).toNat*k)):=by
 obtain⟨p,j,q,_⟩:=oc h;have g:=jn (H:=H) d m n hx hy j (by omega);have e:(0+lo.toNat)*k+i.toNat*k=(lo+i).toNat*k:=by
  rw[<- Xz]
  grind
 rwa [e]at g
end
theorem Le.same{h0:Nat}{env:Env}{H H':Qb}(e:H=H'):Le h0 env H env H':=e▸Le.refl h0 env H
section
variable {P:Program} {o:Oper} {env:Env} {H:Qb}
theorem lK{β:Type}{t G n:Nat}{x:Operand}{L:AA β}{f:β->A}{rest cs:AA A}{i:Int}{l:β}{B:IntKind}(h:AJ L i=some l)(z:cs=L.map f++rest)(W:L.length=n)(T:∀w,(underlying t).run P w=.ok (.array n G) w)(Q:∀w,(sizeOf G).run P w=.ok 1 w)(R:Nat.ble 2 n=true)
  (J:o.op=.indexAddr t x y:=by exact rfl)(hx:AM env x=.rp cs:=by exact rfl)(hy:AM env y=.int B i:=by exact rfl):AK P o env H (.rp [f l]):=by
 intro V ro U N a w r;have m:=Ql r x;rw[hx]at m;obtain⟨k,d,m,u,s⟩:=m;have E:=Ql r y;rw[hy]at E;have q:a.eval y=.int B i:=E;obtain⟨Y,F⟩:=G8 h;have M:i.toNat<L.length:=(by grind);have O:i=(i.toNat:Int):=by omega
 generalize i.toNat=j at*;subst O;have p:j<n:=by omega
 refine⟨.pointer (some ⟨k,d+j*1,none⟩),?_,k,d+j*1,rfl,u,?_⟩
 .have hr:=by omega
  have g:(⟨k,d,none⟩:Addr).add ((j:Int).toNat*1)=⟨k,d+j*1,none⟩:=by
   grind[Addr.add]
  generalize a.eval=ρ at*;simp[execOp,J,m,q,Instr.indexAt,asIntOf,T,Q,hr,g,go_sem,p]
 .have X:=CR.take 1 (CR.drop j s);have e:(cs.drop j).take 1=[f l]:=by
   rw[z,X5 (by rw[XZ];omega), <- List.map_drop]
   simp_all[Xq]
  grind
end
variable {β:Type}
section
variable {env:Env} {H:Qb}
theorem xV{h0 i j m o' n k T:Nat}{x:AR}{cs:AA A}(hi:H[i]?=some x)(u:H[j]?=some (.cells T cs))(s:cs[m]?=some (.osl i o' n k))(d:Nat.beq i j=false)(W:Nat.ble h0 H.length=true):
  Le h0 env H env ((H.set i .dead).set j (.cells T (cs.set m (.osl H.length o' n k)))++[x]):=by
 intro Y E U N a w r;have hiσ:i<U.length:=by rw[r.sim.len];exact(XJ.1 hi).1
 have hσ:U[i]?=some U[i]:=XI hiσ;have ext:BI E U w E (U++[U[i]]) w:=⟨λ_ q=>q,λ_ _=>rfl,λ_ _ q=>q,λ_ _ h=>S4 h⟩;have P:=r.sim.moved hi hσ;have f:j<H.length:=(XJ.1 u).1;have B:i≠j:=λq=>by rw[q,VB]at d;cases d
 have e:(H.set i .dead++[x])[j]?=some (.cells T cs):=by
  rw[XK (by simpa using f),XN B];exact u
 have Q:(H.set i .dead).set j (.cells T (cs.set m (.osl H.length o' n k)))++[x]=(H.set i .dead++[x]).set j (.cells T (cs.set m (.osl H.length o' n k))):=by
  rw[List.set_append_left _ _ (by simpa using f)]
 rw[Q];refine⟨E,U++[U[i]],⟨P.weaken e rfl ?_,λq=>(r.env q).mono ext,r.size,r.defers⟩,λ_ q=>q,QI (by rw[r.sim.len];exact XP W)⟩;have g:U.length=H.length:=r.sim.len;intro y h;cases y with
 |none=>exact h
 |some b=>
  obtain⟨l,O,X,M⟩:=h;refine⟨l,O,?_,M⟩;clear O M e Q u P
  induction cs generalizing m l with
  |nil=>cases s
  |cons c cs R=>
   obtain⟨v,F,rfl,J,G⟩:=X;cases m with
   |zero=>
    simp at s;subst s;refine⟨v,F,rfl,?_,G⟩;rcases J with h|⟨b,p,z,t,m,L,V⟩
    .exact .inl h
    .refine .inr ⟨b,p,z,t,m,?_,V⟩;rw[XK hiσ,hσ]at L;rw[<- g];simpa using L
   |succ m=>exact⟨v,F,rfl,J,R (by simpa using s) F G⟩
def O0{γ:Type}(o:AB β)(n:AB γ)(s:β->AB γ):AB γ:=match o with
 |none=>n
 |some v=>s v
theorem xW{β γ:Type}{o:AB β}{n:AB γ}{s:β->AB γ}{r:γ}(h:O0 o n s=some r):(o=none/\n=some r)\/ ∃v,o=some v/\s v=some r:=by
 cases o with
 |none=>exact .inl ⟨rfl,h⟩
 |some v=>exact .inr ⟨v,rfl,h⟩
theorem jm{P:Program}{o:Oper}{H':Qb}{T:Nat}{x zz:Operand}(e:o.op=.insert T x y zz)(h:FS P {o with op:=.mapUpdate T x y zz} env H H'):FS P o env H H':=by
 intro f j U N a w r;obtain⟨l,d,τ,i,k,g⟩:=h f j U N a w r;exact⟨l,d,τ,by simpa only[execOp,e]using i,k,g⟩
end
section
variable {P:Program} {o:Oper} {env:Env} {H:Qb} {T kt et:Nat} {α β:Type} [DecidableEq α] {ek:α->A} {ev:β->A} {x y:Operand} {i:Nat} {l:AA (α×β)} {k:α} {z:Value} {zA:A}
theorem wx{v:β}(K:Jj P kt ek)(f:Yv l k=some v)(z:P.underlying T=some (.map kt et))
  (t:o.op=.lookup T x y true:=by exact rfl)(hx:AM env x=.map i:=by exact rfl)(hH:H[i]?=some (.map (Qt ek ev l)):=by exact rfl)(hy:AM env y=ek k:=by exact rfl):AK P o env H (.tup [ev v,.bool true]):=by
 intro X W U N a w r;have m:=Ql r x;rw[hx]at m;obtain⟨b,J,u⟩:=m;have h:=Ql r y;rw[hy]at h;have G:=VR.val (K.scl _) h;obtain⟨L,d,E,s,p3,R,Q⟩:=r.sim.blk i _ _ J hH;obtain⟨B,F⟩:=ER.find K s k Q;rcases K.find w k L.toList (PC K s)with⟨p,g⟩|⟨j,e,p,g,M⟩
 .rw[(B g).1]at f;cases f
 .obtain⟨V,Y,n,O⟩:=F j e g M;rw[f]at n;cases n;refine⟨.tuple #[e.val,.bool true],?_,[e.val,.bool true],rfl,e.val,_,rfl,O.mono ⟨λ_ q=>q,λ_ _=>rfl,λ_ _ q=>q,λj c q=>by simp at q⟩,_,_,rfl,rfl,rfl⟩;have:(Instr.lookup T (.map (some b)) (Q0 (ek k)) true).run P w=.ok (.tuple #[e.val,.bool true]) w:=by
   simp only[Instr.lookup,Vi,run_underlying z,Result.andThen,MapKept.run_getObj_map E,Vj,K.check,p,if_true]
  simp only[execOp,t,u,G,Vi,this,Result.andThen];rfl
theorem ww(K:Jj P kt ek)(Q:Yv l k=none)(u:P.underlying T=some (.map kt et))(J:∀w,(zeroValue et).run P w=.ok z w)(d:ZR zA z)
  (s:o.op=.lookup T x y true:=by exact rfl)(hx:AM env x=.map i:=by exact rfl)(hH:H[i]?=some (.map (Qt ek ev l)):=by exact rfl)(hy:AM env y=ek k:=by exact rfl):AK P o env H (.tup [zA,.bool false]):=by
 intro Y X U N a w r;have h:=Ql r x;rw[hx]at h;obtain⟨b,G,t⟩:=h;have g:=Ql r y;rw[hy]at g;have F:=VR.val (K.scl _) g;obtain⟨L,f,B,p,p3,R,O⟩:=r.sim.blk i _ _ G hH;obtain⟨V,E⟩:=ER.find K p k O;rcases K.find w k L.toList (PC K p)with⟨n,q⟩|⟨j,e,n,q,M⟩
 .refine⟨.tuple #[z,.bool false],?_,[z,.bool false],rfl,z,_,rfl,d _ _ _,_,_,rfl,rfl,rfl⟩;have:(Instr.lookup T (.map (some b)) (Q0 (ek k)) true).run P w=.ok (.tuple #[z,.bool false]) w:=by
   simp only[Instr.lookup,Vi,run_underlying u,Result.andThen,MapKept.run_getObj_map B,Vj,K.check,n,J,if_true]
  simp only[execOp,s,t,F,Vi,this,Result.andThen];rfl
 .obtain⟨W,v',m,u3⟩:=E j e q M;rw[Q]at m;cases m
end
open Go.Sort Go.Proofs Go.Shelf
end Go.Sw
namespace Go.Sw
variable {P:Program}
theorem qD{T e k:Nat}{w:World}(E1:∀w,(underlying T).run P w=.ok (.slice e) w)(E2:∀w,(sizeOf e).run P w=.ok k w){ad:AB Addr}{n cap:Nat}{z:Int}(a:n<=cap)(h0:0<=z)(f:z<=n):
  (Instr.sliceAt T (.slice ad n cap) none (some (.int .i64 z)) (some (.int .i64 z))).run P w=.ok (.slice (if z.toNat=0 then ad else ad.map (·.add (0*k))) (z.toNat-0) (z.toNat-0)) w:=by
 have d:(Instr.sliceBounds true n cap none (some (.int .i64 z)) (some (.int .i64 z))).run P w=.ok (0,z.toNat,z.toNat) w:=by
  simp[Instr.sliceBounds,Vi,Vj,Result.andThen,Y3 h0 (show z<=cap by omega),Y3 h0 (show z<=z.toNat by omega)]
 simp[Instr.sliceAt,Vi,E1,Result.andThen,Instr.slice,d,E2,Vj]
theorem kV{α:Type}{o:Oper}{env:Env}{H:Qb}{T et k b:Nat}{x hi j:Operand}{l r:AA α}{c:Int}(h:CU l 0 c=some r)(E1:∀w,(underlying T).run P w=.ok (.slice et) w)(E2:∀w,(sizeOf et).run P w=.ok k w)
  (f:o.op=.slice T x none (some hi) (some j):=by exact rfl)(hx:AM env x=.osl b 0 l.length k:=by exact rfl)(h1:AM env hi=.int .i64 c:=by exact rfl)(h2:AM env j=.int .i64 c:=by exact rfl):
  AK P o env H (.osl b (0+Int.toNat 0) (c.toNat-Int.toNat 0) k):=by
 intro J M U N a w r;obtain⟨G,g,t,_⟩:=WX h;have n:=Ql r x;rw[hx]at n;rcases n with⟨s,e⟩|⟨i,p,y,E,m,s,e,B,⟨u,L⟩,F,z⟩
 .have d:=qD (w:=w) E1 E2 (ad:=none) (XR 0) g (by omega);refine⟨_,by simp[execOp,f,e,Vi,Xl,Xk,QN r h1,QN r h2,d,Vj];rfl,?_⟩;left;have:c.toNat=0:=by omega
  simp[this]
 .have d:=qD (w:=w) E1 E2 (ad:=some ⟨i,p,none⟩) u g t;refine⟨_,by simp[execOp,f,e,Vi,Xl,Xk,QN r h1,QN r h2,d,Vj];rfl,?_⟩;right;refine⟨i,p,c.toNat,E,m,s,by simp[J6],λq=>?_,⟨by simp,by omega⟩,F,?_⟩
  .rw[B (by omega)];simp
  .refine XT (XB k ?_) z;omega
section
variable {P:Program} {o:Oper} {env:Env} {H:Qb} {fr ro:Nat->Prop} {U:AZ} {w:World}
end
def my(P:Program)(i:Nat):String:=match P.funcs[i]? with|some f=>f.name|none=>""
theorem bE{f:FuncId}{B:Func}(d:(my P f=="runtime.NumGoroutine")=false)(h:P.funcs[f]?=some {B with name:=my P f}):Go.Proofs.Bears P f B:=⟨_,d,h⟩
def tW(P:Program)(t:Nat):Nat:=match P.underlying t with|some (.slice e)=>e|_=>0
def mg:A->Value
 |.int k n=>.int k n
 |.bool b=>.bool b
 |.str _=>.string ⟨#[]⟩
 |.rsl _ _=>.slice none 0 0
 |.nils=>.slice none 0 0
 |.nilp=>.pointer none
 |.nilm=>.map none
 |.nilif=>.nilIface
 |_=>.nilFunc
def zA:A->Value
 |.agg r=>.agg (r.map mg).toArray
 |a=>mg a
def kL(P:Program)(F:AA (Nat×AA (Nat×Nat)))(T:C2)(Z:NQ)(w:World):=
 (F.map λe=>(underlying e.1).run P w,F.map λe=>(P.fieldsOf e.1).toList.map λf=>(f.offset,(sizeOf f.type).run P w),
  T.ty.agg.map λe=>((isAgg e.1).run P w,(sizeOf e.1).run P w),T.ty.zer.map λe=>(zeroValue e.1).run P w,
  T.al.map λe=>(zeroValue e.1).run P w,T.sl.map λt=>(underlying t).run P w,Z.sl.map λe=>((underlying e.1).run P w,(sizeOf e.2.1).run P w))
def kR(P:Program)(F:AA (Nat×AA (Nat×Nat)))(T:C2)(Z:NQ)(w:World):=
 (F.map λe=>Result.ok (TypeDesc.struct (P.fieldsOf e.1)) w,F.map λe=>e.2.map λx=>(x.1,Result.ok x.2 w),
  T.ty.agg.map λe=>(Result.ok e.2.1 w,Result.ok e.2.2 w),T.ty.zer.map λe=>Result.ok (zA (.agg e.2.1)) w,
  T.al.map λe=>Result.ok (zA e.2) w,T.sl.map λt=>Result.ok (TypeDesc.slice (tW P t)) w,Z.sl.map λe=>(Result.ok (TypeDesc.slice e.2.1) w,Result.ok e.2.2 w))
def kT(F:AA (Nat×AA (Nat×Nat)))(T:C2):Bool:=
 V4 F T.ty.fld&&T.ty.zer.all (λe=>Z2 (.agg e.2.1) (zA (.agg e.2.1))&&F.contains (e.1,e.2.2))&&T.al.all λe=>Z2 e.2 (zA e.2)&&Yr e.2&&(YD e.2).all YJ
theorem Nh{α β:Type}{L:AA α}{f g:World->α->β}(h:∀w,L.map (f w)=L.map (g w)){e:α}(he:e∈L)(w:World):f w e=g w e:=List.map_inj_left.1 (h w) e he
theorem PL.ofK{P:Program}:∀{fs:AA Field} {pl:AA (Nat×Nat)},(∀w:World,fs.map (λf=>(f.offset,(sizeOf f.type).run P w))=pl.map λx=>(x.1,Result.ok x.2 w))->PL P fs pl
 |[],[],_=>.nil
 |[],_::_,h=>by cases h default
 |_::_,[],h=>by cases h default
 |f::fs,(a,n)::pl,h=>by
  have h1:=λw=>List.cons.inj (h w);have e:=λw=>Prod.mk.inj (h1 w).1;obtain rfl:f.offset=a:=(e default).1;exact .cons (λw=>(e w).2) (PL.ofK λw=>(h1 w).2)
section
variable {P:Program} {F:AA (Nat×AA (Nat×Nat))} {T:C2} {Z:NQ}
theorem vj(h:kL P F T Z=kR P F T Z):∀e∈F,Sf P e.1 e.2:=λe he=>
 ⟨_,λw=>by simpa using Nh (f:=λw e=>(underlying e.1).run P w) (λw=>(Prod.mk.inj (congrFun h w)).1) he w,PL.ofK λw=>Nh (f:=λw e=>(P.fieldsOf e.1).toList.map λf=>(f.offset,(sizeOf f.type).run P w)) (λw=>(Prod.mk.inj (Prod.mk.inj (congrFun h w)).2).1) he w⟩
theorem Fm.ofK(h:kL P F T Z=kR P F T Z)(k:kT F T=true):Fm P T:=by
 have d:=vj h;simp only[kT,XU,Xt]at k;refine⟨⟨uA d k.1.1,λe a=>?_,λe a=>?_⟩,λe a=>?_,λe a=>?_⟩
 .have:=Nh (f:=λw e=>((isAgg e.1).run P w,(sizeOf e.1).run P w)) (λw=>(Prod.mk.inj (Prod.mk.inj (Prod.mk.inj (congrFun h w)).2).2).1) a;exact⟨λw=>(Prod.mk.inj (this w)).1,λw=>(Prod.mk.inj (this w)).2⟩
 .have:=Nh (f:=λw e=>(zeroValue e.1).run P w) (λw=>(Prod.mk.inj (Prod.mk.inj (Prod.mk.inj (Prod.mk.inj (congrFun h w)).2).2).2).1) a;have q:=k.1.2 e a;exact⟨⟨_,this,Ds q.1⟩,d _ (List.contains_iff_mem.1 q.2)⟩
 .have:=Nh (f:=λw e=>(zeroValue e.1).run P w) (λw=>(Prod.mk.inj (Prod.mk.inj (Prod.mk.inj (Prod.mk.inj (Prod.mk.inj (congrFun h w)).2).2).2).2).1) a;have q:=k.2 e a;exact⟨⟨_,this,Ds q.1.1⟩,q.1.2,Xt.2 q.2⟩
 .exact⟨_,Nh (f:=λw t=>(underlying t).run P w) (λw=>(Prod.mk.inj (Prod.mk.inj (Prod.mk.inj (Prod.mk.inj (Prod.mk.inj (Prod.mk.inj (congrFun h w)).2).2).2).2).2).1) a⟩
theorem IC.ofK(h:kL P F T Z=kR P F T Z)(k:∀f∈Z.fn,∀(a:Array Value) (w:World),(callFunc f a).run P w=.ok (.enter f a) w):IC P Z:=⟨λe he=>by
 have:=Nh (f:=λw e=>((underlying e.1).run P w,(sizeOf e.2.1).run P w)) (λw=>(Prod.mk.inj (Prod.mk.inj (Prod.mk.inj (Prod.mk.inj (Prod.mk.inj (Prod.mk.inj (congrFun h w)).2).2).2).2).2).2) he;exact⟨λw=>(Prod.mk.inj (this w)).1,λw=>(Prod.mk.inj (this w)).2⟩,k⟩
theorem tx{L:AA Nat}(h:(λ(a:Array Value) (w:World)=>L.map λf=>(callFunc f a).run P w)=λa w=>L.map λf=>.ok (.enter f a) w):∀f∈L,∀(a:Array Value) (w:World),(callFunc f a).run P w=.ok (.enter f a) w:=
 λf hf a=>Nh (f:=λw f=>(callFunc f a).run P w) (λw=>congrFun (congrFun h a) w) hf
end
section
variable {P:Program}
theorem Ao.c{f:Field}{fs:AA Field}{h off e:Nat}{a d:AA Value->Prop}(j:∀h,Fi P f.type (h+1) 1 false a)(i:Ao P fs (h+1) (off+1) e d)(g:Nat.beq f.offset off=true:=by exact rfl)(hn:f.name≠"_":=by decide):
  Ao P (f::fs) (h+1) off (1+e) (λl=>∃l1 l2,l=l1++l2/\a l1/\d l2):=Ao.cons g hn (j h) (λ_=>rfl) i
theorem RF.c1{n:Nat}{T:Type}{e:T->AA A}{wf:T->Prop}{f:Field}{fs:AA Field}{off L:Nat}{T2:Type}{d:T2->AA A}{a:T2->Prop}(h:RB P n f.type T e wf)(r:RF P n fs (off+1) L T2 d a)(g:f.offset=off:=by exact rfl)(hk:P.cellsOf f.type=1:=by kernel_rfl):
  RF P n (f::fs) off L (T×T2) (λp=>e p.1++d p.2) (λp=>wf p.1/\a p.2):=RF.cons g hk h r
end
variable {β:Type}
@[reducible] def Kp(P:Program)(F:AB β)(f:FuncId)(args:AA A)(H:Qb)(w:β->A)(H1:β->Qb):Prop:=∀r,F=some r->C P f args H (RQ w H1 r)
theorem Kp.b{β:Type}{F:AB β}{f:FuncId}{fn:Func}{c:Code}{N:Nat}{args:AA A}{H:Qb}{w:β->A}{H1:β->Qb}(hf:P.funcs[f]?=some fn)(hb:fn.body=some c)(hN:fn.ntmps=N)(hA:Nat.ble args.length N=true)
  (h:∀r,F=some r->TC P H.length N c (NZ 0 args) H (LJ P H.length fn (RQ w H1 r))):Kp P F f args H w H1:=λr e=>QG hf hb hN hA (h r e)
abbrev Ea:=@Ev.bind
abbrev Ec:=@CE.keep
abbrev Ed:=@DY.cons
abbrev Ee:=@BP.refl
abbrev Ef:=@PL.cons
abbrev Eg:=@DS.done
abbrev Eh:=@Ev.and
abbrev Ei:=@BH.done
abbrev Ej:=@DY.refl
abbrev Ek:=@CD.lit
abbrev El:=@RF.cons
abbrev Em:=@RF.c1
abbrev En:=@Le.trans
abbrev Eo:=@BP.o
abbrev Ep:=@Le.phantom
abbrev Er:=@Ev.or
abbrev Et:=@Ev.eq
abbrev Eu:=@BH.cont
abbrev Ew:=@Ev.iter
abbrev Ex:=@DK.op
abbrev Ey:=@FS.store
abbrev Ez:=@AK.load
abbrev EA:=@Ev.const
theorem Zf.{u,v}{α:Sort u}{β:Sort v}{f:α->β}:∀x,f x=f x:=λ_=>rfl
abbrev Ze.{u,v}{α:Sort u}{β:Type v}:α->AA β:=λ_=>[]
end Go.Sw
