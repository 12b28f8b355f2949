/- The rules by which the code is walked, with what they rest on (part 2). -/
import Derived.Test.YtmaeahbcmjpfpaaGreatL1
import Derived.Below
import GoSem.ClaimChange
import Derived.Shelf.Strings.Search3
import Derived.Lib.LazyBuf
import Derived.Shelf.Sort.Plain
import Derived.Shelf.Slices.In.SortNone
import Derived.Shelf.Slices.CompactI
import Derived.RangeFuncIn
import Derived.RangeFuncSeq
import Derived.RangeFuncNested
import Derived.Lib.Bytealg
import Derived.Laws.Externs
import Derived.LaidLaws
import Derived.Lib.LaidTab
import Derived.ChangeArms
import Derived.ChangeSame
import Derived.Laws.BytesString
set_option linter.unusedVariables false
set_option linter.unusedSectionVars false
set_option linter.unusedSimpArgs false
namespace Go.Sw
open Option renaming none→AF,some→AC
open Bool renaming false→AD,true→AE
open Decidable renaming decide→AG
open Go renaming Oper→AM,Program→AK,Value→AL,World→AJ
section
def Qn(k:IntKind)(n:Int):Prop:=k.min<=n/\n<=k.max
def SV(w:AJ):Nat->Prop:=λb=>b<w.heap.size
structure eD {H:Type} (μ:DataW H->Nat):Prop where
 str:∀bytes,bytes.length<=μ (.lit (.string bytes))
 sl:∀e s,e.length<=μ (.slice e s)
 sle:∀e s,∀d∈e,μ d<=μ (.slice e s)
 ag:∀ps,∀d∈ps,μ d<=μ (.agg ps)
def RB(P:AK)(n:Nat)(t:TypeId)(T:Type)(e:T->AA A)(wf:T->Prop):Prop:=
 ∀(H:Type) (enc:TypeId×AL->H) (w:AJ) (base:Nat) (spare:Nat->Bool) (held:Bool) (m:Nat) (cs:AA AL) d,m<n->DataW.trod enc P w base spare held m t cs=AC d->
  ∀μ:DataW H->Nat,eD μ->μ d.1<=1048576->∃x:T,wf x/\LR (SV w) [] w (e x) cs/\ ∀v∈cs,QA v
section
variable {P:AK} {n:Nat} {t:TypeId} {T:Type} {e:T->AA A} {wf:T->Prop}
theorem RB.down(h:RB P (n+1) t T e wf):RB P n t T e wf:=λH enc w base spare held m cs d hm=>h H enc w base spare held m cs d (Nat.lt_succ_of_lt hm)
theorem i9(h:∀n,RB P n t T e wf->RB P (n+1) t T e wf):∀n,RB P n t T e wf
 |0=>λH enc w base spare held m cs d hm=>om
 |n+1=>h n (i9 h n)
theorem QY{T':Type}{j:T'->AA A}{f:T'->Prop}(h:RB P n t T e wf)(g:T->T')(he:∀x,j (g x)=e x)(y:∀x,wf x->f (g x)):RB P n t T' j f:=by
 intro H enc w base spare held m cs d hm hd μ hμ hwt;obtain⟨x,q,E,B⟩:=h H enc w base spare held m cs d hm hd μ hμ hwt
 grind
theorem RB.int{k:IntKind}(f:P.underlying t=AC (.int k)):RB P n t Int (Q9 k) (Qn k):=by
 intro H enc w base spare held m cs d hm hd μ hμ hwt;cases m with
 |zero=>simp[DataW.trod]at hd
 |succ m=>
  rcases cs with _|⟨v,_|⟨j,r⟩⟩
  .simp[DataW.trod,f]at hd
  .cases v<;>simp[DataW.trod,f]at hd;rename_i q h;obtain⟨⟨rfl,g⟩,_⟩:=hd;refine⟨h,?_,⟨_,_,rfl,rfl,rfl⟩,by simp[QA]⟩;simpa[Lit.wf,Qn]using g
  .simp[DataW.trod,f]at hd
theorem RB.bool(f:P.underlying t=AC .bool):RB P n t Bool JG (λ_=>True):=by
 intro H enc w base spare held m cs d hm hd μ hμ hwt;cases m with
 |zero=>simp[DataW.trod]at hd
 |succ m=>
  rcases cs with _|⟨v,_|⟨g,r⟩⟩
  .simp[DataW.trod,f]at hd
  .cases v<;>simp[DataW.trod,f]at hd;rename_i b;exact⟨b,trivial,⟨_,_,rfl,rfl,rfl⟩,by simp[QA]⟩
  .simp[DataW.trod,f]at hd
theorem RB.string(f:P.underlying t=AC .string):RB P n t (AA UInt8) JY (λs=>s.length<=1048576):=by
 intro H enc w base spare held m cs d hm hd μ hμ hwt;cases m with
 |zero=>simp[DataW.trod]at hd
 |succ m=>
  rcases cs with _|⟨v,_|⟨g,r⟩⟩
  .simp[DataW.trod,f]at hd
  .cases v<;>simp[DataW.trod,f]at hd;rename_i s;obtain⟨_,rfl⟩:=hd;exact⟨s.data.toList,XW (hμ.str _) hwt,⟨_,_,rfl,rfl,rfl⟩,by simp[QA]⟩
  .simp[DataW.trod,f]at hd
theorem o7{α:Type}{f:Nat->AB α}:∀{n:Nat} {l:AA α},(List.range n).mapM f=AC l->l.length=n/\ ∀i,i<n->∃y,f i=AC y/\l[i]?=AC y
 |0,l,h=>gq
 |n+1,l,h=>by
  rw[Xu,List.mapM_append]at h;cases h1:(List.range n).mapM f with
  |none=>grind
  |some l1=>
   cases h2:f n with
   |none=>grind
   |some y=>
    simp[h1,h2]at h;subst h;obtain⟨e1,e2⟩:=o7 h1
    grind
theorem wy{w:AJ}{ro:Nat->Prop}{b:Nat}:∀{cs:AA A} {l:AA AL} {off:Nat},LR ro [] w cs l->(∀v∈l,QA v)->(∀i,i<l.length->w.cell? ⟨b,off+i,AF⟩=l[i]?)->CR ro [] w b cs off
 |[],_,_,_,_,_=>trivial
 |a::cs,l,off,h,hp,hc=>by
  obtain⟨v,l',rfl,h1,h2⟩:=h;refine⟨gq,wy h2 gq λi hi=>?_⟩;have:=hc (i+1) gq
  grind
theorem RB.slice{E:TypeId}{k:Nat}{s:TypeId}(M:P.underlying s=AC (.slice E))(hk:P.cellsOf E=k)(h0:Nat.blt 0 k=AE)(hl:∀x,(e x).length=k)(h:RB P n E T e wf):
  RB P (n+1) s (AA T) (QC k e) (λl=>l.length<=1048576/\ ∀x∈l,wf x):=by
 intro H enc w base spare held m cs d hm hd μ hμ hwt;have k0:0<k:=by simp_all
 cases m with
 |zero=>simp[DataW.trod]at hd
 |succ m=>
  rcases cs with _|⟨v,_|⟨v2,r⟩⟩
  .simp[DataW.trod,M]at hd
  .cases v<;>try (simp[DataW.trod,M]at hd;done)
   rename_i a len g;cases a with
   |none=>
    rcases len with _|len
    .rcases g with _|g
     .refine⟨[],⟨sq,sq⟩,⟨_,_,rfl,⟨AF,0,rfl,XU _,.inl rfl⟩,rfl⟩,by simp[QA]⟩
     .simp[DataW.trod,M]at hd
    .simp[DataW.trod,M]at hd
   |some a=>
    simp only[DataW.trod,M]at hd;split at hd
    .rename_i hc;obtain⟨c1,c2,c3⟩:=hc;cases Q:(List.range len).mapM (λi=>(w.cells? base (a.add (i*P.cellsOf E)) (P.cellsOf E)).bind (DataW.trod enc P w base spare held m E))with
     |none=>grind
     |some f=>
      rw[Q]at hd;simp only[XK,Option.map_eq_some_iff]at hd;obtain⟨B,_,rfl⟩:=hd;have J:f.length<=1048576:=by
       have h1:=hμ.sl (f.map (·.1)) (B.map (·.1))
       grind
      have ac:∀y∈f,μ y.1<=1048576:=λy W=>XW (hμ.sle _ (B.map (·.1)) _ (VJ W)) hwt;obtain⟨e1,e2⟩:=o7 Q;have O:∀i,i<len->∃(x:T) (l:AA AL),wf x/\LR (SV w) [] w (e x) l/\(∀v∈l,QA v)/\l.length=k/\ ∀j,j<k->w.cell? ((a.add (i*k)).add j)=l[j]? :=by
       intro i hi;obtain⟨y,y1,y2⟩:=e2 i hi;rw[hk]at y1;cases ab:w.cells? base (a.add (i*k)) k with
       |none=>grind
       |some l=>
        rw[ab]at y1;obtain⟨x,x1,x2,x3⟩:=h H enc w base spare held m l y om y1 μ hμ (ac y (VK y2))
        grind[World.cells?,o7]
      by_cases R:len=0
      .subst R;exact⟨[],⟨sq,sq⟩,⟨_,_,rfl,⟨AC a,g,rfl,XV _,.inl rfl⟩,rfl⟩,by simp[QA]⟩
      .have first:a.spot=AF/\a.block<w.heap.size:=by
        obtain⟨x',l,p1,p2,p3,p4,Y⟩:=O 0 om;have t:=Y 0 k0;have aa:l[0]?=AC l[0]:=XL om;have ea:(a.add (0*k)).add 0=a:=by simp[Addr.add]
        rw[aa,ea]at t;unfold World.cell? at t;split at t
        .rename_i hh;constructor
         .cases q:a.spot with
          |none=>rfl
          |some z=>simp[q]at t
         .exact(Vf.1 hh).1
        .cases t
       obtain⟨X,hb⟩:=first
       have V:∀n,a.add n=⟨a.block,a.off+n,AF⟩:=by
        intro n;cases a;simp only at X;subst X;unfold Addr.add;split
        .rename_i q;subst q;rfl
        .rfl
       have F:∀(b o n:Nat),(⟨b,o,AF⟩:Addr).add n=⟨b,o+n,AF⟩:=by
        intro b o n;unfold Addr.add;split
        .rename_i q;subst q;rfl
        .rfl
       have pick:∀q i,len-i=q->i<=len->∃G:AA T,G.length=len-i/\(∀x∈G,wf x)/\RR (SV w) [] w a.block k (G.map e) (a.off+i*k):=by
        intro q
        induction q with
        |zero=>intro i hq hi;exact⟨[],by simp[hq],sq,trivial⟩
        |succ q ih=>
         intro i hq hi;obtain⟨G,L,w2,N⟩:=ih (i+1) om om;obtain⟨x,l,p1,p2,p3,p4,Y⟩:=O i om;refine⟨x::G,by simp[L];omega,by intro y W;rcases X9.1 W with rfl|W;exact p1;exact w2 y W,hl x,?_,?_⟩
         .refine wy p2 p3 λj hj=>?_;have t:=Y j om;rw[V,F]at t;exact t
         .rw[Xm, <- Nat.add_assoc]at N;exact N
       obtain⟨G,L,w2,N⟩:=pick len 0 om (XV _);rw[Nat.zero_mul,Xy]at N;rw[Nat.sub_zero]at L;refine⟨G,⟨by rw[L, <- e1];exact J,w2⟩,⟨_,_,rfl,⟨AC a,g,by simp[L],by simp[L];exact c2,.inr ⟨a.block,a.off,?_,hb,N⟩⟩,rfl⟩,by simp[QA]⟩;cases a
       grind
    .cases hd
  .simp[DataW.trod,M]at hd
def RF(P:AK)(n:Nat)(fs:AA Field)(off L:Nat)(T:Type)(e:T->AA A)(wf:T->Prop):Prop:=
 ∀(H:Type) (enc:TypeId×AL->H) (w:AJ) (base:Nat) (spare:Nat->Bool) (held:Bool) (m:Nat) (cs:AA AL) ds,m<n->cs.length=L->
  fs.mapM (λf=>DataW.trod enc P w base spare held m f.type ((cs.drop f.offset).take (P.cellsOf f.type)))=AC ds->
  ∀μ:DataW H->Nat,eD μ->(∀y∈ds,μ y.1<=1048576)->∃x:T,wf x/\LR (SV w) [] w (e x) (cs.drop off)/\ ∀v∈cs.drop off,QA v
theorem RF.nil{L:Nat}:RF P n [] L L Unit (λ_=>[]) (λ_=>True):=by
 intro H enc w base spare held m cs ds hm hl hd μ hμ hwt;have:cs.drop L=[]:=gq;rw[this];exact⟨(),trivial,rfl,sq⟩
theorem RF.cons{f:Field}{fs:AA Field}{off L k:Nat}{T2:Type}{E:T2->AA A}{g:T2->Prop}(F:f.offset=off)(hk:P.cellsOf f.type=k)(h:RB P n f.type T e wf)(r:RF P n fs (off+k) L T2 E g):
  RF P n (f::fs) off L (T×T2) (λp=>e p.1++E p.2) (λp=>wf p.1/\g p.2):=by
 intro H enc w base spare held m cs ds hm hl hd μ hμ hwt;rw[List.mapM_cons]at hd;cases B:DataW.trod enc P w base spare held m f.type ((cs.drop f.offset).take (P.cellsOf f.type))with
 |none=>grind
 |some d=>
  cases G:fs.mapM (λf=>DataW.trod enc P w base spare held m f.type ((cs.drop f.offset).take (P.cellsOf f.type)))with
  |none=>grind
  |some j=>
   have t:ds=d::j:=by
    grind
   subst t;rw[F,hk]at B;obtain⟨x,J,M,O⟩:=h H enc w base spare held m _ d hm B μ hμ (hwt d sq);obtain⟨y,y1,y2,N⟩:=r H enc w base spare held m cs j hm hl G μ hμ gq;have q:cs.drop off=(cs.drop off).take k++cs.drop (off+k):=by rw[<- List.drop_drop,XA]
   refine⟨(x,y),⟨J,y1⟩,by rw[q];exact M.append y2,?_⟩
   grind
theorem RB.struct{fs:Array Field}{L:Nat}(j:P.underlying t=AC (.struct fs))(B:P.cellsOf t=L)(h:RF P n fs.toList 0 L T e wf):RB P (n+1) t T e wf:=by
 intro H enc w base spare held m cs d hm hd μ hμ hwt;cases m with
 |zero=>simp[DataW.trod]at hd
 |succ m=>
  unfold DataW.trod at hd;simp only[j]at hd;split at hd
  .rename_i x;cases g:fs.toList.mapM (λf=>DataW.trod enc P w base spare held m f.type ((cs.drop f.offset).take (P.cellsOf f.type)))with
   |none=>grind
   |some q=>
    rw[g]at hd;simp only[Xj,Option.some.injEq]at hd;subst hd;have:=h H enc w base spare held m cs q om (by rw[x,B]) g μ hμ (λy E=>XW (hμ.ag _ _ gq) hwt)
    grind
  .cases hd
end
variable {P:AK}{W:AJ}
theorem C.law{f:FuncId}{args:AA A}{vals:AA AL}(h:C P f args [] (λa H=>a=.bool AE/\H=[]))(hl:LR (SV W) [] W args vals)(d:GP W):
  Calls P f vals.toArray W λe W'=>e=.returned (.bool AE)/\Go.RowKit.Below W.heap.size W W':=by
 have s:Cm (λ_=>False) (SV W) [] [] W:=
  ⟨rfl,⟨λ_ h=>h,λb m=>d.size b m,d⟩,λ_ h=>h.elim,λ_ _ h=>h,sq,sq,sq⟩
 refine(h _ _ _ _ W s hl).mono ?_;rintro e W' ⟨v,r,H',j,τ,rfl,⟨rfl,rfl⟩,_,g,ev⟩;exact⟨by rw[show v=.bool AE from g],⟨ev.os,ev.tape,ev.output,ev.size,λk hk=>ev.keepRo k hk⟩⟩
variable {t:TypeId}
theorem QnK{d:Nat}{v:AL}{fs:Array Field}(f:P.underlying t=AC (.struct fs))(h:Value.okWide P W .any d t v):∃cs,v=.agg cs:=by
 unfold Value.okWide at h
 grind
variable {g:Nat}
theorem QjO{y:Array AL}{T:Type}{e:T->AA A}{wf:T->Prop}{H:Type}{enc:TypeId×AL->H}{f:Nat->Bool}{j:Bool}{d:DataW H}{ps:AA MemPlace}
  (h:∀n,RB P n t T e wf)(G:DataW.Trod enc P W g f j t (.agg y) d ps){μ:DataW H->Nat}(hμ:eD μ)(q:μ d<=1048576):∃x:T,wf x/\VR (SV W) [] W (.agg (e x)) (.agg y):=by
 obtain⟨m,B⟩:=G;obtain⟨x,F,E,_⟩:=h (m+1) H enc W g f j m _ _ (Xn _) B μ hμ q;exact⟨x,F,y.toList,sq,E⟩
theorem QlV{a:AB Addr}{len cap:Nat}{T:Type}{e:T->AA A}{k:Nat}{wf:AA T->Prop}{H:Type}{enc:TypeId×AL->H}{f:Nat->Bool}{j:Bool}{d:DataW H}{ps:AA MemPlace}
  (h:∀n,RB P n t (AA T) (QC k e) wf)(E:DataW.Trod enc P W g f j t (.slice a len cap) d ps){μ:DataW H->Nat}(hμ:eD μ)(q:μ d<=1048576):∃x:AA T,wf x/\VR (SV W) [] W (.rsl k (x.map e)) (.slice a len cap):=by
 obtain⟨m,y⟩:=E;obtain⟨x,B,⟨v,J,F,L,G⟩,_⟩:=h (m+1) H enc W g f j m _ _ (Xn _) y μ hμ q;refine⟨x,B,?_⟩;have:(Value.slice a len cap).cells.toList=[.slice a len cap]:=rfl
 grind
theorem QjL(h:W.ShapedOpen P){t u:Nat}{z:AL}(hg:Nat.blt g P.globals.size=AE)(F:(((begin P (λ_ _=>0) default).world.heap[g]?).bind Obj.row?)=AC (#[z],t))
  (H:P.buildable t=AE)(J:P.cellTypes P.depth t=AC [u])(G:P.underlying u=AC (.int .i64)):∃m:Int,W.cell? ⟨g,0,AF⟩=AC (.int .i64 m):=by
 obtain⟨f,M,L,B⟩:=h.1 g _ _ (by simp_all) F;obtain⟨N,q,_,y⟩:=B H;rw[J]at q;cases q;have hs:f.size=1:=L;have j:f[0]?=AC f[0]:=sq;obtain⟨O,x,d⟩:=y 0 _ j;simp at x;subst x;unfold Cell.ok at d;rw[G]at d;cases E:f[0]<;>rw[E]at d<;>simp at d
 simp_all[World.cell?]
theorem QjU{S B:Type}{step:S->AB (CJ S B)}(st:Nat->S)(b:B)(k:Nat)(x:∀i,i<k->step (st i)=AC (.k (st (i+1))))(g:step (st k)=AC (.d b)):∀n,k<n->iter step n (st 0)=AC b:=by
 have f:∀m i n,k-i=m->i<=k->m<n->iter step n (st i)=AC b:=by
  intro m
  induction m with
  |zero=>
   intro i n j h q;have:i=k:=om;subst this;obtain⟨d,rfl⟩:∃d,n=d+1:=⟨n-1,om⟩;simp[iter,g]
  |succ m t=>
   intro i n j h q;obtain⟨d,rfl⟩:∃d,n=d+1:=⟨n-1,om⟩
   grind[iter]
 grind
theorem QnY{S B:Type}{step:S->AB (CJ S B)}(s0:S)(st:Nat->S)(b:B)(k:Nat)(g:st 0=s0)(f:∀i,i<k->step (st i)=AC (.k (st (i+1))))(d:step (st k)=AC (.d b))(n:Nat)(hn:k<n):iter step n s0=AC b:=by
 rw[<- g];exact QjU st b k f d n hn
variable {α:Type}
variable {l:AA α}
theorem Qf{i:Nat}{x:α}(h:l[i]?=AC x):CN l i=AC x:=by
 grind[CN]
theorem QqB(l:AA α)(x:α)(h:l.length<4294967296):app l [x]=AC (l++[x]):=by
 unfold app;have:Nat.ble (l.length+[x].length) Yp=true:=by
  grind[Nat.ble_eq_true_of_le,Yp]
 grind
theorem Sk(l m:AA α)(h:l.length+m.length<=4294967296):app l m=AC (l++m):=by
 simp_all[app,Yp,XT]
theorem Qz{n:Int}(f: -9223372036854775808<=n)(d:n<=9223372036854775807):IntKind.i64.wrap n=n:=by
 grind[IntKind.wrap,IntKind.bits,IntKind.signed]
theorem QL{i:Nat}(h:i<9223372036854775807):IntKind.i64.wrap (i+1)=(i+1:Nat):=by
 rw[Qz om om];omega
theorem Yr{p:Prop}[Decidable p](h:p):AG p=true:=Vw h
theorem QN{p:Prop}[Decidable p](h:¬p):AG p=false:=Vz h
open Go.Proofs Go.Shelf
def cat(a b:AA UInt8):AB (AA UInt8):=bif Nat.ble (a.length+b.length) 4294967296 then AC (a++b)else AF
theorem Qso{a b r:AA UInt8}(h:cat a b=AC r):a.length+b.length<=4294967296/\a++b=r:=by
 unfold cat at h;cases q:Nat.ble (a.length+b.length) 4294967296 with
 |true=>simp_all
 |false=>grind
def eY(s t:AA UInt8):AB Bool:=bif Nat.blt s.length 4294967281 then AC (Lib.contains s t)else AF
variable {T:Nat}{l':AA α}
section
variable {P:AK} {o:AM} {env:Env} {H:Qb}
theorem wT{u:TypeId}{x y:Operand}{p q r:AA UInt8}(m:cat p q=AC r)(E:o.op=.binOp .add t x y u:=by rfl)(hx:CS env x=.str p:=by rfl)(hy:CS env y=.str q:=by rfl):CY P o env H (.str r):=by
 intro J F σ N a w rr;obtain⟨G,j⟩:=Qso m;have d:=Qm rr x;rw[hx]at d;have g:=Qm rr y;rw[hy]at g;have B:a.eval x=.string ⟨p.toArray⟩:=d;have h:a.eval y=.string ⟨q.toArray⟩:=g;have hs:(⟨p.toArray⟩:ByteArray)++⟨q.toArray⟩=⟨r.toArray⟩:=by
  rw[<- j];rfl
 refine⟨.string ⟨r.toArray⟩,?_,rfl⟩;have f:¬((⟨p.toArray⟩:ByteArray).size+(⟨q.toArray⟩:ByteArray).size>IntKind.i64.max):=by
  have:IntKind.i64.max=9223372036854775807:=by decide
  grind[ByteArray.size]
 simp_all[eqGuard,execOp,binOp_string_add,Op.stringOp]
def L6(n:Nat)(l:AA α)(i:Int):AB α:=bif Nat.beq l.length n then CN l i else AF
theorem T7{n:Nat}{i:Int}{x:α}(h:L6 n l i=AC x):l.length=n/\CN l i=AC x:=by
 grind[L6,Nat.eq_of_beq_eq_true]
def OD(n:Nat)(l:AA α):AB (AA α):=bif Nat.beq l.length n then AC l else AF
theorem Ty{n:Nat}(h:OD n l=AC l'):l.length=n/\l=l':=by
 grind[OD,Nat.eq_of_beq_eq_true]
theorem nQ{n:Nat}(h:OD n l=AC l'):l'.length=n:=(Ty h).2▸(Ty h).1
section
variable {α:Type} {e:α->AA A} {t et k n b:Nat} {x y:Operand} {l:AA α}
theorem aR{i:Int}{v:α}{kk:IntKind}(h:L6 n l i=AC v)(G:∀w,(underlying t).run P w=.ok (.array n et) w)(hs:∀w,(sizeOf et).run P w=.ok k w)(J:Nat.ble 2 n=AE)
  (B:o.op=.indexAddr t x y:=by rfl)(hx:CS env x=.ptr b 0:=by rfl)(hy:CS env y=.int kk i:=by rfl):CY P o env H (.ptr b (i.toNat*k)):=by
 intro R Q σ N a w r;obtain⟨hl,L⟩:=T7 h;obtain⟨M,O⟩:=JL L;have q:i.toNat<l.length:=gq;have d:=Qm r x;rw[hx]at d;obtain⟨f,d,E⟩:=d;have m:=Qm r y;rw[hy]at m;have g:a.eval y=.int kk i:=m;refine⟨.pointer (AC ⟨f,i.toNat*k,AF⟩),?_,f,d,rfl⟩;have F:0<=i/\i<n:=om;have j:(⟨f,0,AF⟩:Addr).add (i.toNat*k)=⟨f,i.toNat*k,AF⟩:=by
  grind[Addr.add]
 generalize a.eval=ρ at*;simp[B,E,g,Instr.indexAt,G,hs,F,go_sem]
theorem s7{d:AA A}(hH:H[b]?=AC (.row t k (l.map e)):=by rfl)(hcs:(l.map e).flatten=d:=by rfl):Dn H (.ptr b 0) d:=by
 intro B x σ w v s h;obtain⟨m,j,f⟩:=h;obtain⟨y,g,q⟩:=s.blk b _ _ j hH;refine⟨m,0,f,?_⟩;have:=(RR.flat (YV (pre:=[]) (by simpa using g) q)).1;subst hcs;exact this.lift
theorem ud(hk:∀x,(e x).length=k)(L:AA α):(L.map e).flatten.length=L.length*k:=by
 induction L with
 |nil=>simp
 |cons c L ih=>grind
theorem Qju{f:Nat}{l':AA α}(h:OD n l=AC l')(hk:∀x,(e x).length=k)(d:n*k=f)(m:∀w,(isAgg t).run P w=.ok AE w)(hs:∀w,(sizeOf t).run P w=.ok f w)
  (j:o.op=.load t x:=by rfl)(hx:CS env x=.ptr b 0:=by rfl)(hH:H[b]?=AC (.row T k (l.map e)):=by rfl):CY P o env H (.agg (l'.map e).flatten):=by
 obtain⟨g,rfl⟩:=Ty h;have hl:=ud hk l;rw[g,d]at hl;exact Yd j m hs hx (s7 hH rfl) gq hl
theorem QmL{r:Nat}{n2:Nat}(hl:l.length=n)(hk:∀x,(e x).length=k)(f:n*k=n2)(d:∀w,(isAgg t).run P w=.ok AE w)(hs:∀w,(sizeOf t).run P w=.ok n2 w)
  (hx:lk env r=.ptr b 0:=by rfl)(hH:H[b]?=AC (.row T k (l.map e)):=by rfl):FM P env H (.cell r t) (.agg (l.map e).flatten):=by
 have g:=ud hk l;have:=wZ d hs (s7 hH rfl) hx gq
 grind
theorem t9{c:AA A}{k:Nat}(h:c.length=k):∀n,allK k (List.replicate n c)
 |0=>trivial
 |n+1=>⟨h,t9 h n⟩
theorem xB{vs:Array AL}{z:α}(x:∀w,(zeroValue t).run P w=.ok (.agg vs) w)(q:(YR (List.replicate n (e z)).flatten).toArray=vs)(hs:L8 (List.replicate n (e z)).flatten=AE)(g:(List.replicate n (e z)).flatten.all Q1=AE)(hk:Nat.beq (e z).length k=AE)
  (j:o.op=.alloc t:=by rfl):Fb P o env H (.ptr H.length 0) (H++[.row t k ((List.replicate n z).map e)]):=by
 intro y f σ N a w r;have hl:LR f [] w (List.replicate n (e z)).flatten (YR (List.replicate n (e z)).flatten):=nr hs;have d:=r.sim.allocRow (t:=t) (rest:=[]) (t9 (XR hk) n) hl (hl.plain g);rw[Vj]at d;have h:(List.replicate n z).map e=List.replicate n (e z):=List.map_replicate;refine⟨.pointer (AC ⟨w.heap.size,0,AF⟩),w.alloc (.cells (YR (List.replicate n (e z)).flatten).toArray t),f,[AC w.heap.size],?_,⟨w.heap.size,?_,rfl⟩,h▸d,Qe.alloc _ r.sim.roLt r.sim.frLt⟩
 .have m:(newVar t (.agg vs)).run P w=.ok ⟨w.heap.size,0,AF⟩ (w.alloc (.cells vs t)):=rfl
  simp_all[execOp,Instr.alloc]
 .rw[<- r.sim.len];simp
theorem xC{n2:Nat}{l':AA α}{vs:AA A}(h:l.length=n)(h':l'.length=n)(hk:∀x,(e x).length=k)(M:n*k=n2)(hs:∀w,(sizeOf t).run P w=.ok n2 w)
  (hp:∀x,(e x).all Q1=AE)(hd:∀x,Q8 (e x)=AE)(Q:(l'.map e).flatten=vs)
  (ho:o.op=.store t x y:=by rfl)(hx:CS env x=.ptr b 0:=by rfl)(hH:H[b]?=AC (.row T k (l.map e)):=by rfl)(F:CS env y=.agg vs:=by rfl):
  J1 P o env H (H.set b (.row T k (l'.map e))):=by
 intro fr ro σ N a w r;subst Q;have j:=Qm r x;rw[hx]at j;obtain⟨bb,j,h2⟩:=j;have Y:=Qm r y;rw[F]at Y;obtain⟨m,h4,q⟩:=Y;obtain⟨V,W,q2⟩:=r.sim.blk b _ _ j hH;have R:∀(L:AA α),allK k (L.map e):=by
  intro L
  induction L with
  |nil=>trivial
  |cons c L B=>exact⟨hk c,B⟩
 have G:(l'.map e).flatten.length=n2:=by grind[Y8]
 have hm:m.length=n2:=by rw[q.length,G]
 have f:∀L:AA α,(L.map e).flatten.all Q1=true:=by
  grind
 have E:∀g ds:AA A,Q8 g=AE->Q8 ds=AE->Q8 (g++ds)=true:=by
  intro g
  induction g with
  |nil=>simp
  |cons c g B=>
   simp_all[Q8]
 have O:∀L:AA α,Q8 (L.map e).flatten=true:=by
  intro L
  induction L with
  |nil=>rfl
  |cons c L B=>exact E _ _ (hd c) B
 have hlen:=by
  have:=q2.length;rw[X4,h,M]at this;exact this
 have X:=Yi (P:=P) (vs:=m) 0 0 W om (q.plain (f l'));have aa:splice V 0 m=m++V.drop n2:=by unfold splice;simp[hm]
 have d:=r.sim.set (x':=.row T k (l'.map e)) (obj:=.cells (splice V 0 m).toArray T (0,0)) j hH rfl
  (λy F=>Ju W (Yg om) y F)
  (λex J=>by
   have hx:=(q.data (O l')).mono ex.nil;exact⟨_,J,Js (R l') hx (q.plain (f l'))⟩)
 refine⟨_,ro,[],?_,by simpa using d.1,d.2⟩
 simp_all[Value.cells,storeVar,execOp,Instr.storeAt,Instr.sureAddr]
end
end
theorem C.contains{ρ:Ren}(L:Lays.n144 P ρ)(hg:ρ.g 1=Zv){s t:AA UInt8}{r:Bool}(h:eY s t=AC r):C P (ρ.f 144) [.str s,.str t] [] (λa H=>a=.bool r/\H=[]):=by
 unfold eY at h;cases q:Nat.blt s.length 4294967281 with
 |false=>grind
 |true=>
  rw[q]at h;obtain rfl:=X0 h;intro N j σ vals w sim hv;obtain⟨M,G,rfl,y,J,d,rfl,x,B⟩:=hv;cases(show d=[]from B);obtain⟨m,E⟩:=sim.roOk.gp.max;have e1:=y;have e2:=x;subst e1 e2;have hs:=by simpa using q
  refine(Any.strings_Contains L ⟨s.toArray⟩ ⟨t.toArray⟩ m w (by simpa[ByteArray.size]using hs) gq).mono ?_;rintro e F ⟨rfl,rfl⟩;exact⟨_,_,_,j,[],rfl,⟨rfl,rfl⟩,gq,rfl,Qe.refl _ _ _⟩
section
variable {P:AK} {o:AM} {env:Env} {H:Qb} {fr ro:Nat->Prop} {σ:Cp} {w:AJ}
theorem Cm.touch(s:Cm fr ro σ H w){b:Nat}{obj:Obj}(B:¬ro b)(m:¬fr b)(E:∀(i:Nat) (x:Ci),σ[i]?=AC (AC b)->H[i]?=AC x->x.live=AE->False)
  (j:∀y,w.shape? b=AC y->{w with heap:=w.heap.setIfInBounds b obj}.shape? b=AC y):
  Cm fr ro σ H {w with heap:=w.heap.setIfInBounds b obj}/\Qe fr ro w ro {w with heap:=w.heap.setIfInBounds b obj}:=by
 have d:{w with heap:=w.heap.setIfInBounds b obj}.heap.size=w.heap.size:=sq;have ev:Qe fr ro w ro {w with heap:=w.heap.setIfInBounds b obj}:=
  ⟨λ_ h=>h,gq,gq,om,by
   grind[World.shape?],rfl,rfl,rfl,XU _⟩
 refine⟨⟨s.len,s.roOk.to (λ_ q=>q) ev.keepRo (λc h=>by rw[d];exact s.roLt c h),λc h=>by rw[d];exact s.frLt c h,s.roFr,?_,s.inj,?_⟩,ev⟩
 .intro i c x g f t;rw[d];exact s.own i c x g f t
 .intro i y x g f;refine(s.blk i y x g f).keep (ev.ext0 σ) ?_
  grind
theorem QmW{E i n t:Nat}{x:Operand}{es:AA (AA A)}(X:P.underlying T=AC (.slice E))(hE:P.underlying E=AC (.int .u8))(hn:es.length=n)(h0:Nat.blt 0 n=AE)
  (ho:o.op=.convert T T x:=by rfl)(hx:CS env x=.osl i 0 n 1:=by rfl)(hH:H[i]?=AC (.row t 1 es):=by rfl):
  Fb P o env H (.rsl 1 es) (H.set i .dead):=by
 intro fr L σ N a w r;subst hn;have h:=Qm r x;rw[hx]at h;rcases h with⟨hz,_⟩|⟨b,p,G,t',m,h,W,h6,⟨h3,aa⟩,h4,h5⟩
 .simp_all
 .have V:0<es.length:=by simp_all
  obtain rfl:=h6 om;obtain⟨hb,B,f⟩:=r.sim.own i b _ h hH rfl;obtain⟨l,q1,q2⟩:=r.sim.blk i _ _ h hH;have s1:=r.sim.kill i;have d:∀(j:Nat) (y:Ci),σ[j]?=AC (AC b)->(H.set i .dead)[j]?=AC y->y.live=AE->False:=by
   intro j y g1 M g3;by_cases q:j=i
   .subst q;rw[Xb]at M;simp only[if_true]at M
    grind[Ci.live]
   .rw[XQ (λz=>q z.symm)]at M;exact q (r.sim.inj j i b y _ g1 h M hH g3 rfl)
  let fz:Nat×Nat:=(l.length,l.length+1)
  have R:∀y,w.shape? b=AC y->({w with heap:=w.heap.setIfInBounds b (.cells l.toArray t fz)}:AJ).shape? b=AC y:=by
   simp_all[World.shape?]
  obtain⟨Y,F⟩:=s1.touch (obj:=.cells l.toArray t fz) B f d R;have s3:=Y.addRo (b:=b) gq f d;have g:({w with heap:=w.heap.setIfInBounds b (.cells l.toArray t fz)}:AJ).heap[b]?=AC (.cells (([]:AA AL)++l).toArray t fz):=by
   grind
  have J:Dh L [] w L [] {w with heap:=w.heap.setIfInBounds b (.cells l.toArray t fz)}:=F.ext0 [];refine⟨.slice (AC ⟨b,0*1,AF⟩) es.length G,_,λc=>L c\/c=b,[],?_,?_,gq,F.trans (Q6 λ_ q=>.inl q)⟩
  .have hf:w.freeze ⟨b,l.length,AF⟩ 1={w with heap:=w.heap.setIfInBounds b (.cells l.toArray t fz)}:=by
    unfold World.freeze;simp only[Nat.one_ne_zero,if_false];rw[og q1];rfl
   have O:(markStringish ⟨b,0*1,AF⟩).run P w=.ok () {w with heap:=w.heap.setIfInBounds b (.cells l.toArray t fz)}:=by
    simp_all[markStringish,World.shape?]
   have hu:∀w,(underlying T).run P w=.ok (.slice E) w:=run_underlying X;have Q:∀w,(underlying E).run P w=.ok (.int .u8) w:=run_underlying hE;generalize a.eval=ρ at*;simp only[execOp,ho,W,convert,Vp,hu,Q,Result.andThen,beq_self_eq_true,O,Vq]
  .refine⟨AC ⟨b,0*1,AF⟩,G,rfl,h3,.inr ⟨b,0*1,rfl,.inr rfl,?_⟩⟩;have:=YV (pre:=[]) g (q2.mono J);exact(by omega:RR L [] _ b 1 es (0*1)).keep ⟨λ_ q=>.inl q,λ_ _=>rfl,λ_ _ q=>q,λ_ _ q=>q⟩ rfl
end
mutual
theorem ol(ρ:Nat->Nat):∀{a:A},Yn a=AE->YM ρ a=a
 |.any,_=>rfl
 |.bool _,_=>rfl
 |.int _ _,_=>rfl
 |.str _,_=>rfl
 |.nilp,_=>rfl
 |.ptr _ _,h=>by simp[Yn]at h
 |.rp _,_=>rfl
 |.nils,_=>rfl
 |.rsl _ _,_=>rfl
 |.osl _ _ _ _,h=>by simp[Yn]at h
 |.agg cs,h=>by simp only[Yn]at h;simp only[YM,Jy ρ h]
 |.fn f a c,h=>by simp only[Yn,XX]at h;simp only[YM,Jy ρ h.1,Jy ρ h.2]
 |.nilf,_=>rfl
 |.iface t a,h=>by simp only[Yn]at h;simp only[YM,ol ρ h]
 |.nilif,_=>rfl
 |.map _,h=>by simp[Yn]at h
 |.nilm,_=>rfl
 |.tup vs,h=>by simp only[Yn]at h;simp only[YM,Jy ρ h]
theorem Jy(ρ:Nat->Nat):∀{l:AA A},Q8 l=AE->Jg ρ l=l
 |[],_=>rfl
 |a::l,h=>by simp only[Q8,XX]at h;simp only[Jg,ol ρ h.1,Jy ρ h.2]
end
theorem vd{α:Type}{e:α->AA A}(d:∀x,Q8 (e x)=AE):∀L:AA α,Q8 (L.map e).flatten=AE
 |[]=>rfl
 |c::L=>by
  have hdt:∀cs ds,Q8 cs=AE->Q8 ds=AE->Q8 (cs++ds)=true:=by
   intro cs
   induction cs with
   |nil=>simp
   |cons c cs f=>
    simp_all[Q8]
  exact hdt _ _ (d c) (vd d L)
theorem QpK{e:α->AA A}(hd:∀x,Q8 (e x)=AE)(ρ:Nat->Nat)(l:AA α):YM ρ (.agg (l.map e).flatten)=.agg (l.map e).flatten:=
 ol ρ (by exact vd hd l)
end
section
variable {T:Nat}
section
variable {P:AK} {o:AM} {env:Env} {H:Qb}
theorem i7{c:Call}{f:Nat}{x:Operand}{xs:AA Operand}{j:Array TypeId}{d:String}{v:A}{args:AA A}(h:∀(a:Array AL) (w:AJ),(callFunc f a).run P w=.ok (.enter f a) w)(t:o.op=.call c)
  (B:c={callee:=.invoke x d,args:=xs.toArray,argTypes:=j})(hx:CS env x=.iface T v)(hargs:v::xs.map (CS env)=args)
  (q:∀(u:AL) (w:AJ),(method (P.types.size+Made.depth) T u d).run P w=.ok (f,u) w):Dc P o env H f args:=by
 intro E y σ N a w r;have g:=Qm r x;rw[hx]at g;obtain⟨u,g,m⟩:=g;refine⟨u::xs.map a.eval,?_,hargs▸⟨u,xs.map a.eval,rfl,m,aN r xs⟩⟩
 simp_all[VL,callMethod,execOp,resolve,invoke]
theorem T6{I:Nat}{x:Operand}{v:A}{d:TypeDesc}(j:∀w,(underlying T).run P w=.ok d w)(h:∀m,d≠ .interface m)(q:o.op=.typeAssert x I T true:=by rfl)(hx:CS env x=.iface T v:=by rfl):
  CY P o env H (.tup [v,.bool AE]):=by
 intro y t σ N a w r;have f:=Qm r x;rw[hx]at f;obtain⟨u,f,g⟩:=f;refine⟨.tuple #[u,.bool AE],?_,[u,.bool AE],rfl,_,_,rfl,g,_,_,rfl,rfl,rfl⟩
 simp_all[execOp,Instr.typeAssert]
theorem nj{T' I:Nat}{x:Operand}{v z:A}{zv:AL}{d:TypeDesc}(F:∀w,(underlying T).run P w=.ok d w)(j:∀m,d≠ .interface m)(h:Nat.beq T' T=AD)(E:∀w,(zeroValue T).run P w=.ok zv w)(f:ZR z zv)
  (t:o.op=.typeAssert x I T true:=by rfl)(hx:CS env x=.iface T' v:=by rfl):
  CY P o env H (.tup [z,.bool AD]):=by
 intro G B σ N a w r;have g:=Qm r x;rw[hx]at g;obtain⟨u,g,y⟩:=g;have hn:T'≠T:=λq=>by simp_all
 refine⟨.tuple #[zv,.bool AD],?_,[zv,.bool AD],rfl,_,_,rfl,f _ _ _,_,_,rfl,rfl,rfl⟩
 simp_all[execOp,Instr.typeAssert]
end
def TL(P:AK)(h0 N:Nat)(c:Code)(env:Env)(H:Qb)(Q:Qx):Prop:=
 ∀rd fr ro σ a w,DT fr ro σ H env N a w->HU rd fr w->∀(b:Frame) (k:AA Item) (cs:AA Frame),b.roundOf=(WF rd).round->(WF rd).fn b.fn->(WF rd).room (cs.length+1+0)->∃e a' w',IB h0 fr ro σ w N a.defers Q e a' w'/\ArrivesIn (Machine.fenced P (WF rd)) P (lone (b.atR a (.code c::.inLoop c::k)) cs w) b k cs e a' w'
def Tr(P:AK)(h0 N:Nat)(c:Code)(Q:Qx):Qx
 |.normal,env,H=>TL P h0 N c env H Q
 |.exit id,env,H=>Q (.exit id) env H
 |.ret,env,H=>Q .ret env H
section
variable {P:AK} {h0 N:Nat} {c:Code} {env:Env} {H:Qb} {Q:Qx}
theorem QoW(h:TL P h0 N c env H Q):TC P h0 N (.loop c) env H Q:=by
 intro t q m σ a w r hrd b k cs hro hb hr;obtain⟨e,j,g,f,d⟩:=h t q m σ a w r hrd b k cs hro hb hr;exact⟨e,j,g,f,.of_steps (.one (fenced_calm hb hr rfl) stepR_loop) d⟩
theorem TL.round(h:TC P h0 N c env H (Tr P h0 N c Q)):TL P h0 N c env H Q:=by
 intro M T L σ a w r hrd b k cs hro hb hr;obtain⟨e,y,t,W,d⟩:=h M T L σ a w r hrd b (.inLoop c::k) cs hro hb hr;obtain⟨x,f,H',j,σ',m,B,G,O,F,R,E⟩:=W;have V:∀x,Q x f H'->Sx e x->IB h0 T L σ w N a.defers Q e y t:=λx q q'=>⟨x,f,H',j,σ',m,q',q,O,F,R,E⟩;cases e with
 |normal=>
  obtain rfl:x=.normal:=B;obtain⟨X,Y,w2,J,g⟩:=G M m j σ' y t O (hrd.to F E.sub) b k cs hro hb hr;exact⟨X,Y,w2,J.grow F R E,.of_steps (StepsIn.trans d (.one (fenced_calm hb hr rfl) stepR_inLoop)) g⟩
 |exit id=>
  obtain rfl:x=.exit id:=B;exact⟨_,y,t,V _ G rfl,.pass rfl sq d⟩
 |ret=>
  obtain rfl:x=.ret:=B;exact⟨_,y,t,V _ G rfl,.pass rfl sq d⟩
 |_=>exact B.elim
theorem kB(h:TC P h0 N c env H (Tr P h0 N c Q)):Tr P h0 N c Q .normal env H:=TL.round h
theorem j_{id:Nat}(h:Q (.exit id) env H):Tr P h0 N c Q (.exit id) env H:=h
theorem kA(h:Q .ret env H):Tr P h0 N c Q .ret env H:=h
theorem QmI(h:TC P h0 N c env H (Tr P h0 N c Q)):TC P h0 N (.loop c) env H Q:=QoW (TL.round h)
end
variable {k:Nat}
section
variable {P:AK} {o:AM} {env:Env} {H:Qb}
theorem CY.ixL{t d b n j:Nat}{x y:Operand}{kk:IntKind}{i:Int}(h:Nat.blt j n=AE)(hi:i=j)(f:∀w,(underlying t).run P w=.ok (.slice d) w)(hs:∀w,(sizeOf d).run P w=.ok k w)
  (g:o.op=.indexAddr t x y:=by rfl)(hx:CS env x=.osl b 0 n k:=by rfl)(hy:CS env y=.int kk i:=by rfl):CY P o env H (.ptr b (j*k)):=by
 have m:=s6 (H:=H) g f hs hx hy om (by simp_all)
 grind
end
theorem wV{ro:Nat->Prop}{σ:Cp}{w:AJ}{k:Nat}:∀{es:AA (AA A)} {l l':AA AL},RL ro σ w k es l->l.take (es.length*k)=l'.take (es.length*k)->RL ro σ w k es l'
 |[],_,_,_,_=>trivial
 |c::es,l,l',h,hp=>by
  obtain⟨l1,l2,rfl,h1,h2,h3⟩:=h;have hl1:l1.length=k:=by rw[h2.1.length];exact h1
  have d:l'.take k=l1:=by
   have:=congrArg (List.take k) hp
   grind[Nat.succ_mul]
  refine⟨l1,l'.drop k,by rw[<- d,XA],h1,h2,wV h3 ?_⟩;have:=congrArg (List.drop k) hp
  grind[Nat.succ_mul]
section
variable {P:AK} {o:AM} {env:Env} {H:Qb}
theorem Qgs{c:Call}{et b s n t:Nat}{x:Operand}{es g:AA (AA A)}{z:AL}(ht:P.underlying T=AC (.slice et))(hz:∀w,(zeroValue et).run P w=.ok z w)(J:z.cells.size=k)(ad:∀v∈z.cells,QA v)
  (M:es.take s=g)(hb:s+n=es.length)(ho:o.op=.call c:=by rfl)(hc:c={callee:=.builtin .clear,args:= #[x],argTypes:= #[T]}:=by rfl)
  (hx:CS env x=.osl b s n k:=by rfl)(hH:H[b]?=AC (.row t k es):=by rfl):Fb P o env H (.tup []) (H.set b (.row t k g)):=by
 intro G j σ N a w r;subst M hc;have hu:∀w,(underlying T).run P w=.ok (.slice et) w:=run_underlying ht;have f:=Qm r x;rw[hx]at f;have R:Cm G j σ (H.set b (.row t k (es.take s))) w:=by
  refine r.sim.weaken hH rfl ?_;intro y q;cases y with
  |none=>rw[show es=[]from q];simp[BR]
  |some E=>obtain⟨l,g1,g2⟩:=q;exact⟨l,g1,RL.take s g2⟩
 have B:∀v,a.eval x=v->(Builtin.clear_ #[T] o.type #[v]).run P w=.ok (.tuple #[]) w->
   ∃v w' ro' τ,(execOp a.eval o).run P w=.ok (.value v) w'/\VR ro' (σ++τ) w' (.tup []) v/\Cm G ro' (σ++τ) (H.set b (.row t k (es.take s))) w'/\Qe G j w ro' w':=by
  intro v O d;refine⟨.tuple #[],w,j,[],?_,⟨[],rfl,rfl⟩,gq,Qe.refl _ _ _⟩
  simp_all[execOp,resolve,invoke,builtin]
 rcases f with⟨hn,f⟩|⟨E,p,F,t',m,f,h2,h3,⟨h4,ae⟩,h5,h6⟩
 .simp_all[Builtin.clear_]
 .by_cases hn:n=0
  .simp_all[Builtin.clear_]
  .obtain rfl:=h3 om;obtain⟨l,X,q2⟩:=r.sim.blk b _ _ f hH;have aa:=q2.length
   let vs:=(Builtin.zeroCells z.cells n).toList
   have ac:vs.length=n*k:=by simp[vs,Builtin.zeroCells,J]
   have Q:∀v∈vs,QA v:=by
    intro v O;simp only[vs,Builtin.zeroCells,Array.toList_map,Xe,Array.toList_range,List.mem_range]at O;obtain⟨i,hi,rfl⟩:=O;have Y:0<z.cells.size:=by
     grind
    grind[Nat.mod_lt]
   have ab:s*k+n*k=es.length*k:=gq;have d:=Yi (P:=P) (vs:=vs) (s*k) 0 X om Q;have h:=r.sim.set (x':=.row t k (es.take s)) (obj:=.cells (splice l (s*k) vs).toArray t (0,0)) f hH rfl
    (λy q=>Ju X (Yg om) y q)
    (λex L=>⟨_,L,by
     refine(wV (RL.take s q2) ?_).mono ex.nil
     grind[splice]⟩)
   refine⟨.tuple #[],_,j,[],?_,⟨[],rfl,rfl⟩,gq,h.2⟩;have V:(Builtin.clear_ #[T] o.type #[.slice (AC ⟨E,s*k,AF⟩) n F]).run P w=.ok (.tuple #[]) {w with heap:=w.heap.setIfInBounds E (.cells (splice l (s*k) vs).toArray t (0,0))}:=by
    obtain⟨W,rfl⟩:∃W,n=W+1:=⟨n-1,om⟩;simp only[Xy]at d;simp only[Builtin.clear_,XH,XF,Vp,hu,hz,Result.andThen,d,Vq,vs]
   generalize a.eval=ρ at*;simp only[execOp,ho,resolve,Vp,Vq,Result.andThen,invoke,builtin,XJ,Vm,Vn,h2,V]
end
variable {α:Type}
def isNil{R:Type}[DecidableEq R](l:AA α)(x y:AB R):AB R:=bif l.isEmpty then(bif x=y then x else AF)else y
variable {l:AA α}
theorem ui{R:Type}[DecidableEq R]{x y:AB R}{r:R}(h:isNil l x y=AC r)(b:Bool)(d:l≠[]->b=AD):(b=AE->x=AC r)/\(b=AD->y=AC r):=by
 unfold isNil at h
 grind
section
variable {P:AK} {o:AM} {env:Env} {H:Qb} {h0 N:Nat} {Q:Qx}
theorem QmX{e:α->AA A}{E:Nat}{u:TypeId}{x:Operand}(t:P.underlying T=AC (.slice E))(m:o.op=.binOp .eql T x (.const (.slice AF 0 0)) u)(hx:CS env x=.rsl k (l.map e)):
  UP P o env H (λv H'=>∃b:Bool,v=.bool b/\(l≠[]->b=AD)/\H'=H):=by
 intro B g σ N a w r;have d:=Qm r x;rw[hx]at d;obtain⟨f,h,d,q,y⟩:=d;refine⟨.bool f.isNone,H,.bool f.isNone,w,g,[],⟨f.isNone,rfl,λhl=>?_,rfl⟩,?_,rfl,by simpa using r.sim,Qe.refl _ _ _⟩
 .grind
 .have j:a.eval (.const (.slice AF 0 0))=.slice AF 0 0:=rfl
  grind[eqGuard,execOp,Sem.run_bind,Result.andThen,Go.run_eql_slice_nil,Sem.run_pure]
theorem QoS{e:α->AA A}{E d:Nat}{u:TypeId}{x:Operand}{all:Array AM}{L:AA AM}(f:P.underlying T=AC (.slice E))(hx:CS env x=.rsl k (l.map e))
  (h:∀b,(l≠[]->b=AD)->WO P h0 N all L (up env d (.bool b)) H Q)
  (g:o.op=.binOp .eql T x (.const (.slice AF 0 0)) u:=by rfl)(hg:QB all o env true:=by rfl)(hd:o.dst=AC d:=by rfl)(hN:Nat.blt d N=true:=by rfl)(hh:Nat.ble h0 H.length=true:=by rfl):WO P h0 N all (o::L) env H Q:=by
 refine ip (by simp_all) hg hd hN (QmX f g hx) ?_
 grind
end
theorem Nn{x:AA α}{i:Int}(h:Do l 0 i=AC x):0<=i/\i.toNat<=l.length/\l.take i.toNat=x/\x.length=i.toNat:=by
 obtain⟨_,d,f,g⟩:=T4 h
 grind
section
variable {P:AK} {o:AM} {env:Env} {H:Qb} {α:Type} {e:α->AA A} {T et k b t:Nat} {x y:Operand} {l l':AA α} {i:Int}
theorem Qko(h:Do l 0 i=AC l')(E1:∀w,(underlying T).run P w=.ok (.slice et) w)(E2:∀w,(sizeOf et).run P w=.ok k w)(f:o.op=.slice T x (AC y) AF none:=by rfl)
  (hx:CS env x=.osl b 0 l.length k:=by rfl)(hy:CS env y=.int .i64 i:=by rfl):CY P o env H (.osl b (0+i.toNat) (l.length-i.toNat) k):=by
 obtain⟨g,d,_,_⟩:=Nn h;exact nt E1 E2 f hx gq (.inl ⟨rfl,rfl⟩) d (XU _)
theorem Qkp(h:Do l 0 i=AC l')(E1:∀w,(underlying T).run P w=.ok (.slice et) w)(E2:∀w,(sizeOf et).run P w=.ok k w)(f:o.op=.slice T x AF (AC y) none:=by rfl)
  (hx:CS env x=.osl b 0 l.length k:=by rfl)(hy:CS env y=.int .i64 i:=by rfl):CY P o env H (.osl b 0 l'.length k):=by
 obtain⟨g,d,_,j⟩:=Nn h;have:=nt (H:=H) E1 E2 f hx (.inl ⟨rfl,rfl⟩) gq (XV _) d
 grind
theorem Qkr{c:Call}{z:AL}(h:Do l 0 i=AC l')(j:P.underlying T=AC (.slice et))(q:∀w,(zeroValue et).run P w=.ok z w)(d:z.cells.size=k)(f:∀v∈z.cells,QA v)(g:o.op=.call c:=by rfl)(hc:c={callee:=.builtin .clear,args:= #[x],argTypes:= #[T]}:=by rfl)
  (hx:CS env x=.osl b (0+i.toNat) (l.length-i.toNat) k:=by rfl)(hH:H[b]?=AC (.row t k (l.map e)):=by rfl):Fb P o env H (.tup []) (H.set b (.row t k (l'.map e))):=by
 obtain⟨E,y,m,B⟩:=Nn h;refine Qgs j q d f ?_ ?_ g hc hx hH
 .rw[Xx, <- m,List.map_take]
 grind
end
open Go.Sort Go.Proofs Go.Shelf
theorem nk{ro:Nat->Prop}{σ:Cp}{w:AJ}:∀{l:AA Int} {lv:AA AL},RL ro σ w 1 (l.map λx=>[A.int .i64 x]) lv->∃rest,lv=l.map (Value.int .i64)++rest
 |[],lv,_=>⟨lv,rfl⟩
 |x::l,lv,h=>by
  obtain⟨l1,l2,rfl,h1,⟨h2,h3⟩,h4⟩:=h;obtain⟨rest,rfl⟩:=nk h4;obtain⟨v,r,rfl,hv,hr⟩:=h2;cases(show r=[]from hr);exact⟨rest,by rw[show v=.int .i64 x from hv];simp⟩
section
variable {P:AK} {o:AM} {env:Env} {H:Qb} {α:Type} {e:α->AA A} {T et k b t:Nat} {x y:Operand}
theorem jg{lo hi:AB Operand}{l r:AA α}{a c:Int}(h:Do l a c=AC r)(E1:∀w,(underlying T).run P w=.ok (.slice et) w)(E2:∀w,(sizeOf et).run P w=.ok k w)
  (f:lo=AF/\a=0\/ ∃y,lo=AC y/\CS env y=.int .i64 a)(g:hi=AF/\c=l.length\/ ∃y,hi=AC y/\CS env y=.int .i64 c)
  (d:o.op=.slice T x lo hi none:=by rfl)(hx:CS env x=.osl b 0 l.length k:=by rfl):CY P o env H (.osl b (0+a.toNat) (c.toNat-a.toNat) k):=by
 obtain⟨m,j,q,_⟩:=T4 h;refine nt E1 E2 d hx ?_ ?_ om om
 .grind
 grind
theorem ef{l r:AA α}{a c:Int}(h:Do l a c=AC r)(hH:H[b]?=AC (.row t k (l.map e)):=by rfl):G6 P H (.osl b (0+a.toNat) (c.toNat-a.toNat) k) k (r.map e):=by
 obtain⟨j,f,g,d⟩:=T4 h;refine G6.osl hH ?_ gq;rw[<- d, <- List.map_drop, <- List.map_take,Xx,List.drop_take]
theorem Qo8{c:Call}{T' et et' i:Nat}{x y:Operand}{d:A}{l l' m r:AA α}{z:Int}(hl:Do l 0 z=AC l')(h:app l' m=AC r)(E:ElemTy P T et k)(f:∀w,(underlying T').run P w=.ok (.slice et') w)(hs:G6 P H d k (m.map e))
  (g:o.op=.call c:=by rfl)(hc:c={callee:=.builtin .append,args:= #[x,y],argTypes:= #[T,T']}:=by rfl)(hx:CS env x=.osl i (0+Int.toNat 0) (z.toNat-Int.toNat 0) k:=by rfl)
  (hH:H[i]?=AC (.row et k (l.map e)):=by rfl)(hy:CS env y=d:=by rfl):
  Fb P o env H (.osl H.length 0 r.length k) (H.set i .dead++[.row et k (r.map e)]):=by
 obtain⟨t,rfl⟩:=ml h;obtain⟨q,F,j,B⟩:=Nn hl;have:=wW (n:=z.toNat) (gs:=(l'++m).map e) E f g hc hx hH gq hy hs gq (by rw[<- List.map_take,j,Xf])
 grind
end
end
section
inductive Bx where
 |mk (a:A)
def N0:Env->Nat->Bx
 |[],_=>.mk .any
 |(d,a)::r,s=>bif Nat.beq s d then .mk a else N0 r s
theorem mt:∀{env:Env} {s:Nat} {a:A},N0 env s=.mk a->lk env s=a
 |[],s,a,h=>by cases h;rfl
 |(d,b)::r,s,a,h=>by
  unfold N0 at h;unfold lk;cases q:Nat.beq s d with
  |true=>grind
  |false=>rw[q]at h;exact mt h
inductive FBy where
 |mk (l:List UInt8)
def dH:AA UInt8->FBy
 |[]=>.mk []
 |a::r=>match dH r with
  |.mk r'=>.mk (a::r')
theorem sb:∀l,dH l=.mk l
 |[]=>rfl
 |a::r=>by unfold dH;rw[sb r]
def DZ(env:Env):Operand->Bx
 |.tmp t=>N0 env t
 |.const (.bool b)=>.mk (.bool b)
 |.const (.int k n)=>.mk (.int k n)
 |.const (.string s)=>match dH s.data.toList with
  |.mk l=>.mk (.str l)
 |.const (.pointer AF)=>.mk .nilp
 |.const (.slice AF 0 0)=>.mk .nils
 |.const (.map AF)=>.mk .nilm
 |.const .nilFunc=>.mk .nilf
 |.const .nilIface=>.mk .nilif
 |.func f=>.mk (.fn (.func f) [] [])
 |_=>.mk .any
theorem QO{env:Env}{x:Operand}{a:A}(h:DZ env x=.mk a):CS env x=a:=by
 cases x with
 |tmp t=>exact mt h
 |const v=>
  cases v with
  |slice b n k=>cases b with
   |none=>cases n with
    |zero=>cases k<;>(cases h;rfl)
    |succ n=>cases h;rfl
   |some b=>cases h;rfl
  |pointer p=>cases p<;>(cases h;rfl)
  |map p=>cases p<;>(cases h;rfl)
  |string s=>
   have d:(match dH s.data.toList with|.mk l=>Bx.mk (.str l))=.mk a:=h;rw[sb]at d;cases d;rfl
  |_=>cases h;rfl
 |global g=>cases h;rfl
 |func f=>cases h;rfl
def QW{α:Type}:AA α->Nat->AB α
 |[],_=>AF
 |a::_,0=>AC a
 |_::r,n+1=>QW r n
theorem Nc{α:Type}:∀(l:AA α) (n:Nat),QW l n=l[n]?
 |[],n=>by simp[QW]
 |a::r,0=>rfl
 |a::r,n+1=>by simp[QW,Nc r n]
def rL:BinOp->IntKind->Int->Int->AB A
 |.add,k,m,n=>AC (.int k (k.wrap (m+n)))
 |.sub,k,m,n=>AC (.int k (k.wrap (m-n)))
 |.mul,k,m,n=>AC (.int k (k.wrap (m*n)))
 |.eql,_,m,n=>AC (.bool (m==n))
 |.neq,_,m,n=>AC (.bool (m != n))
 |.lss,_,m,n=>AC (.bool (AG (m<n)))
 |.leq,_,m,n=>AC (.bool (AG (m<=n)))
 |.gtr,_,m,n=>AC (.bool (AG (n<m)))
 |.geq,_,m,n=>AC (.bool (AG (n<=m)))
 |_,_,_,_=>AF
def qn:BinOp->AA UInt8->AA UInt8->AB A
 |.eql,p,q=>AC (.bool (p==q))
 |.neq,p,q=>AC (.bool (p != q))
 |.lss,p,q=>AC (.bool (Op.bytesLess p q))
 |_,_,_=>AF
def mP(b:BinOp):Bx->Bx->AB A
 |.mk (.int k m),.mk (.int k' n)=>if k=k' then rL b k m n else AF
 |.mk (.str p),.mk (.str q)=>qn b p q
 |_,_=>AF
def kC:UnOp->Bx->AB A
 |.not,.mk (.bool b)=>AC (.bool !b)
 |.neg,.mk (.int k n)=>AC (.int k (k.wrap (0-n)))
 |_,_=>AF
def mC:Bx->Nat->AB A
 |.mk (.tup vs),i=>QW vs i
 |_,_=>AF
def kO:Bx->AB A
 |.mk (.ptr i j)=>AC (.ptr i j)
 |.mk (.rp cs)=>AC (.rp cs)
 |_=>AF
def kM:Bx->Bx->Bx->AB A
 |.mk (.bool AE),.mk a,_=>AC a
 |.mk (.bool AD),_,.mk a=>AC a
 |_,_,_=>AF
def Lq(env:Env):Op->AB A
 |.move x=>match DZ env x with|.mk a=>AC a
 |.assign x=>match DZ env x with|.mk a=>AC a
 |.nilCheck x=>kO (DZ env x)
 |.extract x i=>mC (DZ env x) i
 |.unOp u _ x=>kC u (DZ env x)
 |.pick c x y=>kM (DZ env c) (DZ env x) (DZ env y)
 |.binOp b _ x y _=>mP b (DZ env x) (DZ env y)
 |_=>AF
def pr(d:Nat):AB A->AB (Nat×A)
 |some a=>AC (d,a)
 |none=>AF
def kG(o:AM)(env:Env):AB (Nat×A):=
 match o.dst with
 |some d=>pr d (Lq env o.op)
 |none=>AF
variable {T f t:Nat}
section
variable {P:AK} {h0 N:Nat} {all:Array AM} {o:AM} {l:AA AM} {env:Env} {H H':Qb} {Q:Qx} {d:Nat} {x:A}
theorem Si{p:Op}(g:o.op=p)(h:Lq env p=AC x):CY P o env H x:=by
 unfold Lq at h;split at h
 .rename_i y;cases q:DZ env y with|mk a=>simp_all[CY.move,QO]
 .rename_i y;cases q:DZ env y with|mk a=>simp_all[CY.assign,QO]
 .rename_i y;unfold kO at h;split at h
  .rename_i i j q;cases h;exact wS g (QO q) rfl
  .rename_i F q;cases h;exact wS g (QO q) rfl
  .cases h
 .rename_i y i;unfold mC at h
  grind[Nc,CY.extract,QO]
 .rename_i u t y;unfold kC at h
  grind[CY.not,QO,CY.neg]
 .rename_i c y z;unfold kM at h;split at h
  .rename_i a _ d f;cases h;exact CY.pick g (QO d) (by rw[Vv rfl];exact QO f)
  .rename_i a d f;cases h;exact CY.pick g (QO d) (by exact QO f)
  .cases h
 .rename_i b t y z u;unfold mP at h;split at h
  .rename_i k m G n d f;split at h
   .rename_i e;subst e;have E:=QO d;have B:=QO f;unfold rL at h
    grind[CY.add,CY.sub,CY.mul,CY.eql,CY.neq,CY.lss,CY.leq,CY.gtr,CY.geq]
   .cases h
  .rename_i p q d f;have E:=QO d;have B:=QO f;unfold qn at h
   grind[QmR,QmN,QmO]
  .cases h
 .cases h
theorem sL(h:kG o env=AC (d,x)):o.dst=AC d/\CY P o env H x:=by
 unfold kG at h;split at h
 .rename_i f q;cases e:Lq env o.op with
  |none=>rw[e]at h;cases h
  |some a=>rw[e]at h;cases h;exact⟨q,Si rfl e⟩
 .cases h
theorem S(e:kG o env=AC (d,x))(k:WO P h0 N all l (up env d x) H Q)(hg:QB all o env true:=by rfl)(hN:Nat.blt d N=true:=by rfl):WO P h0 N all (o::l) env H Q:=
 Ya hg (sL (P:=P) (H:=H) e).1 hN (sL e).2 k
theorem K(hg:QB all o env AD)(f:o.dst=AC d)(k:WO P h0 N all l (up env d (.tup [])) H Q)(g:Nat.blt d N=true:=by rfl):WO P h0 N all (o::l) env H Q:=
 WO.skip hg f g k
def kN(v:Bool):Bx->Bx->Bx->AB (Bool×A)
 |.mk (.bool b),.mk a,.mk a'=>match v with|true=>AC (b,a)|false=>AC (b,a')
 |_,_,_=>AF
def xp(d:Nat):AB (Bool×A)->AB (Nat×Bool×A)
 |some a=>AC (d,a)
 |none=>AF
def kK(v:Bool)(o:AM)(env:Env):AB (Nat×Bool×A):=
 match o.dst,o.op with
 |some d,.pick c x y=>xp d (kN v (DZ env c) (DZ env x) (DZ env y))
 |_,_=>AF
theorem QrT{v b:Bool}{p q r:Bx}(h:kN v p q r=AC (b,x)):∃a a',p=.mk (.bool b)/\q=.mk a/\r=.mk a'/\(bif v then a else a')=x:=by
 obtain⟨p⟩:=p;obtain⟨q⟩:=q;obtain⟨r⟩:=r;cases p<;>first|(cases h)|skip
 cases v<;>cases h<;>exact sq
theorem sa{v b:Bool}(h:kK v o env=AC (d,b,x))(B:b=v):o.dst=AC d/\CY P o env H x:=by
 unfold kK at h;split at h
 .rename_i t c y z q E;cases e:kN v (DZ env c) (DZ env y) (DZ env z)with
  |none=>rw[e]at h;cases h
  |some s=>
   rw[e]at h;cases h;obtain⟨a,j,f,F,g,m⟩:=QrT e
   grind[CY.pick,QO]
 .cases h
theorem Pk{v b:Bool}(f:b=v)(e:kK v o env=AC (d,b,x))(k:WO P h0 N all l (up env d x) H Q)(hg:QB all o env true:=by rfl)(hN:Nat.blt d N=true:=by rfl):WO P h0 N all (o::l) env H Q:=
 Ya hg (sa (P:=P) (H:=H) e f).1 hN (sa e f).2 k
def iQ(o:AM)(env:Env):AB (Nat×Nat×Nat×Nat×Nat):=
 match o.dst,o.op with
 |some d,.fieldAddr T x f=>match DZ env x with
  |.mk (.ptr i p)=>AC (d,T,f,i,p)
  |_=>AF
 |_,_=>AF
theorem iw{off n i p:Nat}(g:Yc P T f off n)(h:iQ o env=AC (d,T,f,i,p)):o.dst=AC d/\CY P o env H (.ptr i (p+off)):=by
 grind[iQ,oZ,QO]
theorem Fp{off n i p:Nat}(g:Yc P T f off n)(e:iQ o env=AC (d,T,f,i,p))(k:WO P h0 N all l (up env d (.ptr i (p+off))) H Q)(hg:QB all o env true:=by rfl)(hN:Nat.blt d N=true:=by rfl):WO P h0 N all (o::l) env H Q:=
 Ya hg (iw (H:=H) g e).1 hN (iw g e).2 k
theorem aY{off n i p:Nat}(hg:QB all o env AE)(g:Yc P T f off n)(e:iQ o env=AC (d,T,f,i,p))(k:WO P h0 N all l (up env d (.ptr i (p+off))) H Q)(h:Nat.blt d N=true:=by rfl):WO P h0 N all (o::l) env H Q:=
 Ya hg (iw (H:=H) g e).1 h (iw g e).2 k
inductive Lx where
 |mk (l:List A)
def eN:Nat->AA A->Lx
 |0,l=>.mk l
 |n+1,_::r=>eN n r
 |_+1,[]=>.mk []
theorem oH:∀{n:Nat} {l r:AA A},eN n l=.mk r->l.drop n=r
 |0,l,r,h=>by cases h;rfl
 |n+1,a::l,r,h=>by rw[List.drop_succ_cons];exact oH h
 |n+1,[],r,h=>by cases h;rfl
def rJ:AB Ci->Nat->AB A
 |some (.cells _ cs),off=>QW cs off
 |_,_=>AF
def kQ(H:Qb):Bx->AB A
 |.mk (.ptr i off)=>rJ (QW H i) off
 |.mk (.rp (a::_))=>AC a
 |_=>AF
def xo(d t:Nat):AB A->AB (Nat×Nat×A)
 |some a=>AC (d,t,a)
 |none=>AF
def kU(o:AM)(env:Env)(H:Qb):AB (Nat×Nat×A):=
 match o.dst,o.op with
 |some d,.load t x=>xo d t (kQ H (DZ env x))
 |_,_=>AF
theorem sR(m:∀w,(isAgg t).run P w=.ok AD w)(h:kU o env H=AC (d,t,x)):o.dst=AC d/\CY P o env H x:=by
 unfold kU at h;split at h
 .rename_i J G y E q;cases e:kQ H (DZ env y)with
  |none=>rw[e]at h;cases h
  |some a=>
   rw[e]at h;cases h;refine⟨E,?_⟩;unfold kQ at e;split at e
   .rename_i i f j;unfold rJ at e;split at e
    .rename_i f L T0 T cs q4;rw[Nc]at e q4;obtain⟨g,F⟩:∃g,cs.drop f=x::g:=by
      have B:=(XM.1 e).1
      simp_all[Xp]
     exact CY.load q m (QO j) (Dn.cells q4 F)
    .cases e
   .rename_i a r j;cases e;exact CY.load q m (QO j) Dn.rp
   .cases e
 .cases h
theorem Ldg(hg:QB all o env AE)(f:∀w,(isAgg t).run P w=.ok AD w)(e:kU o env H=AC (d,t,x))(k:WO P h0 N all l (up env d x) H Q)(g:Nat.blt d N=true:=by rfl):WO P h0 N all (o::l) env H Q:=
 Ya hg (sR f e).1 g (sR f e).2 k
def Lb(o:AM)(env:Env):AB (Nat×Nat×Nat×AA (AA A)×IntKind×Int):=
 match o.dst,o.op with
 |some d,.indexAddr t x y=>match DZ env x,DZ env y with
  |.mk (.rsl k es),.mk (.int kk i)=>AC (d,t,k,es,kk,i)
  |_,_=>AF
 |_,_=>AF
theorem Ix{α:Type}{e:α->AA A}{k:Nat}{L:AA α}{kk:IntKind}{i:Int}{v:α}(h:CN L i=AC v)(x:∀w,(underlying t).run P w=.ok (.slice f) w)(hs:∀w,(sizeOf f).run P w=.ok k w)
  (q:Lb o env=AC (d,t,k,L.map e,kk,i))(k:WO P h0 N all l (up env d (.rp (e v))) H Q)(hg:QB all o env true:=by rfl)(hN:Nat.blt d N=true:=by rfl):WO P h0 N all (o::l) env H Q:=by
 unfold Lb at q;split at q
 .rename_i m B;split at q
  .rename_i y j;simp[Option.some.injEq,Prod.mk.injEq]at q;obtain⟨rfl,rfl,rfl,g,rfl,rfl⟩:=q;exact Ya hg m hN (T5 h x hs B (by rw[QO y,g]) (QO j)) k
  .cases q
 .cases q
def SG(o:AM)(env:Env):AB (Nat×Nat×Bx):=
 match o.dst,o.op with
 |some d,.call c=>match c with
  |{callee:=.builtin .len,args:=⟨[x]⟩,argTypes:=⟨[t]⟩}=>AC (d,t,DZ env x)
  |_=>AF
 |_,_=>AF
theorem sS{b:Bx}(q:SG o env=AC (d,t,b)):∃x,o.dst=AC d/\o.op=.call {callee:=.builtin .len,args:= #[x],argTypes:= #[t]}/\DZ env x=b:=by
 unfold SG at q
 grind
theorem xV{α:Type}{e:α->AA A}{j k:Nat}{L:AA α}(f:∀w,(underlying t).run P w=.ok (.slice j) w)(q:SG o env=AC (d,t,.mk (.rsl k (L.map e))))
  (k:WO P h0 N all l (up env d (.int .i64 L.length)) H Q)(hg:QB all o env true:=by rfl)(hN:Nat.blt d N=true:=by rfl):WO P h0 N all (o::l) env H Q:=by
 obtain⟨x,m,h,g⟩:=sS q;exact Ya hg m hN (nu f h rfl (QO g)) k
end
variable {α:Type}
variable {r:α}
section
variable {P:AK} {h0 N:Nat} {all:Array AM} {env env':Env} {H H':Qb} {Q:Qx} {c c':Code}
theorem Oi{α:Type}{x y:α}(h:AC x=AC y):x=y:=X0 h
theorem Bd{α β:Type}{x:AB α}{f:α->AB β}{r:β}{G:Prop}(h:x.bind f=AC r)(k:∀a,x=AC a->f a=AC r->G):G:=by
 obtain⟨a,d,g⟩:=Yf h
 grind
theorem If{c:Bool}{x y:AB α}{G:Prop}(h:(bif c then x else y)=AC r)(t:c=AE->x=AC r->G)(e:c=AD->y=AC r->G):G:=by
 grind
theorem Cn{x:Operand}{t:Bool}{p q:AB α}(hx:DZ env x=.mk (.bool t))(h:(bif t then p else q)=AC r)(ht:t=AE->p=AC r->TC P h0 N c env H Q)(hf:t=AD->q=AC r->TC P h0 N c' env H Q):TC P h0 N (.cond x c c') env H Q:=
 TC.cond (QO hx) gq gq
theorem Dm{x:Operand}{t:Bool}{p q:AB α}(hx:DZ env x=.mk (.bool t))(h:(bif t then p else q)=AC r)(hf:t=AD->q=AC r->TC P h0 N c' env H Q)(ht:t=AE->p=AC r->TC P h0 N c env H Q):TC P h0 N (.cond x c c') env H Q:=
 TC.cond (QO hx) gq gq
theorem Lr(π:AA Nat)(d:π.take h0=List.range h0:=by rfl)(hH:π.map (λp=>H[p]?)=(H'.map (Q4 (Cu π H.length))).map some:=by rfl)(hπ:π.Nodup:=by decide)
  (hE:IU (Cu π H.length) env env':=by(repeat' (first|exact trivial|refine⟨rfl,?_⟩))):Le h0 env H env' H':=mf π d hH hπ hE
end
def Ev(f:Nat->AB α)(v:α):Prop:=∃N,∀n,N<=n->f n=AC v
variable {k:Nat}
section
variable {α β:Type} {f g:Nat->AB α} {v w:α}
theorem Qa(v:α):Ev (λ_=>AC v) v:=⟨0,λ_ _=>rfl⟩
theorem Ev.const{o:AB α}(h:o=AC v):Ev (λ_=>o) v:=⟨0,λ_ _=>h⟩
theorem Ev.bind{k:Nat->α->AB β}{b:β}(h:Ev f v)(hk:Ev (λn=>k n v) b):Ev (λn=>(f n).bind (k n)) b:=by
 obtain⟨N,h⟩:=h;obtain⟨M,hk⟩:=hk;exact⟨max N M,λn hn=>gq⟩
theorem Qj{o:AB α}{k:Nat->α->AB β}{b:β}(h:o=AC v)(hk:Ev (λn=>k n v) b):Ev (λn=>o.bind (k n)) b:=Ev.bind (Ev.const h) hk
theorem YQ{c:Bool}(h:c=AE->Ev f v)(d:c=AD->Ev g w):Ev (λn=>bif c then f n else g n) (bif c then v else w):=by
 cases c with
 |true=>exact h rfl
 |false=>exact d rfl
theorem Jk(h:Ev f v):Ev (λn=>bif AE then f n else g n) v:=h
theorem Qo(h:Ev g v):Ev (λn=>bif AD then f n else g n) v:=h
theorem Ev.and{c d:Bool}{h:Nat->AB Bool}(f:c=AE->Ev h d):Ev (λn=>bif c then h n else AC AD) (c&&d):=by
 cases c with
 |true=>exact f rfl
 |false=>exact Qa _
theorem Qg{c d:Bool}{h:Nat->AB Bool}(f:c=AD->Ev h d):Ev (λn=>bif c then AC AE else h n) (c||d):=by
 cases c with
 |true=>exact Qa _
 |false=>exact f rfl
theorem Ev.eq(h:Ev f v)(e:v=w):Ev f w:=e▸h
theorem Ev.congr(h:Ev f v)(e:∀n,g n=f n):Ev g v:=by
 obtain⟨N,h⟩:=h;exact⟨N,λn hn=>gq⟩
theorem Yy(h:Ev (λn=>f (n+1)) v):Ev f v:=by
 obtain⟨N,h⟩:=h;refine⟨N+1,λn hn=>?_⟩;obtain⟨m,rfl⟩:∃m,n=m+1:=⟨n-1,om⟩
 grind
theorem Ev.ex(h:Ev f v):∃n,f n=AC v:=let⟨N,h⟩:=h;⟨N,h N (XU _)⟩
theorem Ev.all{F:Nat->Nat->AB α}{V:Nat->α}(h:∀i,i<k->Ev (F i) (V i)):∃N,∀n,N<=n->∀i,i<k->F i n=AC (V i):=by
 induction k with
 |zero=>simp
 |succ k d=>
  obtain⟨N,j⟩:=d gq;obtain⟨M,f⟩:=h k om;refine⟨max N M,λn hn i g=>?_⟩
  grind
end
variable {β:Type}
section
variable {S B α:Type} {step:Nat->S->AB (CJ S B)}
theorem Ev.iter{s0:S}(st:Nat->S)(k:Nat){b:B}(g:st 0=s0)(h:∀i,i<k->Ev (λn=>step n (st i)) (.k (st (i+1))))(f:Ev (λn=>step n (st k)) (.d b)):
  Ev (λn=>Go.Sw.iter (step n) n s0) b:=by
 obtain⟨N,j⟩:=Ev.all h;obtain⟨M,d⟩:=f;exact⟨max (max N M) (k+1),λn hn=>QnY s0 st b k g gq (d n om) n om⟩
theorem jc{step:S->AB (CJ S B)}{s:S}{b:B}(m:Nat)(h:Go.Sw.iter step m s=AC b):Ev (λn=>Go.Sw.iter step n s) b:=by
 have mono:∀m s,Go.Sw.iter step m s=AC b->∀n,m<=n->Go.Sw.iter step n s=AC b:=by
  intro m
  induction m with
  |zero=>intro s h;cases h
  |succ m f=>
   intro s h n hn;obtain⟨d,rfl⟩:∃d,n=d+1:=⟨n-1,om⟩
   grind[Go.Sw.iter]
 exact⟨m,gq⟩
structure At (l:List α) (i:Nat) (x:α):Prop where
 get:l[i]?=AC x
 lt:AG ((i:Int)<(l.length:Int))=AE
 ix:CN l (i:Int)=AC x
 nx:IntKind.i64.wrap ((i:Int)+1)=((i+1:Nat):Int)
theorem YH{l:AA α}{i:Nat}{x:α}(hl:l.length<=4611686018427387904)(h:l[i]?=AC x):At l i x:=by
 have d:=(XM.1 h).1;exact⟨h,gq,Qf h,QL om⟩
theorem At.mem{l:AA α}{i:Nat}{x:α}(h:At l i x):x∈l:=VK h.get
theorem At.lt'{l:AA α}{i:Nat}{x:α}(h:At l i x):i<l.length:=(XM.1 h.get).1
theorem At.take{l:AA α}{i:Nat}{x:α}(h:At l i x):l.take (i+1)=l.take i++[x]:=by
 rw[List.take_add_one,h.get];rfl
theorem Jd(l:AA α):AG ((l.length:Int)<(l.length:Int))=false:=sq
theorem Ja{s0:S}(l:AA α)(q:α->Bool)(st:Nat->S)(f b:B)(hl:l.length<=4611686018427387904)(g:st 0=s0)
  (G:∀i x,At l i x->q x=AD->Ev (λn=>step n (st i)) (.k (st (i+1))))
  (hx:∀i x,At l i x->q x=AE->Ev (λn=>step n (st i)) (.d f))
  (t:Ev (λn=>step n (st l.length)) (.d b)):Ev (λn=>Go.Sw.iter (step n) n s0) (bif l.any q then f else b):=by
 have d:∀k,k<=l.length->(∀i x,l[i]?=AC x->i<k->q x=AD)\/ ∃i x,l[i]?=AC x/\i<k/\q x=AE/\ ∀j y,l[j]?=AC y->j<i->q y=false:=by
  intro k
  induction k with
  |zero=>simp
  |succ k J=>
   grind
 rcases d l.length (XU _)with h|⟨i,x,E,L,F,M⟩
 .have:l.any q=false:=by
   rw[VP];intro e;obtain⟨x,hx,e⟩:=Xt.1 e;obtain⟨i,m,rfl⟩:=List.getElem_of_mem hx
   grind
  rw[this];exact Ev.iter st l.length g (λi m=>G i _ (YH hl (XL m)) gq) t
 .have:l.any q=true:=gq;rw[this];refine Ev.iter st i g (λj H=>?_) (hx i x (YH hl E) F)
  grind[YH]
theorem Yu{s0:S}(l:AA α)(g:β->α->β)(d:β)(st:β->Nat->S)(f:β->B)(hl:l.length<=4611686018427387904)(t:st d 0=s0)
  (j:∀i x a,At l i x->a=(l.take i).foldl g d->Ev (λn=>step n (st a i)) (.k (st (g a x) (i+1))))
  (q:Ev (λn=>step n (st (l.foldl g d) l.length)) (.d (f (l.foldl g d)))):Ev (λn=>Go.Sw.iter (step n) n s0) (f (l.foldl g d)):=by
 refine Ev.iter (λi=>st ((l.take i).foldl g d) i) l.length gq (λi m=>?_) gq;have h:=YH hl (XL m);have:=j i _ _ h rfl;rw[h.take,List.foldl_append];exact this
theorem Ev.contains(l:AA α)(q:α->Bool)(g:Nat->α->AB Bool)(hl:l.length<=4611686018427387904)(hg:∀x∈l,Ev (λn=>g n x) (q x)):
  Ev (λn=>(((Go.Sw.iter (λs:Int=>bif s<(l.length:Int) then(CN l s).bind λx=>(g n x).bind λr=>(bif r then AC (CJ.d (CJ.d s))else AC (CJ.k (IntKind.i64.wrap (s+1))))else AC (CJ.d (CJ.k ()))) n (0:Int):AB (CJ Unit Int)).bind λb=>
   match b with
   |.k _=>AC (-1)
   |.d s=>AC s):AB Int).bind λr=>AC (AG (0<=r))) (l.any q):=by
 cases e:l.any q with
 |false=>
  refine Ev.bind (v:=(-1:Int)) (Ev.bind (v:=CJ.k ()) (Ev.iter (λi=>(i:Int)) l.length rfl (λi G=>?_) ?_) (Qa _)) (Qa _)
  .have d:=YH (x:=l[i]) hl (XL G);simp only[d.lt,Vr,d.ix,XK];have t:q l[i]=false:=by
    grind
   refine Ev.bind ((hg _ d.mem).eq t) ?_;simp only[Vs,d.nx];exact Qa _
  simp_all[Qa]
 |true=>
  obtain⟨x,hx,h⟩:=Xt.1 e;have f:∀k,k<=l.length->(∀(i:Nat) (x:α),l[i]?=AC x->i<k->q x=AD)\/ ∃(i:Nat) (x:α),l[i]?=AC x/\i<k/\q x=AE/\ ∀(j:Nat) (y:α),l[j]?=AC y->j<i->q y=false:=by
   intro k
   induction k with
   |zero=>simp
   |succ k L=>
    grind
  rcases f l.length (XU _)with H|⟨i,x,E,J,F,B⟩
  .obtain⟨j,m,rfl⟩:=List.getElem_of_mem hx
   grind
  .refine Ev.bind (v:=(i:Int)) (Ev.bind (v:=CJ.d (i:Int)) (Ev.iter (λi=>(i:Int)) i rfl (λj m=>?_) ?_) (Qa _)) ?_
   .have d:=YH (x:=l[j]) hl (XL om);simp only[d.lt,Vr,d.ix,XK];refine Ev.bind ((hg _ d.mem).eq (B j _ d.get m)) ?_;simp only[Vs,d.nx];exact Qa _
   .have d:=YH hl E;simp only[d.lt,Vr,d.ix,XK];refine Ev.bind ((hg _ d.mem).eq F) ?_;exact Qa _
   simp_all[Qa]
end
section
variable {S B α:Type} {step:Nat->S->AB (CJ S B)}
theorem xA{s0:S}(st:Nat->S)(k:Nat)(R:Nat->B)(g:st 0=s0)(F:∀i,i<k->(Ev (λn=>step n (st i)) (.k (st (i+1)))/\R i=R (i+1))\/Ev (λn=>step n (st i)) (.d (R i)))
  (q:Ev (λn=>step n (st k)) (.d (R k))):Ev (λn=>Go.Sw.iter (step n) n s0) (R 0):=by
 have d:∀m,m<=k->(∀i,i<m->Ev (λn=>step n (st i)) (.k (st (i+1)))/\R i=R (i+1))\/ ∃j,j<m/\(∀i,i<j->Ev (λn=>step n (st i)) (.k (st (i+1)))/\R i=R (i+1))/\Ev (λn=>step n (st j)) (.d (R j)):=by
  intro m
  induction m with
  |zero=>simp
  |succ m t=>
   grind
 have HO:∀m,(∀i,i<m->R i=R (i+1))->R 0=R m:=by
  intro m
  induction m with
  |zero=>intro _;rfl
  |succ m t=>grind
 rcases d k (XU _)with h|⟨j,E,x,y⟩
 .rw[HO k λi f=>(h i f).2];exact Ev.iter st k g gq q
 .rw[HO j λi f=>(x i f).2];exact Ev.iter st j g gq y
theorem At.drop{l:AA α}{i:Nat}{x:α}(h:At l i x):l.drop i=x::l.drop (i+1):=by
 have:=h.lt';rw[Xp this,(XM.1 h.get).2]
theorem pD{s0:S}(l:AA α)(st:Nat->S)(R:Nat->B)(hl:l.length<=4611686018427387904)(h0:st 0=s0)
  (hc:∀i x,At l i x->(Ev (λn=>step n (st i)) (.k (st (i+1)))/\R i=R (i+1))\/Ev (λn=>step n (st i)) (.d (R i)))
  (hd:Ev (λn=>step n (st l.length)) (.d (R l.length))):Ev (λn=>Go.Sw.iter (step n) n s0) (R 0):=
 xA st l.length R h0 (λi hi=>hc i _ (YH hl (XL hi))) hd
end
variable {γ:Type}
section
variable {α β:Type} [DecidableEq α]
theorem Y2(p:α×β)(l:AA (α×β))(k:α):GM (p::l) k=if p.1=k then AC p.2 else GM l k:=by
 grind[GM]
theorem Ql2(p:α×β)(l:AA (α×β))(k:α)(v:β):QE (p::l) k v=if p.1=k then(p.1,v)::l.map (λq=>bif q.1=k then(q.1,v)else q)else p::QE l k v:=by
 unfold QE
 grind
theorem QnP(l:AA (α×β))(k d:α)(v:β)(h:d≠k):GM (l.map λq=>bif q.1=k then(q.1,v)else q) d=GM l d:=by
 induction l with
 |nil=>rfl
 |cons p l f=>
  grind[Y2]
theorem jX(l:AA (α×β))(k d:α)(v:β):GM (QE l k v) d=if d=k then AC v else GM l d:=by
 induction l with
 |nil=>
  show GM ([]++[(k,v)]) d=_;rw[Vk,Y2]
  grind
 |cons p l f=>
  rw[Ql2];by_cases e:p.1=k
  .rw[Vv e,Y2,Y2];by_cases h:d=k
   .grind
   .have:p.1≠d:=gq
    simp_all[QnP]
  .rw[Vu e,Y2,Y2,f]
   grind
theorem Ql5(k:α)(z:β):Qd ([]:AA (α×β)) k z=z:=rfl
theorem YG(l:AA (α×β))(k d:α)(v z:β):Qd (QE l k v) d z=if d=k then v else Qd l d z:=by
 grind[Qd,jX]
theorem Ql1(l:AA (α×β))(k:α)(v:β):(QE l k v).map (·.1)=if k∈l.map (·.1)then l.map (·.1)else l.map (·.1)++[k]:=by
 unfold QE;have e:(l.any λp=>AG (p.1=k))=AG (k∈l.map (·.1)):=by
  grind
 rw[e];by_cases h:k∈l.map (·.1)
 .rw[Vw h,Vv h,Vr,List.map_map];apply List.map_congr_left
  grind
 grind
def Ym(key:γ->α)(v:β)(l:AA γ):AA (α×β):=l.foldl (λm x=>QE m (key x) v) []
theorem Qhu(d:γ->α)(v:β)(l:AA γ)(x:γ):Ym d v (l++[x])=QE (Ym d v l) (d x) v:=by
 unfold Ym;simp
theorem wq(d:γ->α)(v z:β)(l:AA γ)(k:α):Qd (Ym d v l) k z=if k∈l.map d then v else z:=by
 have f:∀(l:AA γ) (m:AA (α×β)),Qd (l.foldl (λm x=>QE m (d x) v) m) k z=if k∈l.map d then v else Qd m k z:=by
  intro l
  induction l with
  |nil=>simp
  |cons x l g=>
   intro m;rw[XE,g,YG]
   grind
 exact f l []
theorem xP(d:γ->α)(v:β)(l:AA γ):(Ym d v l).length<=l.length/\((Ym d v l).length=l.length↔(l.map d).Nodup):=by
 have g:∀(l:AA γ) (m:AA (α×β)),(m.map (·.1)).Nodup->(l.foldl (λm x=>QE m (d x) v) m).length<=m.length+l.length/\((l.foldl (λm x=>QE m (d x) v) m).length=m.length+l.length↔(m.map (·.1)++l.map d).Nodup):=by
  intro l
  induction l with
  |nil=>simp
  |cons x l q=>
   intro m j;have hk:=Ql1 m (d x) v;have f:(QE m (d x) v).length=((QE m (d x) v).map (·.1)).length:=sq;by_cases h:d x∈m.map (·.1)
   .grind
   .rw[Vu h]at hk;have hn:((QE m (d x) v).map (·.1)).Nodup:=by
     grind
    grind
 grind[Ym]
end
theorem Jo(l:AA α)(p:α->Bool)(g:Nat->α->AB Bool)(hl:l.length<=4611686018427387904)(hg:∀x∈l,Ev (λn=>g n x) (p x)):
  Ev (λn=>(((Go.Sw.iter (λs:Int=>bif s<l.length then(CN l s).bind λx=>((g n x).bind λr1=>AC (!r1)).bind λr=>(bif r then AC (CJ.d (CJ.d s))else AC (CJ.k (IntKind.i64.wrap (s+1))))else AC (CJ.d (CJ.k ()))) n 0).bind λb=>
   match b with
   |.k _=>AC (-1)
   |.d s=>AC s).bind λr=>AC (AG (0<=r))).bind λr=>AC (!r)) (l.all p):=by
 refine Ev.bind (Ev.contains l (λx=> !p x) (λn x=>(g n x).bind λr1=>AC (!r1)) hl λx hx=>Ev.bind (hg x hx) (Qa _)) ((Qa _).eq ?_)
 grind
def Zx{α κ:Type}[DecidableEq κ](ok:α->Bool)(key:α->κ):AA κ->AA α->Bool
 |_,[]=>AE
 |seen,x::r=>ok x&& !seen.contains (key x)&&Zx ok key (seen++[key x]) r
theorem tB{α κ:Type}[DecidableEq κ](ok:α->Bool)(f:α->κ):∀(l:AA α) (d:AA κ),d.Nodup->Zx ok f d l=(l.all ok&&AG ((d++l.map f).Nodup))
 |[],d,h=>by simp[Zx,h]
 |x::r,d,h=>by
  simp[Zx,Vm];by_cases hk:f x∈d
  .grind
  .have hn:(d++[f x]).Nodup:=by
    grind
   rw[tB ok f r _ hn]
   grind
variable {B:Type}
theorem rx{κ:Type}[DecidableEq κ]{step:Nat->Int->AB (CJ Int B)}(l:AA α)(ok:α->Bool)(d:α->κ)(f b:B)(hl:l.length<=4611686018427387904)
  (j:∀i x,At l i x->ok x=AE->((l.take i).map d).contains (d x)=AD->Ev (λn=>step n (i:Int)) (.k ((i+1:Nat):Int)))
  (hx:∀i x,At l i x->ok x=AD->Ev (λn=>step n (i:Int)) (.d f))
  (m:∀i x,At l i x->ok x=AE->((l.take i).map d).contains (d x)=AE->Ev (λn=>step n (i:Int)) (.d f))
  (h:Ev (λn=>step n (l.length:Int)) (.d b)):Ev (λn=>Go.Sw.iter (step n) n 0) (bif l.all ok&&AG ((l.map d).Nodup)then b else f):=by
 have e:=tB ok d l [] sq;rw[Vk]at e;rw[<- e];refine pD l (λi=>(i:Int)) (λi=>bif Zx ok d ((l.take i).map d) (l.drop i)then b else f) hl rfl (λi x g=>?_) ?_
 .rw[g.drop];simp only[Zx];rw[show(l.take i).map d++[d x]=(l.take (i+1)).map d by rw[g.take];simp]
  grind
 .rw[Xr];exact h
theorem uH{κ:Type}[DecidableEq κ]{step:Nat->Int->AB (CJ Int B)}(l:AA α)(i:Nat)(d:α->κ)(k:κ)(g b:B)(hl:l.length<=4611686018427387904)(hi:i<=l.length)
  (F:∀j y,j<i->At l j y->AG (d y=k)=AD->Ev (λn=>step n (j:Int)) (.k ((j+1:Nat):Int)))
  (hx:∀j y,j<i->At l j y->AG (d y=k)=AE->Ev (λn=>step n (j:Int)) (.d g))
  (E:Ev (λn=>step n (i:Int)) (.d b)):Ev (λn=>Go.Sw.iter (step n) n 0) (bif ((l.take i).map d).contains k then g else b):=by
 have e:((l.take i).map d).contains k=(l.take i).any λy=>AG (d y=k):=by
  grind
 rw[e];have h:(l.take i).length=i:=by simp;omega
 have x:∀j y,At (l.take i) j y->j<i/\At l j y:=by
  intro j y f;have t:=f.lt';have q:=f.get
  grind[YH]
 refine Ja (l.take i) (λy=>AG (d y=k)) (λi=>(i:Int)) _ _ om rfl (λj y f m=>?_) (λj y f m=>?_) ?_
 .grind
 .grind
 grind
theorem pC{κ:Type}[DecidableEq κ]{step:Nat->AA (κ×β)×Int->AB (CJ (AA (κ×β)×Int) (AA (κ×β)))}(l:AA α)(key:α->κ)(v:β)(hl:l.length<=4611686018427387904)
  (hc:∀i x m,At l i x->Ev (λn=>step n (m,(i:Int))) (.k (QE m (key x) v,((i+1:Nat):Int))))
  (hd:∀m,Ev (λn=>step n (m,(l.length:Int))) (.d m)):Ev (λn=>Go.Sw.iter (step n) n ([],0)) (Ym key v l):=
 Yu l (λm x=>QE m (key x) v) [] (λm i=>(m,(i:Int))) (λm=>m) hl rfl gq (hd _)
theorem Ev.shift{α:Type}{f:Nat->AB α}{v:α}(h:Ev f v):Ev (λn=>f (n+1)) v:=by
 obtain⟨N,h⟩:=h;exact⟨N,gq⟩
def C9{S:Type}(step:Nat->S->AB (CJ S B))(s:S)(b:B):Prop:=∃N,∀n k,N<=n->N<=k->Go.Sw.iter (step n) k s=AC b
section
variable {S B:Type} {step:Nat->S->AB (CJ S B)} {s s':S} {b:B}
theorem C9.done(h:Ev (λn=>step n s) (.d b)):C9 step s b:=by
 obtain⟨N,h⟩:=h;refine⟨N+1,λn k hn hk=>?_⟩;obtain⟨d,rfl⟩:∃d,k=d+1:=⟨k-1,om⟩
 grind[Go.Sw.iter]
theorem C9.cont(h:Ev (λn=>step n s) (.k s'))(q:C9 step s' b):C9 step s b:=by
 obtain⟨N,h⟩:=h;obtain⟨M,q⟩:=q;refine⟨max N M+1,λn k hn hk=>?_⟩;obtain⟨d,rfl⟩:∃d,k=d+1:=⟨k-1,om⟩
 grind[Go.Sw.iter]
theorem C9.ev(h:C9 step s b):Ev (λn=>Go.Sw.iter (step n) n s) b:=by
 obtain⟨N,h⟩:=h;exact⟨N,λn hn=>h n n hn hn⟩
theorem C9.eq{b':B}(h:C9 step s b)(e:b=b'):C9 step s b':=e▸h
end
variable {l:AA α}
theorem Qs{r:AA α}{i:Nat}{x:α}(hl:l.length<=4611686018427387904)(h:l.drop i=x::r):At l i x/\l.drop (i+1)=r:=by
 have d:l[i]?=AC x:=by
  have:=congrArg (λl=>l[0]?) h
  grind
 refine⟨YH hl d,?_⟩;have:=(YH hl d).drop
 grind
theorem QH{i:Nat}(h:l.drop i=[])(hi:i<=l.length):AG ((i:Int)<(l.length:Int))=false:=by
 simp_all
theorem Z.{u}{α:Sort u}{a:α}:a=a:=rfl
section
variable {P:AK} {h0 N:Nat} {all:Array AM} {env:Env} {H H':Qb} {Q:Qx} {l:AA AM} {o:AM} {d:Nat}
theorem aV(x:A)(H:Qb){x':A}{H':Qb}(hx:x'=x)(hH:H'=H)(k:WO P h0 N all l (up env d x) H Q):WO P h0 N all l (up env d x') H' Q:=by subst hx;subst hH;exact k
theorem vX(x:A)(f:CY P o env H x)(k:WO P h0 N all l (up env d x) H Q)(hg:QB all o env true:=by rfl)(hd:o.dst=AC d:=by rfl)(hN:Nat.blt d N=true:=by rfl):WO P h0 N all (o::l) env H Q:=
 Ya hg hd hN f k
theorem Wp:WO P h0 N all [] env H (YE env H):=WO.nil YE.mk
end
section
variable {P:AK} {o:AM} {env:Env} {H:Qb}
theorem QqP{ro:Nat->Prop}{σ:Cp}{w:AJ}(g:GP w){b:Nat}{zs:AA Int}(h:NV[b]?=AC zs):∀(i:Nat),CR ro σ w b ((zs.drop i).map (A.int .i64)) i:=by
 intro i;generalize hl:zs.drop i=l
 induction l generalizing i with
 |nil=>trivial
 |cons z l f=>
  have j:zs[i]?=AC z:=by
   have:=congrArg (·[0]?) hl
   grind
  have d:zs.drop (i+1)=l:=by
   rw[<- List.drop_drop,hl];rfl
  exact⟨⟨_,g.tab b zs h i z j,by simp[QA],rfl⟩,f (i+1) d⟩
theorem vE{n g:Nat}{zs:AA Int}(m:∀w,(isAgg t).run P w=.ok AE w)(hs:∀w,(sizeOf t).run P w=.ok n w)(hg:NV[g]?=AC zs)(hl:zs.length=n)(f:o.op=.load t (.global g):=by rfl):
  CY P o env H (.agg (zs.map (A.int .i64))):=by
 intro q ro σ N a w r;obtain⟨l,d,_,h⟩:=Yl (P:=P) 0 (by simpa using QqP (ro:=ro) (σ:=σ) r.sim.roOk.gp hg 0);refine⟨.agg l.toArray,?_,l,rfl,d⟩;have j:a.eval (.global g)=.pointer (AC ⟨g,0,AF⟩):=rfl
 simp_all[execOp,Instr.loadAt,Instr.sureAddr,loadVar,loadCells]
end
open Go.Proofs
variable {cells:α->AA A}{h:Nat}
section
variable {P:AK}
def bH(agg:Bool)(l:AA AL):AL:=bif agg then .agg l.toArray else l.headD .nilFunc
structure JX (P:AK) (t:TypeId) (h k:Nat) (agg:Bool) (ok:List AL->Prop):Prop where
 len:∀l,ok l->l.length=k
 ia:∀w,(isAgg t).run P w=.ok agg w
 so:∀w,(sizeOf t).run P w=.ok k w
 eq:∀(w:AJ) (d:Nat) (l m:List AL),ok l->ok m->∃b:Bool,(Op.equalIn (d+h) t (bH agg l) (bH agg m)).run P w=.ok b w/\(b=AE↔l=m)
structure C1 (P:AK) (fs:List Field) (h off k:Nat) (ok:List AL->Prop):Prop where
 len:∀l,ok l->l.length=k
 eq:∀(w:AJ) (d:Nat) (p q l m:List AL),p.length=off->q.length=off->ok l->ok m->∃b:Bool,(Op.eqFields (d+h) (p++l).toArray (q++m).toArray fs).run P w=.ok b w/\(b=AE↔l=m)
theorem JX.int{t:TypeId}{k:IntKind}(j:P.underlying t=AC (.int k))(f:∀w,(isAgg t).run P w=.ok AD w)(g:∀w,(sizeOf t).run P w=.ok 1 w)(h:Nat):JX P t (h+1) 1 AD (λl=>∃n:Int,l=[.int k n]):=by
 refine⟨?_,f,g,?_⟩
 .simp
 .rintro w d _ _ ⟨n,rfl⟩ ⟨m,rfl⟩;exact⟨_,run_equalIn_int w (d+h) t k k n m j,sq⟩
theorem JX.bool{t:TypeId}(j:P.underlying t=AC .bool)(f:∀w,(isAgg t).run P w=.ok AD w)(g:∀w,(sizeOf t).run P w=.ok 1 w)(h:Nat):JX P t (h+1) 1 AD (λl=>∃n:Bool,l=[.bool n]):=by
 refine⟨?_,f,g,?_⟩
 .simp
 .rintro w d _ _ ⟨n,rfl⟩ ⟨m,rfl⟩;exact⟨_,run_equalIn_bool' w (d+h) t n m j,sq⟩
theorem C1.nil(h d:Nat):C1 P [] h d 0 (λl=>l=[]):=by
 refine⟨?_,?_⟩
 .simp
 simp_all[Op.eqFields]
theorem ux{t:TypeId}{agg:Bool}{w:AJ}(g:∀w,(isAgg t).run P w=.ok agg w)(j:∀w,(sizeOf t).run P w=.ok k w)(p d h:AA AL)(hl:d.length=k)(f:agg=AD->k=1):
  (part t (p++(d++h)).toArray p.length).run P w=.ok (bH agg d) w:=by
 unfold part;cases agg with
 |true=>
  simp_all[bH]
 |false=>
  have:=f rfl;subst this
  match d,hl with
  |[v],_=>simp[g,bH]
theorem C1.cons{f:Field}{fs:AA Field}{j x M:Nat}{agg:Bool}{m t:AA AL->Prop}(ho:Nat.beq f.offset j=AE)(hn:f.name≠"_")(g:JX P f.type h x agg m)(hk:agg=AD->x=1)(J:C1 P fs h (j+x) M t):
  C1 P (f::fs) h j (x+M) (λl=>∃l1 l2,l=l1++l2/\m l1/\t l2):=by
 have F:f.offset=j:=(by simp_all);refine⟨?_,?_⟩
 .rintro _ ⟨l1,l2,rfl,a,b⟩;rw[X5,g.len _ a,J.len _ b]
 .rintro w d p q _ _ G N ⟨l1,l2,rfl,E,Y⟩ ⟨B,H,rfl,y,T⟩;have O:=ux (w:=w) g.ia g.so p l1 l2 (g.len _ E) hk;have R:=ux (w:=w) g.ia g.so q B H (g.len _ y) hk;rw[G]at O;rw[N]at R;obtain⟨L,X,f3⟩:=g.eq w d l1 B E y;obtain⟨V,Q,W⟩:=J.eq w d (p++l1) (q++B) l2 H (by rw[X5,G,g.len _ E]) (by rw[X5,N,g.len _ y]) Y T;rw[Vl,Vl]at Q;have hl:l1.length=B.length:=by rw[g.len _ E,g.len _ y]
  refine⟨L&&V,?_,?_⟩
  .cases L<;>simp[Op.eqFields,hn,F,O,R,X,Q]
  .rw[XX,f3,W];constructor
   .grind
   .intro e;exact List.append_inj e hl
theorem JX.struct{t:TypeId}{h k:Nat}{ok:AA AL->Prop}(x:P.underlying t=AC (.struct (P.fieldsOf t)))(hs:P.stoodInHeld t=AD)(j:∀w,(isAgg t).run P w=.ok AE w)(g:∀w,(sizeOf t).run P w=.ok k w)(f:C1 P (P.fieldsOf t).toList h 0 k ok):JX P t (h+1) k AE ok:=by
 refine⟨f.len,j,g,λw d l m a b=>?_⟩;obtain⟨r,y,q⟩:=f.eq w d [] [] l m rfl rfl a b;refine⟨r,?_,q⟩;show(Op.equalIn (d+h+1) t (.agg l.toArray) (.agg m.toArray)).run P w=_
 grind[run_equalIn_agg]
theorem QI{t:TypeId}{fs:Array Field}{ok:AA AL->Prop}(j:P.underlying t=AC (.struct fs))(hs:P.stoodInHeld t=AD)(d:∀w,(isAgg t).run P w=.ok AE w)(f:∀w,(sizeOf t).run P w=.ok k w)(g:C1 P fs.toList h 0 k ok):JX P t (h+1) k AE ok:=by
 grind[Program.fieldsOf,JX.struct]
structure Zk (P:AK) (t:TypeId) {α:Type} (cells:α->List A):Prop where
 scl:∀x,L8 (cells x)=AE
 inj:∀x y,YR (cells x)=YR (cells y)->x=y
 guard:P.eqGuardType P.depth t=AD
 eq:∀(w:AJ) x y,∃b:Bool,(Op.equalIn 10000 t (.agg (YR (cells x)).toArray) (.agg (YR (cells y)).toArray)).run P w=.ok b w/\(b=AE↔YR (cells x)=YR (cells y))
theorem jO{ok:AA AL->Prop}(E:JX P t h k AE ok)(f:Nat.ble h 10000=AE)(d:∀x,ok (YR (cells x)))(hs:∀x,L8 (cells x)=AE)(hi:∀x y,YR (cells x)=YR (cells y)->x=y)(hg:P.eqGuardType P.depth t=AD):Zk P t cells:=by
 refine⟨hs,hi,hg,λw x y=>?_⟩;have:=E.eq w (10000-h) (YR (cells x)) (YR (cells y)) (d x) (d y)
 rwa [show 10000-h+h=10000 by simp_all]at this
variable {o:AM} {env:Env} {H:Qb}
theorem je{α:Type}[DecidableEq α]{cells:α->AA A}{t u:TypeId}{x y:Operand}{p q:α}(E:Zk P t cells)(hx:CS env x=.agg (cells p))(F:CS env y=.agg (cells q))(j:o.op=.binOp .eql t x y u:=by rfl):CY P o env H (.bool (p==q)):=by
 intro O M σ N a w r;have h:=Qm r x;have g:=Qm r y;rw[hx]at h;rw[F]at g;have m:=VR.val (a:=.agg (cells p)) (E.scl p) h;have L:=VR.val (a:=.agg (cells q)) (E.scl q) g;obtain⟨b,B,G⟩:=E.eq w p q;have J:b=(p==q):=by
  rw[XZ,G,VA];exact⟨E.inj p q,λe=>by rw[e]⟩
 refine⟨.bool (p==q),?_,rfl⟩;rw[<- J];generalize a.eval=ρ at*;have f:ρ x=.agg (YR (cells p)).toArray:=m;have d:ρ y=.agg (YR (cells q)).toArray:=L;simp[j,f,d,go_sem,run_eqGuard_agg _ _ _ _ _ _ _ E.guard,B]
theorem vD{α:Type}[DecidableEq α]{cells:α->AA A}{t u:TypeId}{x y:Operand}{p q:α}(E:Zk P t cells)(hx:CS env x=.agg (cells p))(F:CS env y=.agg (cells q))(j:o.op=.binOp .neq t x y u:=by rfl):CY P o env H (.bool (p != q)):=by
 intro O M σ N a w r;have h:=Qm r x;have g:=Qm r y;rw[hx]at h;rw[F]at g;have m:=VR.val (a:=.agg (cells p)) (E.scl p) h;have L:=VR.val (a:=.agg (cells q)) (E.scl q) g;obtain⟨b,B,G⟩:=E.eq w p q;have J:b=(p==q):=by
  rw[XZ,G,VA];exact⟨E.inj p q,λe=>by rw[e]⟩
 refine⟨.bool (p != q),?_,rfl⟩;rw[bne, <- J];generalize a.eval=ρ at*;have f:ρ x=.agg (YR (cells p)).toArray:=m;have d:ρ y=.agg (YR (cells q)).toArray:=L;simp[j,f,d,go_sem,run_eqGuard_agg _ _ _ _ _ _ _ E.guard,B]
end
end
section
structure ee (g g':Nat->Prop) (W W':AJ):Prop where
 sub:∀b,g b->g' b
 new:∀b,g' b->g b\/W.heap.size<=b
 lt:∀b,g' b->b<W'.heap.size
 all:∀b,W.heap.size<=b->b<W'.heap.size->g' b
 keep:∀b,b<W.heap.size->¬g b->W'.heap[b]?=W.heap[b]?
 size:W.heap.size<=W'.heap.size
 shape:∀b x,W.shape? b=AC x->W'.shape? b=AC x
 os:W'.os=W.os
 tape:W'.tape=W.tape
 output:W'.output=W.output
 drawn:W.drawn<=W'.drawn
abbrev Jv(T:Type):=AA T->(Nat->Prop)->(Nat->Prop)->AJ->Prop
structure rY {T:Type} (J:Jv T):Prop where
 ev:∀rem q g W W' ro',J rem q g W->Qe g q W ro' W'->J rem q g W'
 up:∀rem q g g' W,J rem q g W->(∀b,g b->g' b)->(∀b,g' b->b<W.heap.size)->J rem q g' W
variable {W':AJ}{fr g ro:Nat->Prop}{σ:Cp}
theorem Cm.round{g':Nat->Prop}{H:Qb}{W:AJ}(s:Cm fr ro σ H W)(d:∀b,g b->fr b)(k:ee g g' W W'):Cm (λb=>fr b\/g' b) ro σ H W'/\Qe (λb=>b<W.heap.size/\ ¬g b) ro W ro W':=by
 have hro:=λb q=>k.keep b (s.roLt b q) (λr=>s.roFr b q (d b r));have f:Dh ro σ W ro σ W':=by
  have ev:Qe (λ_=>False) ro W ro W':=⟨λ_ q=>q,hro,λ_ q=>q.elim,k.size,k.shape,k.os,k.tape,k.output,k.drawn⟩;have:=ev.ext σ []
  grind
 refine⟨⟨s.len,s.roOk.to (λ_ q=>q) hro (λb q=>Vi (s.roLt b q) k.size),λb q=>q.elim (λq=>Vi (s.frLt b q) k.size) (k.lt b),λb q r=>?_,λi b x h j F=>?_,s.inj,λi y x h j=>?_⟩,
  ⟨λ_ q=>q,hro,λb q=>k.keep b q.1 q.2,k.size,k.shape,k.os,k.tape,k.output,k.drawn⟩⟩
 .rcases r with r|r
  .exact s.roFr b q r
  .rcases k.new b r with m|m
   .exact s.roFr b q (d b m)
   .have:=s.roLt b q;omega
 .obtain⟨B,E,t⟩:=s.own i b x h j F;refine⟨Vi B k.size,E,λr=>?_⟩;rcases r with r|r
  .exact t r
  .rcases k.new b r with m|m
   .grind
   .omega
 .refine(s.blk i y x h j).keep f ?_;rintro b rfl hl;obtain⟨B,E,t⟩:=s.own i b x h j hl;exact k.keep b B (λr=>t (d b r))
variable {T:Type}
def Qss(J Jx:Jv T)(g ri:Nat->Prop)(W1:AJ)(rem:AA T):Ending->AJ->Prop:=λe W'=>
 ∃g' q',(∀b,q' b->ri b)/\ee g g' W1 W'/\((e=.returned (.bool AE)/\J rem q' g' W')\/(e=.returned (.bool AD)/\Jx rem q' g' W'))
structure Fy (T:Type) where
 l:Nat
 J:Jv T
 Jx:Jv T
 enc:T->List A
 nx:List T->T->List T->Prop
structure Fy.ok {T:Type} (X:Fy T) (P:AK):Prop where
 b:rY X.J
 bx:rY X.Jx
 round:∀l x rem q g ri W1 vs,X.nx l x rem->X.J l q g W1->(∀b,q b->ri b)->(∀b,ri b->b<W1.heap.size/\ ¬g b)->LR ri [] W1 (X.enc x) vs->YieldAt Fence.wide 0 P X.l vs.toArray W1 (Qss X.J X.Jx g ri W1 rem)
def SM(P:AK)(f:FuncId)(caps:AA A)(H:Qb)(enc:T->AA A)(nx:AA T->T->AA T->Prop)(xs:AA T):Prop:=
 ∀(X:Fy T),X.enc=enc->X.nx=nx->X.ok P->∀fr ro σ w capv q,Cm fr ro σ H w->(∀b,q b->ro b)->LR ro σ w caps capv->X.J xs q fr w->
  Calls P f ((Value.func (.yield X.l) #[] #[]::capv)).toArray w λe W'=>(∃v,e=.returned v)/\ ∃g q',(∀b,fr b->g b)/\((X.J [] q' g W')\/(∃rem,X.Jx rem q' g W'))
inductive HT (T:Type) where
 |on (rem:List T)
 |off (rem:List T)
def Fy.J'(X:Fy T):HT T->(Nat->Prop)->(Nat->Prop)->AJ->Prop
 |.on rem=>X.J rem
 |.off rem=>X.Jx rem
def Fy.at(X:Fy T)(st:HT T)(g ro:Nat->Prop)(W:AJ):Prop:=∃q,(∀b,q b->ro b)/\X.J' st q g W
variable {ro':Nat->Prop}{w w':AJ}
theorem Qe.roMono{ro0:Nat->Prop}(h:Qe fr ro w ro' w')(s:∀b,ro0 b->ro b):Qe fr ro0 w ro' w':=
 ⟨λb q=>h.sub b (s b q),λb q=>h.keepRo b (s b q),h.keepFr,h.size,h.shape,h.os,h.tape,h.output,h.drawn⟩
theorem Fy.ok.ev{T:Type}{X:Fy T}{P:AK}(h:X.ok P){st:HT T}{g ro ro':Nat->Prop}{W W':AJ}(d:X.at st g ro W)(he:Qe g ro W ro' W'):X.at st g ro' W':=by
 obtain⟨q,f,d⟩:=d;refine⟨q,λb z=>he.sub b (f b z),?_⟩;cases st with
 |on rem=>exact h.b.ev rem q g W W' ro' d (he.roMono f)
 |off rem=>exact h.bx.ev rem q g W W' ro' d (he.roMono f)
theorem Fy.ok.up{T:Type}{X:Fy T}{P:AK}(h:X.ok P){st:HT T}{g g' ro:Nat->Prop}{W:AJ}(d:X.at st g ro W)(hg:∀b,g b->g' b)(hl:∀b,g' b->b<W.heap.size):X.at st g' ro W:=by
 obtain⟨q,f,d⟩:=d;refine⟨q,f,?_⟩;cases st with
 |on rem=>exact h.b.up rem q g g' W d hg hl
 |off rem=>exact h.bx.up rem q g g' W d hg hl
abbrev YD(T:Type):=Ln->Env->Qb->HT T->Prop
structure In (g fr:Nat->Prop) (ds:List Deferred):Prop where
 sub:∀b,g b->fr b
 beside:∀D,({target:=.collected D,args:= #[]}:Deferred)∈ds->¬g D
def NX(X:Fy T)(h0:Nat)(fr ro:Nat->Prop)(σ:Cp)(w:AJ)(N:Nat)(ds:AA Deferred)(Q:YD T):Exit->Act->AJ->Prop:=
 λe a' w'=>∃x env' H' st ro' σ' fr' g',Sx e x/\Q x env' H' st/\DT fr' ro' σ' H' env' N a' w'/\(X.at st g' ro' w'/\In g' fr' a'.defers)/\(∀b,ro b->ro' b)/\w.heap.size<=w'.heap.size/\σ'.take h0=σ.take h0/\DJ fr w ds fr' a'.defers
variable {N:Nat}
theorem NX.grow{T:Type}{X:Fy T}{m:Nat}{d j:Nat->Prop}{σ1:Cp}{y:AJ}{B f:AA Deferred}{Q:YD T}{e:Exit}{a':Act}
  (h:NX X m d j σ1 y N f Q e a' w')(V:∀b,ro b->j b)(E:w.heap.size<=y.heap.size)(hs:σ1.take m=σ.take m)(hg:DJ fr w B d f):NX X m fr ro σ w N B Q e a' w':=by
 obtain⟨x,g,H',J,q,σ',t,R,O,G,H,M,W,L,P,F⟩:=h;exact⟨x,g,H',J,q,σ',t,R,O,G,H,M,gq,XW E L,P.trans hs,hg.trans E F⟩
def C5(X:Fy T)(P:AK)(h0 N:Nat)(c:Code)(env:Env)(H:Qb)(st:HT T)(Q:YD T):Prop:=
 X.ok P->∀rd fr ro σ a w g,DT fr ro σ H env N a w->X.at st g ro w/\In g fr a.defers->rd=AF->c.wpIn (WF rd) 0 P (NX X h0 fr ro σ w N a.defers Q) a w
def Fw(X:Fy T)(P:AK)(h0 N:Nat)(all:Array AM)(l:AA AM)(env:Env)(H:Qb)(st:HT T)(Q:YD T):Prop:=
 X.ok P->∀rd fr ro σ a w g,DT fr ro σ H env N a w->X.at st g ro w/\In g fr a.defers->rd=AF->Fc P rd all (NX X h0 fr ro σ w N a.defers Q) l a w
theorem In.later{fr':Nat->Prop}{ds d:AA Deferred}(h:In g fr ds)(hl:∀b,fr b->b<w.heap.size)(hg:DJ fr w ds fr' d):In g fr' d:=by
 refine⟨λb q=>hg.sub b (h.sub b q),λD hD q=>?_⟩;rcases hg.ds _ hD with r|⟨D',e,r⟩
 .exact h.beside D r q
 .have:=by simpa using e
  have:=hl D (h.sub D q);omega
section
variable {T:Type} {X:Fy T} {P:AK} {h0 N:Nat} {c c':Code} {env:Env} {H:Qb} {st:HT T} {Q:YD T}
theorem QmM{q:AA Deferred}{e:Exit}{a':Act}(J:X.ok P)(h:IB h0 fr ro σ w N q (λx env H=>Q x env H st) e a' w')(hl:∀b,fr b->b<w.heap.size)(f:X.at st g ro w/\In g fr q):
  NX X h0 fr ro σ w N q Q e a' w':=by
 obtain⟨x,d,H',j,σ',t,E,B,G,m,F,y⟩:=h;exact⟨x,d,H',st,j,σ',t,g,E,B,G,⟨J.ev f.1 (m.frMono f.2.sub),f.2.later hl y⟩,m.sub,m.size,F,y⟩
theorem C5.lift(h:TC P h0 N c env H (λx env H=>Q x env H st)):C5 X P h0 N c env H st Q:=
 λhX rd fr ro σ a w g r hj hrd=>Code.wpIn_mono (λe a' w' q=>QmM hX q r.sim.frLt hj) (h rd fr ro σ a w r (hrd▸HU.none))
def d7(X:Fy T)(P:AK)(h0 N:Nat)(c:Code)(Q:YD T):YD T
 |.normal,env,H,st=>C5 X P h0 N c env H st Q
 |.exit id,env,H,st=>Q (.exit id) env H st
 |.ret,env,H,st=>Q .ret env H st
theorem C5.seq(h:C5 X P h0 N c env H st (d7 X P h0 N c' Q)):C5 X P h0 N (.seq c c') env H st Q:=by
 intro R O Y V σ a w g r hj hrd;refine wpIn_seq (Code.wpIn_mono ?_ (h R O Y V σ a w g r hj hrd));rintro e W T ⟨x,d,H',m,f,σ',j,G,t,y,L,B,F,M,E,J⟩;cases e with
 |normal=>
  obtain rfl:x=.normal:=t;exact Code.wpIn_mono (λe a w q=>q.grow F M E J) (y R O j f σ' W T G L B hrd)
 |exit id=>
  obtain rfl:x=.exit id:=t;exact⟨_,d,H',m,f,σ',j,G,rfl,y,L,B,F,M,E,J⟩
 |ret=>
  obtain rfl:x=.ret:=t;exact⟨_,d,H',m,f,σ',j,G,rfl,y,L,B,F,M,E,J⟩
 |_=>exact t.elim
theorem C5.region{id:Nat}{l:AA AM}(h:Fw X P h0 N l.toArray l env H st Q):C5 X P h0 N (.region id l.toArray AD) env H st Q:=
 λhX rd fr ro σ a w g r hj hrd=>wpIn_region_lit (h hX rd fr ro σ a w g r hj hrd)
theorem C5.cond{x:Operand}{t:Bool}(hx:CS env x=.bool t)(y:t=AE->C5 X P h0 N c env H st Q)(q:t=AD->C5 X P h0 N c' env H st Q):C5 X P h0 N (.cond x c c') env H st Q:=by
 intro j h m f σ a w g r hj hrd;have d:=Qm r x;rw[hx]at d;exact wpIn_cond_split d (λe=>y e j h m f σ a w g r hj hrd) (λe=>q e j h m f σ a w g r hj hrd)
theorem Fw.nil{all:Array AM}(h:Q .normal env H st):Fw X P h0 N all [] env H st Q:=
 λhX rd fr ro σ a w g r hj hrd=>⟨_,env,H,st,ro,σ,fr,g,rfl,h,r,hj,λ_ q=>q,XU _,rfl,DJ.refl _ _ _⟩
end
variable {P:AK}{Q:Exit->Act->AJ->Prop}{rd:AB Nat}
theorem QjE{o:AM}{a:Act}{K K':Act->AJ->Prop}{Q':Exit->Act->AJ->Prop}(hk:∀a w,K a w->K' a w)(B:∀ch a w,Q (.panic ch) a w->Q' (.panic ch) a w)(m:∀a w,Q .outgrown a w->Q' .outgrown a w)
  {r:Result Next}(h:o.uponIn (WF rd) 0 P a K Q r):o.uponIn (WF rd) 0 P a K' Q' r:=by
 cases r with
 |ok x w=>
  cases x with
  |value v=>exact hk _ _ h
  |skip=>exact hk _ _ h
  |defer d=>exact hk _ _ h
  |enter f g=>
   refine⟨h.1,CallsIn.mono h.2 ?_⟩;intro e y q;cases e with
   |returned v=>grind
   |panicked c=>grind
   |outgrown=>obtain⟨a,w,q⟩:=q;exact⟨a,w,m _ _ q⟩
  |row r g=>exact⟨h.1,RowsIn.mono h.2 λv y q=>hk _ _ q⟩
  |round l f t assign j=>
   refine⟨h.1,RoundIn.mono h.2 ?_⟩;intro e y q;cases e with
   |returned v=>grind
   |panicked c=>grind
   |outgrown=>obtain⟨a,w,q⟩:=q;exact⟨a,w,m _ _ q⟩
  |_=>exact h
 |halt x w=>
  cases x with
  |panic v=>exact B _ _ _ h
  |_=>exact h
section
variable {T:Type} {X:Fy T} {P:AK} {h0 N:Nat} {env:Env} {H:Qb} {st:HT T} {Q:YD T}
theorem Fw.step{all:Array AM}{o:AM}{rest:AA AM}(h:WO P h0 N all [o] env H (λx env' H'=>x=.normal/\Fw X P h0 N all rest env' H' st Q)):Fw X P h0 N all (o::rest) env H st Q:=by
 intro M B F y σ a w g r hj hrd;have go:∀f d,IS h0 F y σ w N a.defers (λx env' H'=>x=.normal/\Fw X P h0 N all rest env' H' st Q) .normal f d->Fc P B all (NX X h0 F y σ w N a.defers Q) rest f d:=by
  rintro f d ⟨x,env',H',j,σ',m,h1,⟨_,O⟩,W,E,T,Y,R⟩;have G:X.at st g j d/\In g m f.defers:=⟨M.ev hj.1 (E.frMono hj.2.sub),by rw[Y];exact hj.2.later r.sim.frLt R⟩;have:=O M B m j σ' f d g W G hrd;exact Yq (λe J L q=>(q.grow E.sub E.size T gq)) _ _ _ this
 have t:=h B F y σ a w r (hrd▸HU.none);unfold Fc wpListIn at t⊢;split
 .rename_i V;rw[Vv V]at t;refine⟨t.1,QjE (λJ L q=>?_) (λch J L q=>?_) (λJ L q=>?_) t.2⟩
  .unfold wpListIn at q
   grind
  .obtain⟨x,_,_,_,_,_,q,_⟩:=q;exact q.elim
  .obtain⟨x,_,_,_,_,_,q,_⟩:=q;exact q.elim
 simp_all[wpListIn]
theorem Fw.yield{all:Array AM}{o:AM}{rest:AA AM}{d:Nat}{x:T}{O rem:AA T}(J:X.nx O x rem)(hg:QB all o env AE)(F:o.dst=AC d)(hN:Nat.blt d N=AE)
  (G:∀fr ro σ a w,DT fr ro σ H env N a w->∃vs:AA AL,LR ro [] w (X.enc x) vs/\(execOp a.eval o).run P w=(Instr.yield X.l vs.toArray).run P w)
  (k:∀b,Fw X P h0 N all rest (up env d (.bool b)) H (bif b then .on rem else .off rem) Q):Fw X P h0 N all (o::rest) env H (.on O) Q:=by
 intro W V fr ro σ a w g r hj hrd;obtain⟨vs,hv,he⟩:=G fr ro σ a w r;obtain⟨q,hq,M⟩:=hj.1;obtain⟨fn,tmps,assign,R,h1,h2⟩:=W.round O x rem q g ro w vs J M hq (λb z=>⟨r.sim.roLt b z,λy=>r.sim.roFr b z (hj.2.sub b y)⟩) hv;have h3:=he.trans h1;unfold Fc wpListIn;rw[Vv (YJ hg r)];refine⟨λ_ _=>trivial,?_⟩;rw[jV h3 (λd e=>by cases e)];refine⟨λh=>by simp[WF,Fence.wide]at h,(RoundIn.mono h2 ?_)⟩;rintro e j ⟨m,E,t,hk,f⟩;obtain⟨Y,ev⟩:=r.sim.round hj.2.sub hk;have L:d<N:=by simp_all
 have B:Dh ro σ w ro σ j:=by have:=ev.ext σ [];grind
 have fin:∀b,X.at (bif b then .on rem else .off rem) m ro j->Fc P V all (NX X h0 fr ro σ w N a.defers Q) rest (a.put o.dst (.bool b)) j:=by
  intro b f;have hm:I2 (λb=>fr b\/m b) a.defers j:=r.defers.to λD F q1 q2=>⟨.inl q1,(hk.keep D (r.sim.frLt D q1) (hj.2.beside D F)).trans q2⟩;have hi:In m (λb=>fr b\/m b) a.defers:=by
   refine⟨λb q=>.inr q,λD hD q=>?_⟩;rcases hk.new D q with E|E
   .exact hj.2.beside D hD E
   .have:=r.sim.frLt D (r.defers.mark hD).1;omega
  have r':DT (λb=>fr b\/m b) ro σ H (up env d (.bool b)) N {a with tmps:=a.tmps.setIfInBounds d (.bool b)} j:=
   ⟨Y,VR.up (fr:=fr) (λs=>(r.env s).mono B) (by rw[r.size];exact L) rfl,by simpa using r.size,hm⟩
  have:=k b W V _ ro σ _ j m r' ⟨f,hi⟩ hrd;simp[F];refine Yq (λe a2 w2 q=>q.grow (λ_ q=>q) hk.size rfl ⟨λ_ q=>.inl q,λb q=>?_,λ_ q=>q,λ_ q=>.inl q⟩) _ _ _ this;rcases q with q|q
  .exact .inl q
  .rcases hk.new b q with q|q
   .exact .inl (hj.2.sub b q)
   omega
 rcases f with⟨rfl,f⟩|⟨rfl,f⟩
 .exact fin AE ⟨E,t,f⟩
 .exact fin AD ⟨E,t,f⟩
end
def hJ:YD T:=λx env H st=>(x=.normal\/x=.ret)/\(st=.on []\/ ∃rem,st=.off rem)
theorem xG{T:Type}{f:FuncId}{fn:Func}{c:Code}{caps:AA A}{H:Qb}{enc:T->AA A}{nx:AA T->T->AA T->Prop}{xs:AA T}
  (hf:P.funcs[f]?=AC fn)(hb:fn.body=AC c)(hN:fn.ntmps=N)(hA:Nat.ble (caps.length+1) N=AE)(hR:fn.results= #[])
  (h:∀X,X.enc=enc->X.nx=nx->C5 X P H.length N c (Kv 0 (.fn (.yield X.l) [] []::caps)) H (.on xs) hJ):SM P f caps H enc nx xs:=by
 intro X hE hNx hX fr ro0 σ w capv q0 hs hq0 hl hj;have B:LR ro0 σ w (.fn (.yield X.l) [] []::caps) (Value.func (.yield X.l) #[] #[]::capv):=⟨_,_,rfl,⟨[],[],rfl,rfl,rfl⟩,hl⟩;have R:=B.length;have ac:caps.length+1<=N:=by simp_all
 refine(callsIn_wide).1 (callsIn_of_wp_marks hf hb trivial (Code.wpIn_mono ?_ (h X hE hNx hX AF fr ro0 σ _ w fr ⟨hs,?_,?_,List.nodup_nil,λd t=>by cases t⟩ ⟨⟨q0,hq0,hj⟩,λ_ q=>q,λD hD=>by cases hD⟩ rfl)))
 .rintro e G M ⟨x,Y,H1,st,ab,σ1,aa,V,Q,⟨h2,L⟩,m,⟨h4,j⟩,h5,h6,h7,W⟩;have E:LeavesInM Fence.wide 0 P fn G.tmps (λe W'=>(∃v,e=.returned v)/\ ∃g q',(∀b,fr b->g b)/\((X.J [] q' g W')\/(∃rem,X.Jx rem q' g W'))) G.defers .returning M:=by
   refine JK G.defers M m.defers.1 (λd t=>?_) (m.sim.frMono j.sub) (λw2 s2 y=>?_)
   .obtain⟨D,rfl,_⟩:=(W.ds d t).resolve_left sq;obtain⟨O,q2⟩:=m.defers.mark t;exact⟨D,rfl,λq=>m.sim.roFr D q O,j.beside D t,λi x r1 r2 r3=>(m.sim.own i D x r1 r2 r3).2.2 O,q2⟩
   .have F:=hX.up (hX.ev h4 y) (g':=λb=>V b\/fr b) (λb q=>.inl q) (λb q=>Vi (m.sim.frLt b (q.elim (j.sub b) (W.sub b))) y.size);obtain⟨q9,_,F⟩:=F;refine⟨.tuple #[],by simp[results,hR],⟨_,rfl⟩,λb=>V b\/fr b,q9,λb q=>.inr q,?_⟩;rcases L with rfl|⟨rem,rfl⟩
    .exact .inl F
    .exact .inr ⟨rem,F⟩
  cases e with
  |normal=>exact E
  |ret=>exact E
  |exit id=>
   obtain rfl:x=.exit id:=Q
   grind
  |_=>exact Q.elim
 .intro s;have:=e_ [] rfl B (Array.replicate (fn.ntmps-(Value.func (.yield X.l) #[] #[]::capv).toArray.size) undef) s
  grind
 grind
section
variable {T:Type} {X:Fy T} {P:AK} {h0 N:Nat} {c c':Code} {env:Env} {H:Qb} {st:HT T} {Q Q':YD T}
theorem C5.mono(h:C5 X P h0 N c env H st Q)(t:∀x env H st,Q x env H st->Q' x env H st):C5 X P h0 N c env H st Q':=by
 intro q J F B σ a w g r hj hrd;refine Code.wpIn_mono ?_ (h q J F B σ a w g r hj hrd);rintro e O M ⟨x,d,H',j,f,σ',m,L,E,y,G⟩;exact⟨x,d,H',j,f,σ',m,L,E,t _ _ _ _ y,G⟩
theorem C5.skip(h:Q .normal env H st):C5 X P h0 N .skip env H st Q:=C5.lift (TC.skip h)
theorem C5.ret(h:Q .ret env H st):C5 X P h0 N .ret env H st Q:=C5.lift (TC.ret h)
theorem C5.exit{id:Nat}(h:Q (.exit id) env H st):C5 X P h0 N (.exit id) env H st Q:=C5.lift (TC.exit h)
def Zl(id:Nat)(Q:YD T):YD T
 |.normal,env,H,st=>Q .normal env H st
 |.exit id',env,H,st=>bif Nat.beq id' id then Q .normal env H st else Q (.exit id') env H st
 |.ret,env,H,st=>Q .ret env H st
theorem C5.block{id:Nat}(h:C5 X P h0 N c env H st (Zl id Q)):C5 X P h0 N (.block id c) env H st Q:=by
 intro O M J G σ a w g r hj hrd;refine wpIn_block (Code.wpIn_mono ?_ (h O M J G σ a w g r hj hrd));rintro e T R ⟨x,d,H',t,j,σ',m,F,B,y,E⟩;cases e with
 |normal=>
  obtain rfl:x=.normal:=B;exact⟨_,d,H',t,j,σ',m,F,rfl,y,E⟩
 |exit f=>
  obtain rfl:x=.exit f:=B;unfold Exit.inBlock;simp only[Zl]at y;by_cases q:f=id
  .subst q;rw[VI,Vr]at y;simp;exact⟨.normal,d,H',t,j,σ',m,F,rfl,y,E⟩
  .have L:Nat.beq f id=false:=by
    cases e:Nat.beq f id with
    |false=>rfl
    |true=>simp_all
   rw[L,Vs]at y;simp[q];exact⟨.exit f,d,H',t,j,σ',m,F,rfl,y,E⟩
 |ret=>
  obtain rfl:x=.ret:=B;exact⟨_,d,H',t,j,σ',m,F,rfl,y,E⟩
 |_=>exact B.elim
end
section
variable {T:Type} {X:Fy T} {P:AK} {h0 N:Nat} {c:Code} {env:Env} {H:Qb} {st:HT T} {Q:YD T}
def QmY(I:Env->Qb->HT T->Prop)(Q:YD T):YD T
 |.normal,env,H,st=>I env H st
 |.exit id,env,H,st=>Q (.exit id) env H st
 |.ret,env,H,st=>Q .ret env H st
theorem vy{I:Nat->Env->Qb->HT T->Prop}(body:∀n env H st,I n env H st->C5 X P h0 N c env H st (QmY (λenv H st=>∃n',n'<n/\I n' env H st) Q)){n:Nat}(V:I n env H st):C5 X P h0 N (.loop c) env H st Q:=by
 intro hX rd M J σ a w g r hj hrd b k cs hro hb hr;have R:∀m n env H st fr1 ro1 σ1 a1 w1 g1,n<m->I n env H st->DT fr1 ro1 σ1 H env N a1 w1->(∀b,J b->ro1 b)->w.heap.size<=w1.heap.size->σ1.take h0=σ.take h0->DJ M w a.defers fr1 a1.defers->X.at st g1 ro1 w1/\In g1 fr1 a1.defers->
   ∃e j h,NX X h0 M J σ w N a.defers Q e j h/\ArrivesIn (Machine.fenced P (WF rd)) P (lone (b.atR a1 (.code c::.inLoop c::k)) cs w1) b k cs e j h:=by
  intro m
  induction m with
  |zero=>omega
  |succ m ih=>
   intro n env H st fr1 ro1 σ1 a1 w1 g1 hn V r1 s1 z1 t1 gr1 j1;obtain⟨e,j,h,O,d⟩:=body n env H st V hX rd fr1 ro1 σ1 a1 w1 g1 r1 j1 hrd b (.inLoop c::k) cs hro hb hr;obtain⟨x,f,H',t,B,σ',F,g',L,G,q3,q4,q5,q6,Y,q8⟩:=O;have s2:=λb q=>q5 b (s1 b q);have E:=gr1.trans z1 q8;have hp:∀x,Q x f H' t->Sx e x->NX X h0 M J σ w N a.defers Q e j h:=λx q q'=>⟨x,f,H',t,B,σ',F,g',q',q,q3,q4,s2,XW z1 q6,Y.trans t1,E⟩;cases e with
   |normal=>
    obtain rfl:x=.normal:=L;obtain⟨n',aa,G⟩:=G;obtain⟨e2,a2,w2,W,y⟩:=ih n' f H' t F B σ' j h g' om G q3 s2 (XW z1 q6) (Y.trans t1) E q4;exact⟨e2,a2,w2,W,.of_steps (StepsIn.trans d (.one (fenced_calm hb hr rfl) stepR_inLoop)) y⟩
   |exit id=>
    obtain rfl:x=.exit id:=L;exact⟨_,j,h,hp _ G rfl,.pass rfl (λ_ _=>.inl sq) d⟩
   |ret=>
    obtain rfl:x=.ret:=L;exact⟨_,j,h,hp _ G rfl,.pass rfl (λ_ _=>.inl sq) d⟩
   |_=>exact L.elim
 obtain⟨e,j,h,O,d⟩:=R (n+1) n env H st M J σ a w g (Xn _) V r (λ_ q=>q) (XU _) rfl (DJ.refl _ _ _) hj;exact⟨e,j,h,O,.of_steps (.one (fenced_calm hb hr rfl) stepR_loop) d⟩
end
theorem Cm.frames{fr':Nat->Prop}{H:Qb}(s:Cm fr ro σ H w)(lt:∀b,fr' b->b<w.heap.size)(hro:∀b,ro b->¬fr' b)(own:∀(i b:Nat) (x:Ci),σ[i]?=AC (AC b)->H[i]?=AC x->x.live=AE->¬fr' b):Cm fr' ro σ H w:=
 ⟨s.len,s.roOk,lt,hro,λi b x q1 q2 q3=>⟨(s.own i b x q1 q2 q3).1,(s.own i b x q1 q2 q3).2.1,own i b x q1 q2 q3⟩,s.inj,s.blk⟩
def ib(H:Qb)(p:Nat):Qb:=match H[p]? with
 |some x=>bif x.live then H.set p .dead else H
 |none=>H
def SX:Qb->AA Nat->Qb
 |H,[]=>H
 |H,p::π=>SX (ib H p) π
theorem wm(H:Qb)(p:Nat):(ib H p=H/\ ∀x,H[p]?=AC x->x.live=AD)\/ib H p=H.set p .dead:=by
 unfold ib
 grind
theorem uj:∀(π:AA Nat) (H:Qb) (i:Nat) (x:Ci),(SX H π)[i]?=AC x->x=.dead\/(H[i]?=AC x/\(x.live=AE->i∉π))
 |[],H,i,x,h=>.inr ⟨h,λ_=>sq⟩
 |p::π,H,i,x,h=>by
  rcases uj π _ i x h with h|⟨h1,h2⟩
  .exact .inl h
  .rcases wm H p with⟨e,hl⟩|e
   .grind
   grind
theorem ou{fr ro:Nat->Prop}{σ:Cp}{w:AJ}:∀(π:AA Nat) {H:Qb} (s:Cm fr ro σ H w),Cm fr ro σ (SX H π) w
 |[],_,s=>s
 |p::π,H,s=>by
  rw[SX];rcases wm H p with h|h
  .rw[h.1];exact ou π s
  .rw[h];exact ou π (s.kill p)
theorem Cm.put{H:Qb}(s:Cm fr ro σ H w){b:Nat}{obj:Obj}(m:fr b)(B:w.shape? b=AF):
  Cm fr ro σ H (w.putObj b obj)/\Qe (λc=>c≠b) ro w ro (w.putObj b obj):=by
 have d:∀c,c≠b->(w.putObj b obj).heap[c]?=w.heap[c]? :=λc F=>World.putObj_heap_other F;have g:(w.putObj b obj).heap.size=w.heap.size:=sq;have t:∀c,ro c->c≠b:=λc q e=>s.roFr c q (e▸m);have ev:Qe (λc=>c≠b) ro w ro (w.putObj b obj):=by
  refine⟨λ_ q=>q,gq,λc q=>d c q,om,λc x q=>?_,rfl,rfl,rfl,XU _⟩
  grind[World.shape?]
 have f:Dh ro σ w ro σ (w.putObj b obj):=by have:=ev.ext σ [];grind
 refine⟨⟨s.len,s.roOk.to (λ_ q=>q) ev.keepRo (λc q=>by rw[g];exact s.roLt c q),λc q=>by rw[g];exact s.frLt c q,s.roFr,λi c x h j E=>?_,s.inj,λi y x h j=>?_⟩,ev⟩
 .obtain⟨J,L,G⟩:=s.own i c x h j E
  grind
 .refine(s.blk i y x h j).keep f ?_;rintro c rfl hl;exact d c (λe=>(s.own i c x h j hl).2.2 (e▸m))
theorem pA{l:Nat}{r:Loop}(h:w.heap[l]?=AC (.loop r)):w.shape? l=none:=by
 unfold World.shape?;rw[h]
structure Sq where
 fr:Nat->Prop
 ro:Nat->Prop
 σ:Cp
 w:AJ
 h1:Nat
 env:Env
 tmps:Array AL
 ds1:List Deferred
 l:Nat
 rc:LoopState->Option Code->Loop
 fr1:Nat->Prop
structure Sq.Ok (D:Sq):Prop where
 sub:∀b,D.fr b->D.fr1 b
 l1:D.fr1 D.l
 lf:¬D.fr D.l
 len:D.σ.length=D.h1
structure RJ (D:Sq) (ro1:Nat->Prop) (σ1:Cp) (H:Qb) (st:LoopState) (pe:Option Code) (q g:Nat->Prop) (W:AJ):Prop where
 sim:Cm D.fr1 ro1 σ1 H W
 env:∀t,VR ro1 D.σ W (lk D.env t) (D.tmps.getD t undef)
 sig:σ1.take D.h1=D.σ
 ev:Qe D.fr D.ro D.w ro1 W
 marks:I2 D.fr1 D.ds1 W
 rc:W.heap[D.l]?=AC (.loop (D.rc st pe))
 roG:∀b,ro1 b->q b\/g b
 frG:∀b,D.fr1 b->g b
 own:∀(i b:Nat) (x:Ci),σ1[i]?=AC (AC b)->H[i]?=AC x->x.live=AE->g b
 lt:∀b,g b->b<W.heap.size
variable {d:Nat}
theorem ww{σ1:Cp}(h:σ1.take d=σ){i b:Nat}(q:σ[i]?=AC (AC b)):σ1[i]?=AC (AC b):=by
 grind
variable {H':Qb}
section
variable {D:Sq} {ro1:Nat->Prop} {σ1:Cp} {H:Qb} {st:LoopState} {pe:AB Code} {qR g:Nat->Prop} {W:AJ}
theorem RJ.step(m:D.Ok)(j:RJ D ro1 σ1 H st pe qR g W)(e:Qe g qR W ro' W'):RJ D ro1 σ1 H st pe qR g W':=by
 have hro:=λb q=>(j.roG b q).elim (e.keepRo b) (e.keepFr b);have ev:Qe D.fr1 ro1 W ro1 W':=⟨λ_ q=>q,hro,λb q=>e.keepFr b (j.frG b q),e.size,e.shape,e.os,e.tape,e.output,e.drawn⟩;have d:∀σ,Dh ro1 σ W ro1 σ W':=λ σ=>by have:=ev.ext σ [];grind
 refine⟨⟨j.sim.len,j.sim.roOk.to (λ_ q=>q) hro (λb q=>Vi (j.sim.roLt b q) e.size),λb q=>Vi (j.sim.frLt b q) e.size,j.sim.roFr,λi b x f h E=>?_,j.sim.inj,λi z x f h=>?_⟩,
  λt=>(j.env t).mono (d _),j.sig,j.ev.trans (ev.frMono m.sub),j.marks.keep ev,(ev.keepFr _ m.l1).trans j.rc,j.roG,j.frG,j.own,λb q=>Vi (j.lt b q) e.size⟩
 .obtain⟨y,B⟩:=j.sim.own i b x f h E;exact⟨Vi y e.size,B⟩
 .refine(j.sim.blk i z x f h).keep (d _) ?_;rintro b rfl hl;exact e.keepFr b (j.own i b x f h hl)
theorem RJ.up{g':Nat->Prop}(j:RJ D ro1 σ1 H st pe qR g W)(h:∀b,g b->g' b)(hl:∀b,g' b->b<W.heap.size):RJ D ro1 σ1 H st pe qR g' W:=
 {j with roG:=λb q=>(j.roG b q).imp id (h b),frG:=λb q=>h b (j.frG b q),own:=λi b x q1 q2 q3=>h b (j.own i b x q1 q2 q3),lt:=hl}
def Kx(D:Sq)(ro1 g:Nat->Prop)(W:AJ):Nat->Prop:=λb=>(D.fr1 b\/(¬g b/\ ¬ro1 b))/\b<W.heap.size
theorem RJ.simB(j:RJ D ro1 σ1 H st pe qR g W):Cm (Kx D ro1 g W) ro1 σ1 H W:=by
 refine j.sim.frames (λb q=>q.2) (λb q r=>?_) (λi b x h d f r=>?_)
 .rcases r.1 with r|r
  .exact j.sim.roFr b q r
  grind
 .rcases r.1 with r|r
  .exact(j.sim.own i b x h d f).2.2 r
  .exact r.1 (j.own i b x h d f)
theorem RJ.fin(J:D.Ok)(j:RJ D ro1 σ1 H st pe qR g W){E:Nat->Prop}{σ':Cp}{st':LoopState}{pe':AB Code}
  (ev:Qe (λb=>Kx D ro1 g W b/\b≠D.l) ro1 W ro' W')(s:Cm E ro' σ' H' W')(hs:∀b,Kx D ro1 g W b->E b)(hσ:σ'.take D.h1=σ1.take D.h1)(N:W'.heap[D.l]?=AC (.loop (D.rc st' pe'))):
  RJ D ro' σ' H' st' pe' qR (λb=>g b\/(W.heap.size<=b/\b<W'.heap.size)) W'/\ee g (λb=>g b\/(W.heap.size<=b/\b<W'.heap.size)) W W':=by
 have d:∀b,D.fr1 b->Kx D ro1 g W b:=λb q=>⟨.inl q,j.sim.frLt b q⟩;have evf:=ev.frMono λb q=>⟨d b (J.sub b q),λe=>J.lf (e▸q)⟩;have hext:=ev.ext0 D.σ;have F:∀b,b<W.heap.size->b<W'.heap.size:=λb q=>Vi q ev.size;have f:∀b,b<W.heap.size->¬Kx D ro1 g W b->g b\/ro1 b:=by
  intro b h hn;by_cases y:g b
  .exact .inl y
  .by_cases m:ro1 b
   .exact .inr m
   .exact absurd ⟨.inr ⟨y,m⟩,h⟩ hn
 refine⟨⟨s.frames (λb q=>F b (j.sim.frLt b q)) (λb q r=>s.roFr b q (hs b (d b r))) (λi b x y m G r=>(s.own i b x y m G).2.2 (hs b (d b r))),
  λt=>(j.env t).mono hext,hσ.trans j.sig,j.ev.trans evf,j.marks.to λB _ e2 e3=>⟨e2,(ev.keepFr B ⟨d B e2,λe=>?_⟩).trans e3⟩,N,λb q=>?_,λb q=>.inl (j.frG b q),λi b x y m G=>?_,λb q=>q.elim (λq=>F b (j.lt b q)) (λq=>q.2)⟩,
  ⟨λb q=>.inl q,gq,λb q=>q.elim (λq=>F b (j.lt b q)) (λq=>q.2),om,λb y m=>?_,ev.size,ev.shape,ev.os,ev.tape,ev.output,ev.drawn⟩⟩
 .subst e;rw[j.rc]at e3;cases e3
 .rcases VE b W.heap.size with h|h
  .rcases f b h (λr=>s.roFr b q (hs b r))with r|r
   .grind
   .exact(j.roG b r).imp id .inl
  .exact .inr (.inr ⟨h,s.roLt b q⟩)
 .obtain⟨O,M,L⟩:=s.own i b x y m G;rcases VE b W.heap.size with h|h
  .rcases f b h (λr=>L (hs b r))with r|r
   .exact .inl r
   .exact absurd (ev.sub b r) M
  omega
 .by_cases r:ro1 b
  .exact ev.keepRo b r
  .exact ev.keepFr b ⟨gq,λe=>m (j.frG b (e▸J.l1))⟩
end
theorem Cm.roAdd{d:Nat->Prop}{H:Qb}(s:Cm fr ro σ H w)(f:∀b,d b->b<w.heap.size)(g:∀b,d b->¬fr b)(m:∀(i b:Nat) (x:Ci),σ[i]?=AC (AC b)->H[i]?=AC x->x.live=AE->¬d b):Cm fr (λb=>ro b\/d b) σ H w:=by
 have ext:Dh ro σ w (λb=>ro b\/d b) σ w:=⟨λ_ q=>.inl q,λ_ _=>rfl,λ_ _ q=>q,λ_ _ q=>q⟩;refine⟨s.len,s.roOk.to (λ_ q=>.inl q) (λ_ _=>rfl) (λb q=>q.elim (s.roLt b) (f b)),s.frLt,λb q=>q.elim (s.roFr b) (g b),λi b x h j t=>?_,s.inj,λi y x h j=>(s.blk i y x h j).keep ext (λ_ _ _=>rfl)⟩;obtain⟨E,F,B⟩:=s.own i b x h j t
 grind
theorem RJ.roAdd{D:Sq}{ro1:Nat->Prop}{σ1:Cp}{H:Qb}{st:LoopState}{pe:AB Code}{qR ri g:Nat->Prop}{W:AJ}(j:RJ D ro1 σ1 H st pe qR g W)(hq:∀b,qR b->ri b)(hI:∀b,ri b->b<W.heap.size/\ ¬g b):RJ D (λb=>ro1 b\/ri b) σ1 H st pe ri g W:=
 {j with
  sim:=j.sim.roAdd (λb q=>(hI b q).1) (λb q z=>(hI b q).2 (j.frG b z)) (λi b x q1 q2 q3 z=>(hI b z).2 (j.own i b x q1 q2 q3))
  env:=λt=>(j.env t).mono ⟨λ_ q=>.inl q,λ_ _=>rfl,λ_ _ q=>q,λ_ _ q=>q⟩
  ev:=j.ev.trans (Q6 λ_ q=>.inl q)
  roG:=λb q=>q.elim (λq=>(j.roG b q).imp (hq b) id) .inl}
def eG:AA Nat->AA A->Env->Env
 |p::ps,a::zs,env=>eG ps zs (up env p a)
 |_,_,env=>env
def Ts:AA Nat->AA AL->Array AL->Array AL
 |p::ps,v::vs,t=>Ts ps vs (t.setIfInBounds p v)
 |_,_,t=>t
theorem vu:∀(ps:AA Nat) (vs:AA AL) (t:Array AL),(Ts ps vs t).size=t.size
 |[],_,_=>rfl
 |_::_,[],_=>rfl
 |p::ps,v::vs,t=>by simp[Ts,vu ps]
theorem vr:∀(ps:AA Nat) (vs:AA AL) (t:Array AL),(ps.toArray.zip vs.toArray).foldl (λt (p,v)=>t.setIfInBounds p v) t=Ts ps vs t
 |[],vs,t=>by rw[<- Array.foldl_toList,Array.toList_zip];rfl
 |p::ps,[],t=>by rw[<- Array.foldl_toList,Array.toList_zip];rfl
 |p::ps,v::vs,t=>by
  have:=vr ps vs (t.setIfInBounds p v);rw[<- Array.foldl_toList,Array.toList_zip]at this⊢;exact this
theorem tp{ro:Nat->Prop}{σ:Cp}{w:AJ}:∀(ps:AA Nat) (zs:AA A) (vs:AA AL) (env:Env) (t:Array AL),LR ro σ w zs vs->(∀p∈ps,p<t.size)->(∀s,VR ro σ w (lk env s) (t.getD s undef))->
  ∀s,VR ro σ w (lk (eG ps zs env) s) ((Ts ps vs t).getD s undef)
 |[],_,_,_,_,_,_,h=>h
 |p::ps,[],vs,_,_,hv,_,h=>by
  obtain rfl:vs=[]:=hv;exact h
 |p::ps,a::zs,vs,env,t,hv,hp,h=>by
  obtain⟨v,vs',rfl,h0,hv'⟩:=hv;have h1:=VR.up (fr:=λ_=>False) (a:={tmps:=t,defers:=[]}) h (hp p sq) h0;exact tp ps zs vs' (up env p a) (t.setIfInBounds p v) hv' (λq hq=>gq) h1
def sK(h1:Nat)(env:Env)(Q:Qx)(K:Qb->Prop):Qx
 |.normal,env',H'=>∃H2,Le h1 env' H' [] H2/\K H2
 |.exit id,env',H'=>∃H2,Le h1 env' H' [] H2/\Q (.exit id) env H2
 |.ret,env',H'=>∃H2,Le h1 env' H' [] H2/\Q .ret env H2
def ft(Q:Qx)(env:Env)(c:Code)(H:Qb):Prop:=(∃id,c=.exit id/\Q (.exit id) env H)\/(c=.ret/\Q .ret env H)
section
variable {D:Sq} {ro0:Nat->Prop} {σ1:Cp} {H:Qb} {qR ri g:Nat->Prop} {W:AJ} {P:AK} {N:Nat} {Q:Qx} {K:Qb->Prop}
theorem RJ.round{fn:FuncId}{ps:AA Nat}{assign body:Code}{df:Nat}{R:AA A}{vs:AA AL}(hD:D.Ok)(X:D.rc=λst pe=>{state:=st,pending:=pe,fn:=fn,tmps:=D.tmps,params:=ps.toArray,assign:=assign,body:=body,defers:=df})
  (hN:D.tmps.size=N)(av:∀p∈ps,p<N)(aq:R.length=ps.length)(hq:∀b,qR b->ri b)(hI:∀b,ri b->b<W.heap.size/\ ¬g b)(af:LR ri [] W R vs)(j0:RJ D ro0 σ1 H .ready AF qR g W)
  (h:TC P D.h1 N assign (eG ps R D.env) H λe env1 H1=>e=.normal/\TC P D.h1 N body env1 H1 (sK D.h1 D.env Q K)):
  YieldAt Fence.wide 0 P D.l vs.toArray W λe W'=>∃g',ee g g' W W'/\((e=.returned (.bool AE)/\ ∃H2 ro2 σ2,K H2/\RJ D ro2 σ2 H2 .ready AF ri g' W')\/
   (e=.returned (.bool AD)/\ ∃H2 c ro2 σ2,ft Q D.env c H2/\RJ D ro2 σ2 H2 .done (AC c) ri g' W')):=by
 have ar:vs.length=R.length:=af.length;have j:=j0.roAdd hq hI;have F:LR (λb=>ro0 b\/ri b) σ1 W R vs:=af.mono ⟨λ_ q=>.inr q,λ_ _=>rfl,λ_ _ q=>q,λi b q=>by simp at q⟩;clear j0;generalize(λb=>ro0 b\/ri b)=ro1 at j F;have ao:∀b,D.fr1 b->Kx D ro1 g W b:=λb q=>⟨.inl q,j.sim.frLt b q⟩;have O:=ao _ hD.l1;have ab:=j.rc;have hy:=run_yield (P:=P) (r:=D.rc .ready AF) (args:=vs.toArray) ab gq;refine⟨fn,Ts ps vs D.tmps,assign,body,?_,?_⟩
 .grind[vr]
 .refine roundIn_of_wpIn trivial ?_;show Code.wpIn (WF (AC D.l)) 0 P _ _ _ _;have ae:∀s,VR ro1 σ1 W (lk D.env s) (D.tmps.getD s undef):=λs=>(j.env s).mono ⟨λ_ q=>q,λ_ _=>rfl,λ_ _ q=>q,λi b q=>ww j.sig q⟩;have an:HU (AC D.l) (Kx D ro1 g W) W:=λl e=>gq;have E:=h (AC D.l) (Kx D ro1 g W) ro1 σ1 {tmps:=Ts ps vs D.tmps,defers:=[]} W ⟨j.simB,tp ps R vs D.env D.tmps F gq ae,by simp[vu,hN],List.nodup_nil,λd hd=>by cases hd⟩ an;refine Code.wpIn_mono ?_ E;rintro e a1 E ⟨x1,env1,H1,ro2,σ2,x,h1,⟨rfl,h2⟩,h3,h4,h5,h6⟩;cases e with
  |normal=>
   have ad:E.heap[D.l]?=AC (.loop (D.rc .ready AF)):=(h4.keepFr _ O).trans ab;refine⟨_,run_beginRound ad (by rw[X]),?_⟩;obtain⟨s2,J⟩:=h3.sim.put (obj:=.loop {D.rc .ready AF with state:=.busy}) (h6.sub _ O) (pA ad);have ac:D.l<E.heap.size:=gq;have ai:(E.putObj D.l (.loop {D.rc .ready AF with state:=.busy})).heap[D.l]?=AC (.loop {D.rc .ready AF with state:=.busy}):=World.putObj_heap_same ac;generalize hw2:E.putObj D.l (.loop {D.rc .ready AF with state:=.busy})=w2 at*;have am:I2 x a1.defers w2:=h3.defers.to λB _ e2 e3=>⟨e2,(J.keepFr B (λe=>gq)).trans e3⟩;have r2:DT x ro2 σ2 H1 env1 N a1 w2:=⟨s2,λs=>(h3.env s).mono (J.ext0 σ2),h3.size,am⟩;have aa:x D.l:=h6.sub _ O;refine Code.wpIn_mono ?_ (h2 (AC D.l) x ro2 σ2 a1 w2 r2 (λl e=>gq));rintro e a3 G ⟨x3,ag,H3,M,σ3,T,g1,g2,g3,g4,g5,g6⟩;have y:G.heap[D.l]?=AC (.loop {D.rc .ready AF with state:=.busy}):=(g4.keepFr _ aa).trans ai;have L:∀(H2:Qb) (jump:AB Code),Le D.h1 ag H3 [] H2->∃v t,(Instr.endRound D.l jump).run P G=.ok v t/\v=.bool jump.isNone/\ ∃g',ee g g' W t/\ ∃f σ4,RJ D f σ4 H2 (if jump.isNone then .ready else .done) jump ri g' t:=by
    intro H2 jump m;obtain⟨f,σ4,r4,s4,t4⟩:=m T M σ3 N a3 G g3;refine⟨_,_,run_endRound jump y,rfl,?_⟩;have ak:T D.l:=g6.sub _ aa;obtain⟨s5,aj⟩:=r4.sim.put ak (pA y);have Y:D.l<G.heap.size:=by rw[Vf]at y;exact y.1
    have ah:=World.putObj_heap_same (w:=G) (r:=D.l) (o:=.loop {{D.rc .ready AF with state:=.busy}with state:=if jump.isNone then .ready else .done,pending:=jump}) Y;have e1:Qe (λb=>Kx D ro1 g W b/\b≠D.l) ro1 W ro2 E:=h4.frMono λb q=>q.1;have e2:Qe (λb=>Kx D ro1 g W b/\b≠D.l) ro2 E ro2 w2:=J.frMono λb q=>q.2;have e3:Qe (λb=>Kx D ro1 g W b/\b≠D.l) ro2 w2 M G:=g4.frMono λb q=>h6.sub b q.1;have e4:Qe (λb=>Kx D ro1 g W b/\b≠D.l) M G f G:=Q6 s4;have e5:=(((e1.trans e2).trans e3).trans e4).trans (aj.frMono λb (q:Kx D ro1 g W b/\b≠D.l)=>q.2);obtain⟨q1,q2⟩:=j.fin hD e5 s5 (λb q=>g6.sub b (h6.sub b q)) (by rw[t4,g5,h5]) (st':=if jump.isNone then .ready else .done) (pe':=jump) (by rw[ah,X]);exact⟨_,q2,f,σ4,q1⟩
   cases e with
   |normal=>
    obtain rfl:x3=.normal:=g1;obtain⟨H2,m,hK⟩:=g2;obtain⟨v,t,V,rfl,g',k2,f,σ4,k3⟩:=L H2 AF m;exact⟨_,t,V,g',k2,.inl ⟨rfl,H2,f,σ4,hK,k3⟩⟩
   |exit id=>
    obtain rfl:x3=.exit id:=g1;obtain⟨H2,m,hK⟩:=g2;obtain⟨v,t,V,rfl,g',k2,f,σ4,k3⟩:=L H2 (AC (.exit id)) m;exact⟨_,t,V,g',k2,.inr ⟨rfl,H2,_,f,σ4,.inl ⟨id,rfl,hK⟩,k3⟩⟩
   |ret=>
    obtain rfl:x3=.ret:=g1;obtain⟨H2,m,hK⟩:=g2;obtain⟨v,t,V,rfl,g',k2,f,σ4,k3⟩:=L H2 (AC .ret) m;exact⟨_,t,V,g',k2,.inr ⟨rfl,H2,_,f,σ4,.inr ⟨rfl,hK⟩,k3⟩⟩
   |_=>exact g1.elim
  |exit id=>cases h1
  |ret=>cases h1
  |_=>exact h1.elim
end
theorem Cm.beside{H:Qb}{f:AJ}(s:Cm fr ro σ H w)(ev:Qe fr ro w ro f)(d:∀b,b<w.heap.size->f.heap[b]?=w.heap[b]?):Cm (λb=>fr b\/(w.heap.size<=b/\b<f.heap.size)) ro σ H f:=by
 have hext:=ev.ext0 σ;refine⟨s.len,s.roOk.to (λ_ q=>q) ev.keepRo (λb q=>Vi (s.roLt b q) ev.size),λb q=>q.elim (λq=>Vi (s.frLt b q) ev.size) (λq=>q.2),λb q r=>?_,λi b x g h j=>?_,s.inj,λi z x g h=>?_⟩
 .rcases r with r|r
  .exact s.roFr b q r
  .have:=s.roLt b q;omega
 .obtain⟨t,y,m⟩:=s.own i b x g h j
  grind
 .refine(s.blk i z x g h).keep hext ?_;rintro b rfl hl;exact d b (s.own i b x g h hl).1
theorem ji{o:Obj}{b:Nat}(d:b<w.heap.size):(w.alloc o).heap[b]?=w.heap[b]? :=by
 show(w.heap.push o)[b]?=_
 grind
theorem QoE{fn:FuncId}{tmps:Array AL}{ps:Array Tmp}{assign body:Code}(j:HU rd fr w)(L:∀b,ro b->b<w.heap.size)(B:∀b,fr b->b<w.heap.size):
  ∃l mark w1 df,(Instr.enterLoop fn tmps ps assign body rd).run P w=.ok (l,mark) w1/\w.heap.size<=l/\l<w1.heap.size/\w1.heap[l]?=AC (.loop {state:=.ready,pending:=AF,fn:=fn,tmps:=tmps,params:=ps,assign:=assign,body:=body,defers:=df})/\
   (∀b,b<w.heap.size->w1.heap[b]?=w.heap[b]?)/\mark.Nodup/\(∀d∈mark,∃D,d={target:=.collected D,args:= #[]}/\w.heap.size<=D/\D<w1.heap.size/\w1.heap[D]?=AC (.deferred (AC [])))/\Qe fr ro w ro w1:=by
 have g:∀w1,(∀b,b<w.heap.size->w1.heap[b]?=w.heap[b]?)->w.heap.size<=w1.heap.size->w1.os=w.os->w1.tape=w.tape->w1.output=w.output->w1.drawn=w.drawn->Qe fr ro w ro w1:=by
  intro w1 N E J F G M;refine⟨λ_ q=>q,gq,gq,E,λb x q=>?_,J,F,G,om⟩
  grind[World.shape?]
 cases rd with
 |none=>
  have f:∀b,b<w.heap.size->((w.alloc (.deferred (AC []))).alloc (.loop {state:=.ready,pending:=AF,fn:=fn,tmps:=tmps,params:=ps,assign:=assign,body:=body,defers:=w.heap.size})).heap[b]?=w.heap[b]? :=λb h=>
   (ji (by simp;omega)).trans (ji h)
  refine⟨_,_,_,w.heap.size,run_enterLoop_outer fn tmps ps assign body,om,sq,?_,f,sq,?_,g _ f (by simp;omega) rfl rfl rfl rfl⟩
  .grind[World.alloc_heap_new,World.size_alloc]
  .intro d t;obtain rfl:=VD.1 t;exact⟨_,rfl,XU _,by simp;omega,(ji sq).trans (World.alloc_heap_new w _)⟩
 |some y=>
  obtain⟨_,m,H⟩:=j y rfl;have f:∀b,b<w.heap.size->(w.alloc (.loop {state:=.ready,pending:=AF,fn:=fn,tmps:=tmps,params:=ps,assign:=assign,body:=body,defers:=m.defers})).heap[b]?=w.heap[b]? :=λb h=>ji h;exact⟨_,_,_,m.defers,run_enterLoop_inner H fn tmps ps assign body,XU _,sq,World.alloc_heap_new w _,f,List.nodup_nil,sq,g _ f sq rfl rfl rfl rfl⟩
theorem TC.rangeFunc{P:AK}{h0 N:Nat}{ac:Operand}{ps:AA Nat}{assign body:Code}{env:Env}{H:Qb}{Q:Qx}{f:FuncId}{caps ad:AA A}{Hc:Qb}{T S:Type}{enc:T->AA A}{nx:AA T->T->AA T->Prop}{xs:AA T}
  (π:AA Nat)(Hp:S->Qb)(V:S->AA T->Prop)(s0:S)(hh:h0<=H.length)(hg:CS env ac=.fn (.func f) [] caps)(hargs:caps=Jg (Cu π H.length) ad)(hH:π.map (λp=>H[p]?)=(Hc.map (Q4 (Cu π H.length))).map AC)(hπ:π.Nodup)
  (a7:(ps.all λp=>Nat.blt p N)=AE)(eg:∀args w,(callFunc f args).run P w=.ok (.enter f args) w)(az:SM P f ad Hc enc nx xs)(aq:∀x,(enc x).length=ps.length)
  (a9:Le H.length env (SX H π) env (Hp s0))(hV:V s0 xs)
  (ag:∀s l x rem,V s l->nx l x rem->TC P H.length N assign (eG ps (enc x) env) (Hp s) λe env1 H1=>e=.normal/\TC P H.length N body env1 H1 (sK H.length env Q λH2=>∃s',V s' rem/\H2=Hp s'))
  (aj:∀s,V s []->Q .normal env (Hp s)):TC P h0 N (.rangeFunc ac ps.toArray assign body) env H Q:=by
 intro rd fr ro σ a w r hrd;have hv:=Qm r ac;rw[hg]at hv;obtain⟨l1,E,hv,a2,ao⟩:=hv;obtain rfl:l1=[]:=a2;refine wpIn_rangeFunc ?_;intro fn bg;obtain⟨l,mark,w1,df,he,hl,be,ar,a0,a6,ak,R⟩:=QoE (P:=P) (fn:=fn) (tmps:=a.tmps) (ps:=ps.toArray) (assign:=assign) (body:=body) (ro:=ro) hrd r.sim.roLt r.sim.frLt;have s1:=r.sim.beside R a0
 let D:Sq:=⟨fr,ro,σ,w,H.length,env,a.tmps,mark++a.defers,l,(λst pe=>{state:=st,pending:=pe,fn:=fn,tmps:=a.tmps,params:=ps.toArray,assign:=assign,body:=body,defers:=df}),(λb=>fr b\/(w.heap.size<=b/\b<w1.heap.size))⟩
 have af:¬fr l:=λq=>by have:=r.sim.frLt l q;omega
 have hD:D.Ok:=⟨λb q=>.inl q,.inr ⟨hl,be⟩,af,r.sim.len⟩;have aa:I2 D.fr1 (mark++a.defers) w1:=by
  refine⟨List.nodup_append.2 ⟨a6,r.defers.1,λd Y d' a4 e=>?_⟩,λd Y=>?_⟩
  .subst e;obtain⟨B,e1,e2,_⟩:=ak d Y;have:=r.sim.frLt B (r.defers.mark (e1▸a4)).1;omega
  .rcases VG.1 Y with Y|Y
   .obtain⟨B,e1,e2,e3,e4⟩:=ak d Y;exact .inl ⟨B,e1,.inr ⟨e2,e3⟩,e4⟩
   .exact(((r.defers.keep R).to (fr':=D.fr1) λB _ e2 e3=>⟨.inl e2,e3⟩)).2 d Y
 obtain⟨sp,hσc⟩:=s1.part hH hπ;have an:LR ro (Y6 σ π) w1 ad E:=(OQ hσc).1 (hargs▸ao.mono (R.ext0 σ))
 let frX:Nat->Prop:=λb=>D.fr1 b\/(∃(j:Nat) (x:Ci),(Y6 σ π)[j]?=AC (AC b)/\Hc[j]?=AC x/\x.live=AE)
 have sX:Cm frX ro σ (SX H π) w1:=by
  refine(ou π s1).frames (λb q=>?_) (λb q r=>?_) (λi b x q1 O L r=>?_)
  .rcases q with q|⟨j,x,q1,O,L⟩
   .exact s1.frLt b q
   .exact(sp.own j b x q1 O L).1
  .rcases r with r|⟨j,x,q1,O,L⟩
   .exact s1.roFr b q r
   .exact(sp.own j b x q1 O L).2.1 q
  .rcases uj _ _ _ _ O with rfl|⟨O,hi⟩
   .cases L
   .rcases r with r|⟨j,y,p1,p2,p3⟩
    .exact(s1.own i b x q1 O L).2.2 r
    .exact(sp.own j b y p1 p2 p3).2.2 (.inr ⟨i,x,q1,O,L,hi L⟩)
 have rX:DT frX ro σ (SX H π) env N {a with defers:=mark++a.defers} w1:=
  ⟨sX,λs=>(r.env s).mono (R.ext0 σ),r.size,aa.to λB _ e2 e3=>⟨.inl e2,e3⟩⟩
 obtain⟨ab,σ',r',ae,bd⟩:=a9 frX ro σ N _ w1 rX;have hσt:σ.take H.length=σ:=by rw[<- r.sim.len,Vc]
 let g0:Nat->Prop:=λb=>D.fr1 b\/(ab b/\ ¬ro b)\/(∃(i:Nat) (x:Ci),σ'[i]?=AC (AC b)/\(Hp s0)[i]?=AC x/\x.live=AE)
 have j0:RJ D ab σ' (Hp s0) .ready AF ro g0 w1:=by
  refine⟨r'.sim.frMono λb q=>.inl q,λt=>(r.env t).mono ⟨ae,R.keepRo,R.shape,λ_ _ q=>q⟩,bd.trans hσt,R.trans (Q6 ae),aa,ar,λb q=>?_,λb q=>.inl q,λi b x q1 O L=>.inr (.inr ⟨i,x,q1,O,L⟩),λb q=>?_⟩
  .by_cases z:ro b
   .exact .inl z
   .exact .inr (.inr (.inl ⟨q,z⟩))
  .rcases q with q|q|⟨i,x,q1,O,L⟩
   .exact s1.frLt b q
   .exact r'.sim.roLt b q.1
   .exact(r'.sim.own i b x q1 O L).1
 have sI:Cm g0 ro (Y6 σ π) Hc w1:=by
  refine sp.frames (λb q=>j0.lt b q) (λb q z=>?_) (λj b x q1 O L z=>?_)
  .rcases z with z|z|⟨i,x,q1,O,L⟩
   .exact s1.roFr b q z
   .exact z.2 q
   .exact(r'.sim.own i b x q1 O L).2.1 (ae b q)
  .have hX:frX b:=.inr ⟨j,x,q1,O,L⟩;rcases z with z|z|⟨i,y,p1,p2,p3⟩
   .exact(sp.own j b x q1 O L).2.2 (.inl z)
   .exact r'.sim.roFr b z.1 hX
   .exact(r'.sim.own i b y p1 p2 p3).2.2 hX
 let X:Fy T:={l:=l,J:=λrem q g W=>∃s F σ1,V s rem/\RJ D F σ1 (Hp s) .ready AF q g W,Jx:=λ_ q g W=>∃H2 c F σ1,ft Q env c H2/\RJ D F σ1 H2 .done (AC c) q g W,enc:=enc,nx:=nx}
 have aw:∀p∈ps,p<N:=λp hp=>by simpa using Xs.1 a7 p hp
 have hX:X.ok P:=by
  refine⟨⟨λrem q g W W' ab ⟨s,F,σ1,G,M⟩ he=>⟨s,F,σ1,G,M.step hD he⟩,λrem q g g' W ⟨s,F,σ1,G,M⟩ hg hl=>⟨s,F,σ1,G,M.up hg hl⟩⟩,
   ⟨λrem q g W W' ab ⟨H2,c,F,σ1,G,M⟩ he=>⟨H2,c,F,σ1,G,M.step hD he⟩,λrem q g g' W ⟨H2,c,F,σ1,G,M⟩ hg hl=>⟨H2,c,F,σ1,G,M.up hg hl⟩⟩,?_⟩
  rintro lr x rem q g ri W vs a5 ⟨s,F,σ1,G,M⟩ hq hI a3;obtain⟨bc,tm,ba,a8,y1,y2⟩:=RJ.round (D:=D) (Q:=Q) (K:=λH2=>∃s',V s' rem/\H2=Hp s') hD rfl r.size aw (aq x) hq hI a3 M (ag s lr x rem G a5);refine⟨bc,tm,ba,a8,y1,RoundIn.mono y2 ?_⟩;rintro e W' ⟨g',k1,k2⟩;refine⟨g',ri,λ_ z=>z,k1,?_⟩;rcases k2 with⟨rfl,H2,m,σ2,⟨s',bb,rfl⟩,k3⟩|⟨rfl,H2,c,m,σ2,k3,k4⟩
  .exact .inl ⟨rfl,s',m,σ2,bb,k3⟩
  .exact .inr ⟨rfl,H2,c,m,σ2,k3,k4⟩
 have ax:∀(ev:Operand->AL),ev ac=.func (.func f) #[] E.toArray->ev (.const (.func (.yield l) #[] #[]))=.func (.yield l) #[] #[]->(resolve ev (rangeCall ac l) 0).run P w1=.ok {target:=.fn (.func f) E.toArray,args:= #[.func (.yield l) #[] #[]]} w1:=by
  intro ev G M;simp[resolve,go_sem,G,M]
 refine⟨l,mark,w1,{target:=.fn (.func f) E.toArray,args:= #[.func (.yield l) #[] #[]]},w1,f, #[.func (.yield l) #[] #[]]++E.toArray,w1,he,ax a.eval hv rfl,λ_ _=>trivial,by simp[invoke,go_sem,eg],λh=>by simp[WF,Fence.wide]at h,?_⟩;refine WF.calls.2 ?_;have ah:=az X rfl rfl hX g0 ro (Y6 σ π) w1 E ro sI (λ_ z=>z) an ⟨s0,ab,σ',hV,j0⟩;have ai:(#[.func (.yield l) #[] #[]]++E.toArray:Array AL)=((Value.func (.yield X.l) #[] #[]::E)).toArray:=by simp[X]
 rw[ai];refine Calls.mono ah ?_;rintro e W' ⟨⟨v,rfl⟩,g2,qz,bh,av⟩;have fin:∀(H2:Qb) (st:LoopState) (pe:AB Code) (m:Nat->Prop) (σ2:Cp),st≠ .busy->RJ D m σ2 H2 st pe qz g2 W'->∃w4,(Instr.endLoop l).run P W'=.ok pe w4/\DT D.fr1 m σ2 H2 env N {a with defers:=mark++a.defers} w4/\Qe fr ro w m w4:=by
  intro H2 st pe m σ2 hst j;refine⟨_,run_endLoop j.rc (by exact hst),?_⟩;obtain⟨s5,am⟩:=j.sim.put (obj:=.loop {(D.rc st pe)with state:=.exhausted}) hD.l1 (pA j.rc);have hr:=j.rc;refine⟨⟨s5,λt=>((j.env t).mono ⟨λ_ q=>q,λ_ _=>rfl,λ_ _ q=>q,λi b q=>ww j.sig q⟩).mono (am.ext0 σ2),r.size,j.marks.to λB _ e2 e3=>⟨e2,(am.keepFr B (λe=>?_)).trans e3⟩⟩,j.ev.trans (am.frMono λb q e=>af (by have e':b=l:=e;rw[<- e'];exact q))⟩;subst e;rw[hr]at e3;cases e3
 have a1:DJ fr w a.defers D.fr1 (mark++a.defers):=by
  refine⟨λb q=>.inl q,λb q=>q.imp id (λq=>q.1),λd Y=>List.mem_append_right _ Y,λd Y=>?_⟩;rcases VG.1 Y with Y|Y
  .obtain⟨B,e1,e2,_⟩:=ak d Y;exact .inr ⟨B,e1,e2⟩
  .exact .inl Y
 have ay:∀{σ2:Cp},σ2.take H.length=σ->σ2.take h0=σ.take h0:=by
  intro σ2 h;have:=congrArg (List.take h0) h
  rwa [List.take_take,XC hh]at this
 rcases av with⟨s,m,σ2,G,M⟩|⟨rem,H2,c,m,σ2,G,M⟩
 .obtain⟨w4,f1,f2,f3⟩:=fin _ _ _ m σ2 (by intro e;cases e) M;exact⟨AF,w4,f1,.normal,env,_,m,σ2,_,rfl,aj s G,f2,f3,ay M.sig,a1⟩
 .obtain⟨w4,f1,f2,f3⟩:=fin _ _ _ m σ2 (by intro e;cases e) M;refine⟨AC c,w4,f1,?_⟩;have hc:TC P h0 N c env H2 Q:=by
   rcases G with⟨id,rfl,G⟩|⟨rfl,G⟩
   .exact TC.exit G
   .exact TC.ret G
  exact Code.wpIn_mono (λe a w q=>q.grow f3 (ay M.sig) a1) (hc rd D.fr1 m σ2 _ w4 f2 (hrd.to f3 λb q=>.inl q))
def dy(l:AA T)(x:T)(rem:AA T):Prop:=l.Perm (x::rem)
section
variable {P:AK} {T:Type} {ts tq te k tm:Nat} {g:FuncId} {es:AA (A×A)} {e:T->AA A} {ea:T->A} {xs:AA T}
end
variable {env':Env}{h0:Nat}
theorem C5.le{T:Type}{X:Fy T}{c:Code}{env:Env}{H:Qb}{st:HT T}{Q:YD T}(j:Le h0 env H env' H')(h:C5 X P h0 N c env' H' st Q):C5 X P h0 N c env H st Q:=by
 intro J G x E σ a w g r hj hrd;obtain⟨d,σ',B,s,t⟩:=j x E σ N a w r;obtain⟨⟨y,F,f⟩,m⟩:=hj;exact Code.wpIn_mono (λe a w q=>q.grow s (XU _) t (DJ.refl _ _ _)) (h J G x d σ' a w g B ⟨⟨y,gq,f⟩,m⟩ hrd)
mutual
theorem uM:∀{a:A},I1 a=AE->Yn a=AE
 |.any,_=>rfl
 |.bool _,_=>rfl
 |.int _ _,_=>rfl
 |.str _,_=>rfl
 |.nilp,_=>rfl
 |.ptr _ _,h=>by simp[I1]at h
 |.rp _,_=>rfl
 |.nils,_=>rfl
 |.rsl _ _,_=>rfl
 |.osl _ _ _ _,h=>by simp[I1]at h
 |.agg cs,h=>by simp only[I1]at h;simp only[Yn];exact vq h
 |.fn _ a c,h=>by simp[I1]at h
 |.nilf,_=>rfl
 |.iface _ v,h=>by simp[I1]at h
 |.nilif,_=>rfl
 |.map _,h=>by simp[I1]at h
 |.nilm,_=>rfl
 |.tup vs,h=>by simp[I1]at h
theorem vq:∀{l:AA A},L8 l=AE->Q8 l=AE
 |[],_=>rfl
 |a::r,h=>by
  simp only[L8,XX]at h;simp only[Q8,XX];exact⟨uM h.1,vq h.2⟩
end
variable {y:Operand}
theorem uY{o:AM}{env:Env}{H:Qb}{z:Operand}{l:Nat}{a:A}{q:Array TypeId}(g:o.op=.call {callee:=.value y,args:= #[z],argTypes:=q})(m:CS env y=.fn (.yield l) [] [])(t:CS env z=a)(hs:Yn a=AE):
  ∀fr ro σ act w,DT fr ro σ H env N act w->∃vs:AA AL,LR ro [] w [a] vs/\(execOp act.eval o).run P w=(Instr.yield l vs.toArray).run P w:=by
 intro fr ro σ act w r;have d:=Qm r y;rw[m]at d;obtain⟨j,x,d,h,B⟩:=d;obtain rfl:j=[]:=h;have f:=Qm r z;rw[t]at f;refine⟨[act.eval z],⟨_,_,rfl,VR.data hs f,rfl⟩,?_⟩;generalize act.eval=ev at*;simp[execOp,g,invoke,go_sem,d]
theorem Qly{o:AM}{env:Env}{H:Qb}{g d:Operand}{l:Nat}{m q:A}{M:Array TypeId}(F:o.op=.call {callee:=.value y,args:= #[g,d],argTypes:=M})(L:CS env y=.fn (.yield l) [] [])(t:CS env g=m)(h:CS env d=q)(j:Yn m=AE)(x:Yn q=AE):
  ∀fr ro σ act w,DT fr ro σ H env N act w->∃vs:AA AL,LR ro [] w [m,q] vs/\(execOp act.eval o).run P w=(Instr.yield l vs.toArray).run P w:=by
 intro fr ro σ act w r;have f:=Qm r y;rw[L]at f;obtain⟨J,O,f,G,Q⟩:=f;obtain rfl:J=[]:=G;have B:=Qm r g;rw[t]at B;have E:=Qm r d;rw[h]at E;refine⟨[act.eval g,act.eval d],⟨_,_,rfl,VR.data j B,_,_,rfl,VR.data x E,rfl⟩,?_⟩;generalize act.eval=ev at*;simp[F,invoke,go_sem,f]
def sQ(tm tb ty tk:Nat)(asg:Array AM)(ld:Op):Code:=
 (Code.region 0 #[{dst:=AC 4,op:=.load tm (.tmp 1),type:=tm,pos:="iter.go:27",after:= #[],guard:=AF},{dst:=AC 5,op:=.range tm (.tmp 4),type:=0,pos:="iter.go:27",after:= #[{on:=0,ground:=.data}],guard:=AF}] AD).seq
 (.block 0 (Code.loop ((Code.region 1 #[{dst:=AC 6,op:=.next (.tmp 5) AD,type:=0,pos:="iter.go:27",after:= #[],guard:=AF},{dst:=AC 7,op:=.extract (.tmp 6) 0,type:=tb,pos:="iter.go:27",after:= #[{on:=0,ground:=.data}],guard:=AF}] AD).seq
  ((Code.cond (.tmp 7) .skip (.exit 0)).seq (.block 1 ((Code.region 2 asg AD).seq
   ((Code.region 3 #[{dst:=AC 10,op:=.move (.tmp 0),type:=ty,pos:="iter.go:28",after:= #[],guard:=AF},{dst:=AC 11,op:=ld,type:=tk,pos:="iter.go:28",after:= #[],guard:=AF},
    {dst:=AC 12,op:=.call {callee:=.value (.tmp 10),args:= #[.tmp 11],argTypes:= #[tk]},type:=tb,pos:="iter.go:28",after:= #[{on:=0,ground:=.data},{on:=1,ground:=.data}],guard:=AF},
    {dst:=AC 13,op:=.unOp .not tb (.tmp 12),type:=tb,pos:="iter.go:28",after:= #[{on:=2,ground:=.data}],guard:=AF}] AD).seq (.cond (.tmp 13) .ret .skip))))))))
def Qr5(tk:Nat):Array AM:= #[{dst:=AC 8,op:=.entry (.tmp 5),type:=0,pos:="iter.go:27",after:= #[],guard:=AF},{dst:=AC 9,op:=.extract (.tmp 8) 0,type:=tk,pos:="iter.go:27",after:= #[{on:=0,ground:=.data}],guard:=AF},
 {dst:=AC 3,op:=.alloc tk,type:=0,pos:="iter.go:27",after:= #[],guard:=AF},
 {dst:=AF,op:=.store tk (.tmp 3) (.tmp 9),type:=0,pos:="iter.go:27",after:= #[{on:=2,ground:=.data},{on:=1,ground:=.data},{on:=0,ground:=.phase},{on:=1,ground:=.phase},{on:=2,ground:=.phase}],guard:=AF}]
variable {k:Nat}
section
variable {P:AK} {K V:Type} {tm tb ty tk kt et:Nat} {ek:K->A} {ev:V->A} {m:AA (K×V)} {T:Type}
abbrev qy(l:Nat):Env:=[(0,.fn (.yield l) [] []),(1,.ptr 0 0),(5,.ptr 2 0)]
abbrev qx(tm:Nat)(ek:K->A)(ev:V->A)(m l:AA (K×V)):Qb:=[.cells tm [.map 1],.fmap (Qi ek ev m),.iter AF (Qi ek ev l)]
theorem Ql7{g:FuncId}{fn:Func}{d:Array AM}{y:Op}(F:P.funcs[g]?=AC fn)(N:fn.body=AC (sQ tm tb ty tk d y))(O:fn.ntmps=14)(L:fn.results= #[])(G:∀w,(isAgg tm).run P w=.ok AD w)(M:P.underlying tm=AC (.map kt et))(hs:∀x,I1 (ek x)=AE)
  (round:∀(X:Fy K) (e:K×V) (l:AA (K×V)) (env:Env) (H:Qb) (st:HT K) (Q:YD K),lk env 0=.fn (.yield X.l) [] []->lk env 1=.ptr 0 0->lk env 5=.ptr 2 0->H=[.cells tm [.map 1],.fmap (Qi ek ev m),.iter (AC (ek e.1,ev e.2)) (Qi ek ev l)]->
   (∀env' H',lk env' 0=.fn (.yield X.l) [] []->lk env' 1=.ptr 0 0->lk env' 5=.ptr 2 0->(∀env2 b,lk env2 0=.fn (.yield X.l) [] []->lk env2 1=.ptr 0 0->lk env2 5=.ptr 2 0->Le 2 (up (up env2 12 (.bool b)) 13 (.bool (!b))) H' (qy X.l) (qx tm ek ev m l))->
    (∀pos env2,(∀s,s≠10->lk env2 s=lk env' s)->CY P {dst:=AC 11,op:=y,type:=tk,pos:=pos,after:= #[],guard:=AF} env2 H' (ek e.1))->Nat.ble 2 H'.length=AE->Q .normal env' H' st)->
   C5 X P 2 14 (.region 2 d AD) env H st Q):
  SM P g [.ptr 0 0] [.cells tm [.map 1],.fmap (Qi ek ev m)] (λx=>[ek x]) dy (m.map Prod.fst):=by
 refine xG F N O rfl L ?_;intro X hE hNx;refine C5.seq (C5.lift (TC.region ?_));refine Ya rfl rfl rfl (CY.load rfl G rfl (Dn.cells rfl rfl)) (aD (XS rfl) rfl rfl rfl (vO M) ?_);refine WO.nil (C5.block ?_);refine vy (I:=λn env H st=>∃l:AA (K×V),l.length=n/\st=.on (l.map Prod.fst)/\Le 2 env H (qy X.l) (qx tm ek ev m l)) ?_ ⟨m,rfl,rfl,Lr [0,1,2]⟩;rintro n env H st ⟨l,hn,rfl,t⟩;refine C5.le t (C5.seq (C5.lift (TC.region ?_)));refine ip (XS rfl) rfl rfl rfl (UP.next rfl rfl rfl) ?_;rintro v H' (⟨j,rfl,rfl⟩|⟨T,R,j,rfl,rfl⟩)
 .have hl:=List.map_eq_nil_iff.1 j;subst hl;refine Ya rfl rfl rfl (CY.extract rfl rfl rfl) (WO.nil ?_);exact C5.seq (C5.cond rfl (λe=>by cases e) (λ_=>(C5.exit ⟨.inl rfl,.inl rfl⟩)))
 .obtain⟨J,E,B⟩:=vi j rfl;cases J with
  |nil=>cases B
  |cons e h=>
   obtain⟨rfl,rfl⟩:=B;have f:h.length<n:=by rw[<- hn, <- E.length_eq];simp
   refine Ya rfl rfl rfl (CY.extract rfl rfl rfl) ?_;refine WO.nil (C5.seq (C5.cond rfl (λ_=>?_) (λe=>by cases e)));refine C5.skip (C5.block ?_);refine C5.seq (round X e h _ _ _ _ rfl rfl rfl rfl ?_);intro env' H' g0 g1 g5 hfin hld hL;refine C5.seq (C5.region ?_);refine Fw.step (Ya rfl rfl rfl (CY.move rfl g0) (WO.nil ⟨rfl,(Fw.step (Ya rfl rfl rfl (hld _ _ λs q=>?_) (WO.nil ⟨rfl,?_⟩)))⟩))
   .simp[up,lk];have:Nat.beq s 10=false:=by rw[VP];intro z;exact q (XR z)
    rw[this];rfl
   refine Fw.yield (x:=e.1) (rem:=h.map Prod.fst) ?_ rfl rfl rfl ?_ ?_
   .rw[hNx];exact E.symm.map Prod.fst
   .rw[hE];refine uY rfl ?_ ?_ (uM (hs _))
    .rfl
    .rfl
   .intro b;refine Fw.step (Ya rfl rfl rfl (CY.not rfl rfl) (WO.nil ⟨rfl,?_⟩));refine Fw.nil (C5.cond rfl (λq=>?_) (λq=>?_))
    .obtain rfl:b=false:=by simpa using q
     exact C5.ret ⟨.inr rfl,.inr ⟨_,rfl⟩⟩
    .obtain rfl:b=true:=by simpa using q
     exact C5.skip (⟨_,f,h,rfl,rfl,hfin _ AE g0 g1 g5⟩)
theorem Qsr{g:FuncId}{fn:Func}{e:K->AA A}{z:AL}{zv:A}{f:AA A}(O:P.funcs[g]?=AC fn)(T:fn.body=AC (sQ tm tb ty tk (Qr5 tk) (.load tk (.tmp 3))))(hN:fn.ntmps=14)(hR:fn.results= #[])(Y:∀w,(isAgg tm).run P w=.ok AD w)(hT:P.underlying tm=AC (.map kt et))
  (hs:∀x,I1 (.agg (e x))=AE)(t:∀w,(isAgg tk).run P w=.ok AE w)(F:∀w,(zeroValue tk).run P w=.ok z w)(j:∀w,(sizeOf tk).run P w=.ok k w)(B:ZR zv z)(E:QT zv=AE)(J:QU zv=f)(M:f.all Q1=AE)(h:f.length=k)
  (hk:∀x,(e x).length=k)(q:∀x,QT (.agg (e x))=AE)(L:∀x,QU (.agg (e x))=e x)(G:∀x,(e x).all Q1=AE):
  SM P g [.ptr 0 0] [.cells tm [.map 1],.fmap (Qi (λx=>.agg (e x)) ev m)] (λx=>[.agg (e x)]) dy (m.map Prod.fst):=by
 refine Ql7 O T hN hR Y hT hs ?_;intro X y l env H st Q g0 g1 g5 hH hc;subst hH;refine C5.lift (TC.region ?_);refine Ya rfl rfl rfl (CY.entry rfl g5 rfl) (Ya rfl rfl rfl (CY.extract rfl rfl rfl) ?_);refine aD sq rfl rfl rfl (fX F B rfl E J M) (mj sq rfl rfl (J1.store (cs':=e y.1) rfl rfl rfl j rfl (q _) (L _) (hk _) (G _) (by simp[h]) (by simp[splice,h,hk])) ?_);refine WO.nil (hc _ _ g0 g1 g5 ?_ ?_ rfl)
 .intro d b N V R;exact Le.trans (vB (i:=2) rfl rfl) (Lr [0,1,2] (hE:=⟨N,V,R,trivial⟩))
 .intro pos d W;exact Yd rfl t j (by show lk d 3=.ptr 3 0;rw[W 3 (by decide)];rfl) (Dn.cells rfl rfl) gq (hk _)
end
section
variable {P:AK} {o:AM} {env:Env} {H:Qb} {fr ro:Nat->Prop} {σ:Cp} {w:AJ}
theorem iz{i m T:Nat}{d:AA A}(hH:H[i]?=AC (.cells T d)):Le h0 env H env (H.set i (.cells T (d.set m .any))):=by
 intro G E σ N a w r;refine⟨E,σ,⟨r.sim.weaken hH rfl ?_,r.env,r.size,r.defers⟩,λ_ q=>q,rfl⟩;intro y h;cases y with
 |none=>exact h
 |some b=>
  obtain⟨l,j,g,x⟩:=h;refine⟨l,j,?_,x⟩;clear j x hH
  induction d generalizing m l with
  |nil=>exact g
  |cons c d B=>
   obtain⟨v,f,rfl,F,t⟩:=g;cases m with
   |zero=>exact⟨v,f,rfl,trivial,t⟩
   |succ m=>exact⟨v,f,rfl,F,B f t⟩
theorem Dn.ents{i d t e f g j:Nat}{l:AA g_}{x:g_}{cs':AA A}(he:l[e]?=AC x)(hH:H[i]?=AC (.ents t g j l):=by rfl)(ho:d=e*3+f:=by rfl)(hcs:(eC g j x).drop f=cs':=by rfl):Dn H (.ptr i d) cs':=by
 intro J F σ w v s h;obtain⟨b,B,q⟩:=h;obtain⟨G,y,E⟩:=s.blk i _ _ B hH;have m:(l.map (eC g j))[e]?=AC (eC g j x):=by rw[Xo,he];rfl
 have:=((YV (pre:=[]) (by simpa using y) E).get e m).2.drop f;refine⟨b,d,q,?_⟩;rw[<- hcs,ho];simpa using this
end
section
variable {P:AK} {h0 N:Nat} {A B C:Code} {env:Env} {H:Qb} {Q:Qx}
end
variable {t:Nat}
section
variable {P:AK} {o:AM} {env:Env} {H:Qb}
theorem wC{f g:Nat->AB (Nat×Nat)}:∀(parts:AA (Nat×AL)) (cs:Array AL),(∀p∈parts,f p.1=g p.1)->Instr.fill f cs parts=Instr.fill g cs parts
 |[],cs,_=>rfl
 |(i,v)::rest,cs,h=>by
  unfold Instr.fill;rw[h (i,v) sq];have ih:=λcs=>wC rest cs (λp hp=>h p (by simp[hp]));cases g i with
  |none=>rfl
  |some p=>
   simp;split
   .rfl
   .exact ih _
theorem Qh4{e n:Nat}{z:AL}{zs f:AA A}{parts:AA (Nat×Operand)}(F:∀w,(zeroValue t).run P w=.ok z w)(y:ZR (.agg zs) z)(G:∀w,(underlying t).run P w=.ok (.array n e) w)(hs:∀w,(sizeOf e).run P w=.ok k w)
  (J:(parts.all λp=>Nat.blt p.1 n)=AE)(h:o.op=.build t parts.toArray:=by rfl)(hf:SW env ((List.range n).map λi=>(i*k,k)) zs parts=AC f:=by rfl):CY P o env H (.agg f):=by
 intro M E σ N a w r;obtain⟨l,rfl,B⟩:=y E σ w;obtain⟨d,x,L⟩:=nw r parts zs l f B hf;refine⟨.agg d.toArray,?_,d,rfl,L⟩;have m:Instr.fill (λi=>AC (i*k,k)) l.toArray (parts.map λp=>(p.1,a.eval p.2))=AC d.toArray:=by
  rw[<- x];refine wC _ _ ?_;intro p g;obtain⟨q,j,rfl⟩:=Xe.1 g;have hlt:=by simpa using Xs.1 J q j
  simp[hlt]
 simp[execOp,h,Instr.build,Vp,F,Result.andThen,G,hs,XJ,Vq,Value.cells,m]
def Je(k:IntKind)(m n:Int):Int:=k.wrap (BitVec.ofInt k.bits m&&& BitVec.ofInt k.bits n).toNat
def YX(k:IntKind)(m n:Int):Int:=m.fdiv (2^(min n.toNat k.bits))
theorem CY.and{t u:TypeId}{x y:Operand}{k:IntKind}{m n:Int}(f:o.op=.binOp .and t x y u)(hx:CS env x=.int k m)(h:CS env y=.int k n):CY P o env H (.int k (Je k m n)):=by
 intro q j σ N a w r;have d:=QM r hx;have g:=QM r h;refine⟨_,?_,rfl⟩;generalize a.eval=ρ at*;simp[f,d,g,Op.intBits,go_sem,Je]
theorem CY.shr{t u:TypeId}{x y:Operand}{k g:IntKind}{m n:Int}(f:o.op=.binOp .shr t x y u)(hx:CS env x=.int k m)(j:CS env y=.int g n)(hn:0<=n):CY P o env H (.int k (YX k m n)):=by
 intro B q σ N a w r;have d:=QM r hx;have h:=QM r j;refine⟨_,?_,rfl⟩;generalize a.eval=ρ at*;simp[f,d,h,Op.shift,go_sem,YX,Int.not_lt.2 hn]
theorem QS{i m T:Nat}{d:AA A}(O:Nat.ble h0 H.length=AE)(hH:H[i]?=AC (.cells T d))(g:d[m]?=AC .nils):
  Le h0 env H env (H.set i (.cells T (d.set m (.osl H.length 0 0 k)))++[.row t k []]):=by
 intro P j σ N a w r;have hh':=XS O;have hi:=(XM.1 hH).1;have ext:Dh j σ w j (σ++[AF]) w:=⟨λ_ q=>q,λ_ _=>rfl,λ_ _ q=>q,λ_ _ h=>jq h⟩;have s:=r.sim.phantom t k;have f:(H++[Ci.row t k []])[i]?=AC (.cells T d):=by rw[XN hi];exact hH
 have B:H.set i (.cells T (d.set m (.osl H.length 0 0 k)))++[.row t k []]=(H++[Ci.row t k []]).set i (.cells T (d.set m (.osl H.length 0 0 k))):=by
  rw[List.set_append_left _ _ hi]
 rw[B];refine⟨j,σ++[AF],⟨s.weaken f rfl ?_,λq=>(r.env q).mono ext,r.size,r.defers⟩,λ_ q=>q,QJ (by rw[r.sim.len];exact hh')⟩;intro y h;cases y with
 |none=>exact h
 |some b=>
  obtain⟨l,E,L,J⟩:=h;refine⟨l,E,?_,J⟩;clear E J f B hH
  induction d generalizing m l with
  |nil=>cases g
  |cons c d M=>
   obtain⟨v,x,rfl,F,G⟩:=L;cases m with
   |zero=>
    simp at g;subst g;exact⟨v,x,rfl,.inl ⟨rfl,F⟩,G⟩
   |succ m=>exact⟨v,x,rfl,F,M (by simpa using g) x G⟩
theorem Qm0{y i s j n:Nat}{x:Ci}(hs:lk env s=.osl i j n k)(hH:H[i]?=AC x)(E:Nat.ble y H.length=AE):Le y env H (up env s (.osl H.length j n k)) (H.set i .dead++[x]):=by
 intro L f σ N a w r;have J:i<σ.length:=by rw[r.sim.len];exact(XM.1 hH).1
 have hσ:=XL J;have ext:Dh f σ w f (σ++[σ[i]]) w:=⟨λ_ q=>q,λ_ _=>rfl,λ_ _ q=>q,λ_ _ h=>jq h⟩;refine⟨f,σ++[σ[i]],⟨r.sim.moved hH hσ,?_,r.size,r.defers⟩,λ_ q=>q,QJ (by rw[r.sim.len];exact XS E)⟩;intro d;simp only[lk];by_cases q:d=s
 .subst q;rw[VI];have:=r.env d;rw[hs]at this;rcases this with h|⟨b,p,g,t,m,F,B⟩
  .exact .inl h
  .refine .inr ⟨b,p,g,t,m,?_,B⟩;rw[F]at hσ;rw[<- r.sim.len];simpa using hσ.symm
 .have:Nat.beq d s=false:=by
   rw[VP];intro G;exact q (XR G)
  rw[this];exact(r.env d).mono ext
def Jr(n:Int):UInt8:=n.toNat.toUInt8
def HB(P:AK)(H:Qb)(x:A)(l:AA Int):Prop:=
 ∀fr ro σ w v,Cm fr ro σ H w->VR ro σ w x v->(∃a c,v=.slice a 0 c/\l=[])\/ ∃b off c,v=.slice (AC ⟨b,off,AF⟩) l.length c/\(l=[]\/CR ro σ w b (l.map λn=>A.int .u8 n) off)
theorem nX:∀(l:AA Int),(l.map (λn=>[A.int .u8 n])).flatten=l.map λn=>A.int .u8 n
 |[]=>rfl
 |n::l=>by simp[nX l]
theorem HB.nils:HB P H .nils []:=λfr ro σ w v s h=>.inl ⟨AF,0,h,rfl⟩
theorem HB.row{i t n:Nat}{l:AA Int}(hH:H[i]?=AC (.row t 1 (l.map λn=>[A.int .u8 n])):=by rfl)(hn:l.length=n:=by rfl):HB P H (.osl i 0 n 1) l:=by
 intro M E σ w v s h;rcases h with⟨rfl,rfl⟩|⟨b,p,d,F,m,x,rfl,g,⟨J,j⟩,B,G⟩
 .exact .inl ⟨AF,0,rfl,VM.1 hn⟩
 .refine .inr ⟨b,p,d,by rw[hn],?_⟩;by_cases hl:l=[]
  .exact .inl hl
  .have:0<d:=by have:=List.length_pos_iff.2 hl;omega
   obtain rfl:=g this;obtain⟨L,q,y⟩:=s.blk i _ _ x hH;have f:=(YV (pre:=[]) (by simpa using q) y).flat.1;rw[nX]at f;exact .inr (by simpa using f.lift)
theorem HB.rsl{l:AA Int}:HB P H (.rsl 1 (l.map λn=>[A.int .u8 n])) l:=by
 intro q m σ w v s ⟨a,c,h1,h2,f⟩;subst h1;rw[X4]at*;rcases f with f|⟨b,d,rfl,j,h⟩
 .have:=List.map_eq_nil_iff.1 f;subst this;exact .inl ⟨a,c,sq,rfl⟩
 .have g:=h.flat.1;rw[nX]at g;exact .inr ⟨b,d,c,rfl,.inr g.lift⟩
end
def MD:AB Ci->Bool
 |some .dead=>AE
 |_=>AD
def YU(hB hE:Nat)(H H':Qb):Bool:=(List.range (hE-hB)).all λp=> !MD H'[hB+p]? ||MD H[hB+p]?
def iW(hB hE:Nat)(σ:Cp)(H:Qb):Prop:=∀p,hB<=p->p<hE->MD H[p]?=AE->σ[p]?=AC AF
variable {hB hE:Nat}
theorem Qmw{H:Qb}(h:YU hB hE H H'=AE){p:Nat}(f:hB<=p)(g:p<hE)(d:MD H'[p]?=AE):MD H[p]?=true:=by
 have:=Xs.1 h (p-hB) (List.mem_range.2 om);rw[show hB+(p-hB)=p by omega,d]at this;simpa using this
theorem Cm.allocAt{H:Qb}(s:Cm fr ro σ H w){p:Nat}(J:σ[p]?=AC AF){obj:Obj}{x:Ci}
  (P:BR ro (σ.set p (AC w.heap.size)) (w.alloc obj) x (AC w.heap.size)):Cm fr ro (σ.set p (AC w.heap.size)) (H.set p x) (w.alloc obj):=by
 have ev:Qe fr ro w ro (w.alloc obj):=Qe.alloc obj s.roLt s.frLt;have hl:=s.len;have G:p<σ.length:=(XM.1 J).1;have E:Dh ro σ w ro (σ.set p (AC w.heap.size)) (w.alloc obj):=⟨ev.sub,ev.keepRo,ev.shape,λi b q=>by
  rw[XQ (λz=>by subst z;rw[J]at q;cases q)];exact q⟩
 have d:∀(i:Nat) (y:AB Nat),(σ.set p (AC w.heap.size))[i]?=AC y->(i≠p/\σ[i]?=AC y)\/(i=p/\y=AC w.heap.size):=by
  intro i y h;by_cases q:i=p
  .subst q;rw[Xa G]at h;exact .inr ⟨rfl,(X0 h).symm⟩
  .rw[XQ (λz=>q z.symm)]at h;exact .inl ⟨q,h⟩
 have m:∀i:Nat,i≠p->(H.set p x)[i]?=H[i]? :=λi Q=>XQ (λz=>Q z.symm);have hx:(H.set p x)[p]?=AC x:=Xa om;refine⟨by simp[hl],s.roOk.to (λ_ q=>q) ev.keepRo (λb h=>?_),λb h=>?_,s.roFr,?_,?_,?_⟩
 .rw[aO];have:=s.roLt b h;omega
 .rw[aO];have:=s.frLt b h;omega
 .intro i b y g f t;rw[aO];rcases d i _ g with⟨q,g⟩|⟨rfl,B⟩
  .rw[m i q]at f;obtain⟨a,b,c⟩:=s.own i b y g f t;exact⟨om,b,c⟩
  .cases B;exact⟨om,λq=>by have:=s.roLt _ q;omega,λq=>by have:=s.frLt _ q;omega⟩
 .intro i j b y z g f t F N L;rcases d i _ g with⟨q,M⟩|⟨O,B⟩<;>rcases d j _ f with⟨q',g2⟩|⟨ej,e2⟩
  .rw[m i q]at t;rw[m j q']at F;exact s.inj i j b y z M g2 t F N L
  .cases e2;rw[m i q]at t;have:=(s.own i _ y M t N).1;omega
  .cases B;rw[m j q']at F;have:=(s.own j _ z g2 F L).1;omega
  .rw[O,ej]
 .intro i y z g f;rcases d i _ g with⟨q,g⟩|⟨rfl,B⟩
  .rw[m i q]at f;refine(s.blk i y z g f).keep E ?_;rintro b rfl hl;exact Y7 w obj b (s.own i b z g f hl).1
  .rw[hx]at f;cases f;subst B;exact P
def OV(P:AK)(o:AM)(t:Nat)(cs:AA A):Prop:=
 ∀(ro:Nat->Prop) (σ:Cp) (w:AJ) (a:Act),∃l:AA AL,(execOp a.eval o).run P w=.ok (.value (.pointer (AC ⟨w.heap.size,0,AF⟩))) (w.alloc (.cells l.toArray t))/\LR ro σ w cs l/\ ∀v∈l,QA v
theorem OV.alloc{P:AK}{o:AM}{t:Nat}{z:AL}{v:A}{d:AA A}(q:∀w,(zeroValue t).run P w=.ok z w)(h:ZR v z)(g:o.op=.alloc t:=by rfl)(hk:QT v=true:=by rfl)(hcs:QU v=d:=by rfl)(hpl:d.all Q1=true:=by rfl):
  OV P o t d:=by
 intro m σ w a;obtain⟨l,j,f⟩:=(h m σ w).cells hk;subst hcs;refine⟨l,?_,f,f.plain hpl⟩;generalize a.eval=ρ at*;have e:(newVar t z).run P w=.ok ⟨w.heap.size,0,AF⟩ (w.alloc (.cells l.toArray t)):=by
  unfold newVar;rw[j];rfl
 simp only[execOp,g,Instr.alloc,Vp,q,Result.andThen,e];rfl
def pL(P:AK)(o:AM)(e:Env)(H:Qb)(p:Nat)(x:A)(B:Ci):Prop:=
 ∀fr ro σ N a w,DT fr ro σ H e N a w->∃v obj,(execOp a.eval o).run P w=.ok (.value v) (w.alloc obj)/\
  ∀σ',σ'[p]?=AC (AC w.heap.size)->Dh ro σ w ro σ' (w.alloc obj)->VR ro σ' (w.alloc obj) x v/\BR ro σ' (w.alloc obj) B (AC w.heap.size)
variable {R:Exit->Act->AJ->Prop}{l:AA AM}
theorem T9{i:Nat}{o:AM}{K:Act->AJ->Prop}{a:Act}
  (L:l[i]?=AC o)(h:Fc P rd l.toArray R [o] a w)(j:∀e a' w',R e a' w'->e=.normal/\a'.defers=a.defers)(t:∀v w',R .normal (a.put o.dst v) w'->K (a.put o.dst v) w'):
  wpOpIn (WF rd) 0 P l.toArray Q i K a w:=by
 unfold wpOpIn;have E:l.toArray[i]?=AC o:=by simpa using L
 rw[E];simp only;unfold Fc wpListIn at h;split at h
 .rename_i B;rw[Vv B];obtain⟨m,h⟩:=h;refine⟨m,?_⟩;have g:=uX (by
   intro a' w' q;unfold wpListIn at q;exact(j _ _ _ q).2) h
  generalize(o.semAt (WF rd).round a.eval).run P w=res at*;cases res with
  |ok n w'=>
   cases n with
   |value v=>exact t _ _ g.1
   |skip=>exact t _ _ g.1
   |defer N=>
    exfalso;have:=(j _ _ _ g.1).2;have:=congrArg List.length this
    revert this
    cases o.dst<;>simp[Act.put]
   |enter f y=>
    refine⟨g.1,CallsIn.mono g.2 (λe F d=>?_)⟩;cases e with
    |returned v=>exact t _ _ d.1
    |panicked c=>have:=(j _ _ _ d).1;cases this
    |outgrown=>obtain⟨M,J,d⟩:=d;have:=(j _ _ _ d).1;cases this
   |row r y=>
    exact⟨g.1,RowsIn.mono g.2 (λ_ _ d=>t _ _ d.1)⟩
   |round l f H assign G=>
    refine⟨g.1,RoundIn.mono g.2 (λe F d=>?_)⟩;cases e with
    |returned v=>exact t _ _ d.1
    |panicked c=>have:=(j _ _ _ d).1;cases this
    |outgrown=>obtain⟨M,J,d⟩:=d;have:=(j _ _ _ d).1;cases this
   |_=>exact g.elim
  |halt x w'=>
   cases x with
   |panic v=>have:=(j _ _ _ g).1;cases this
   |_=>exact g.elim
 .rename_i B;rw[Vu B];obtain⟨m,h⟩:=h;refine⟨m,?_⟩;unfold wpListIn at h;exact t _ _ h
theorem Qmv{m:Nat}(G:∀i o,l[i]?=AC o->∀j∈Qc o,j<i)(B:∀i o,m<i->l[i]?=AC o->i-1∈Qc o):
  ∀(d t:Nat) (L:Array Bool) (a:Act) (w:AJ),L.size=l.length->(∀i,i<l.length->(FF L i↔i<t))->Nl L<=d->m<=t->t<=l.length->
   Fc P rd l.toArray Q (l.drop t) a w->wpAnyIn (WF rd) 0 P .any l.toArray Q d L a w:=by
 intro d
 induction d with
 |zero=>
  intro t L a w hsz hL hf hm ht h;have:t=l.length:=by
   rcases VE t l.length with q|q
   .have:=tn (L:=L) (i:=t) om (λz=>by have:=(hL t q).1 z;omega);omega
   .omega
  subst this;refine⟨List.eq_nil_iff_forall_not_mem.2 λi E=>?_,?_⟩
  .obtain⟨o,x,y,_⟩:=(aU hsz).1 E;have f:=(XM.1 x).1;exact y ((hL i f).2 f)
  .rw[Xr]at h;exact h
 |succ d W=>
  intro t L a w hsz hL hf hm ht h;have H:∀i o,l[i]?=AC o->¬FF L i->(∀j∈Qc o,FF L j)->i=t:=by
   intro i o x y M;have f:=(XM.1 x).1;have V:t<=i:=by
    rcases VE i t with q|q
    .exact absurd ((hL i f).2 q) y
    .exact q
   rcases VE t i with q|q
   .have:=(hL (i-1) om).1 (M _ (B i o om x));omega
   .omega
  rcases VE t l.length with g|g
  .have O:l[t]?=AC l[t]:=XL g;have F:¬FF L t:=λq=>by have:=(hL t g).1 q;omega
   have R:t∈Region.ready .any l.toArray L:=by
    refine(aU hsz).2 ⟨_,O,F,λj N=>?_⟩;have:=G t _ O j N;exact(hL j om).2 this
   refine⟨λq=>(by rw[q]at R;cases R),λi E=>?_⟩;obtain⟨o,x,y,M⟩:=(aU hsz).1 E;obtain rfl:=H i o x y M;rw[Xp g]at h;obtain rfl:l[i]=o:=by rw[XL g]at x;exact X0 x
   unfold wpOpIn;rw[show l.toArray[i]?=AC l[i]by rw[XH];exact x];simp only;unfold Fc wpListIn at h;have T:∀a w,Fc P rd l.toArray Q (l.drop (i+1)) a w->wpAnyIn (WF rd) 0 P .any l.toArray Q d (L.setIfInBounds i AE) a w:=by
    intro a w q;have X:=nI (L:=L) (i:=i) om F;refine W (i+1) _ a w (by simpa using hsz) (λj N=>?_) om om om q;rw[JI om,hL j N];omega
   split at h
   .rename_i J;rw[Vv J];exact Oper.wpIn_mono T h
   .rename_i J;rw[Vu J];exact⟨h.1,T _ _ h.2⟩
  .have:t=l.length:=by omega
   subst this;rw[Xr]at h;refine⟨λ_=>h,λi E=>?_⟩;obtain⟨o,x,y,_⟩:=(aU hsz).1 E;have f:=(XM.1 x).1;exact absurd ((hL i f).2 f) y
def SQ(af ds:AA Nat)(xs:AA A)(env0 e:Env):Prop:=
 ∀s,(∃j x,af.contains j=AE/\ds[j]?=AC s/\xs[j]?=AC x/\lk e s=x)\/lk e s=.any\/(ds.contains s=AD/\lk e s=lk env0 s)
inductive Y0 (P:AK) (N:Nat) (l:List AM) (ds:List Nat) (xs:List A) (env0:Env) (hB hE:Nat) (i:Nat) (H H':Qb):Prop
 |mk (o:AM) (e:Env) (d:Nat) (x:A) (ho:l[i]?=AC o) (hd:o.dst=AC d) (hx:xs[i]?=AC x) (hdd:YU hB hE H H'=AE) (hs:Sb (Qc o) (OJ l i) ds xs env0 e)
   (h:WO P H.length N l.toArray [o] e H (YE (up e d x) H')):Y0 P N l ds xs env0 hB hE i H H'
 |unit (o:AM) (e:Env) (ho:l[i]?=AC o) (hd:o.dst=AF) (hx:xs[i]?=AC .any) (hdd:YU hB hE H H'=AE) (hs:Sb (Qc o) (OJ l i) ds xs env0 e)
   (h:WO P H.length N l.toArray [o] e H (YE e H')):Y0 P N l ds xs env0 hB hE i H H'
 |unitE (o:AM) (e:Env) (ho:l[i]?=AC o) (hd:o.dst=AF) (hx:xs[i]?=AC .any) (hdd:YU hB hE H H'=AE) (he:SQ (Qc o) ds xs env0 e)
   (h:WO P H.length N l.toArray [o] e H (YE e H')):Y0 P N l ds xs env0 hB hE i H H'
 |alloc (o:AM) (d t p:Nat) (cs:List A) (ho:l[i]?=AC o) (hd:o.dst=AC d) (hg:o.guard=AF) (hx:xs[i]?=AC (.ptr p 0)) (hp:(Nat.ble hB p&&Nat.blt p hE)=AE) (hdead:MD H[p]?=AE)
   (hH:H.set p (.cells t cs)=H') (h:OV P o t cs) (hN:Nat.blt d N=AE):Y0 P N l ds xs env0 hB hE i H H'
 |row (o:AM) (e:Env) (d p:Nat) (x:A) (B:Ci) (ho:l[i]?=AC o) (hd:o.dst=AC d) (hg:o.guard=AF) (hx:xs[i]?=AC x) (hp:(Nat.ble hB p&&Nat.blt p hE)=AE) (hdead:MD H[p]?=AE) (hlive:MD (AC B)=AD)
   (hH:H.set p B=H') (hs:Sb (Qc o) (OJ l i) ds xs env0 e) (h:pL P o e H p x B) (hN:Nat.blt d N=AE):Y0 P N l ds xs env0 hB hE i H H'
 |val (o:AM) (e:Env) (d:Nat) (x:A) (ho:l[i]?=AC o) (hd:o.dst=AC d) (hg:o.guard=AF) (hx:xs[i]?=AC x) (hN:Nat.blt d N=AE) (he:SQ (Qc o) ds xs env0 e) (h:CY P o e H x)
   (hH:H=H':=by rfl):Y0 P N l ds xs env0 hB hE i H H'
 |woE (o:AM) (e:Env) (d:Nat) (x:A) (ho:l[i]?=AC o) (hd:o.dst=AC d) (hx:xs[i]?=AC x) (he:SQ (Qc o) ds xs env0 e) (hdd:YU hB hE H H'=AE) (h:WO P H.length N l.toArray [o] e H (YE (up e d x) H')):Y0 P N l ds xs env0 hB hE i H H'
variable {af:AA Nat}{env0:Env}{xs:AA A}
theorem Sb.rel{bf f:AA Nat}{e:Env}{a:Act}(hs:Sb af bf f xs env0 e)
  (h:∀j∈af,∀s x,f[j]?=AC s->xs[j]?=AC x->VR ro σ w x (a.tmps.getD s undef))
  (g:∀s,f.contains s=AD->VR ro σ w (lk env0 s) (a.tmps.getD s undef))(hP:∀j s,bf.contains j=AE->f[j]?=AC s->VR ro σ w (lk env0 s) (a.tmps.getD s undef)):
  ∀s,VR ro σ w (lk e s) (a.tmps.getD s undef):=by
 intro s
 induction hs with
 |nil=>exact trivial
 | @dep j s1 x1 r h1 h2 h3 _ ih=>
  unfold lk;cases d:Nat.beq s s1 with
  |false=>exact ih
  |true=>
   obtain rfl:=XR d;exact h j (by simpa using h1) _ _ h2 h3
 | @old s1 x1 r h1 h2 _ ih=>
  unfold lk;cases d:Nat.beq s s1 with
  |false=>exact ih
  |true=>
   obtain rfl:=XR d;subst h2;exact g _ h1
 | @pre j s1 x1 r h1 h2 h3 _ ih=>
  unfold lk;cases d:Nat.beq s s1 with
  |false=>exact ih
  |true=>
   obtain rfl:=XR d;subst h3;exact hP j _ h1 h2
structure iH (fr ro:Nat->Prop) (σ:Cp) (w:AJ) (hB hE:Nat) (H':Qb) (xs:List A) (i:Nat) (o:AM) (a':Act) (w':AJ) (ro':Nat->Prop) (σ':Cp):Prop where
 val:∀x,xs[i]?=AC x->match o.dst with
  |some d=>VR ro' σ' w' x (a'.tmps.getD d undef)
  |none=>x=.any
 sim:Cm fr ro' σ' H' w'
 ev:Qe fr ro w ro' w'
 ext:Dh ro σ w ro' σ' w'
 holes:iW hB hE σ' H'
 take:σ'.take hB=σ.take hB
theorem Y0.use{ds:AA Nat}{i:Nat}{H:Qb}(hb:Y0 P N l ds xs env0 hB hE i H H'){K:Act->AJ->Prop}{a:Act}{o:AM}(ho:l[i]?=AC o)
  (f:Cm fr ro σ H w)(hN:a.tmps.size=N)(F:I2 fr a.defers w)(ad:HU rd fr w)(hh:iW hB hE σ H)(hl:hE<=H.length)(am:hB<=hE)
  (hD:∀j∈Qc o,∀s x,ds[j]?=AC s->xs[j]?=AC x->VR ro σ w x (a.tmps.getD s undef))
  (hO:∀s,ds.contains s=AD->VR ro σ w (lk env0 s) (a.tmps.getD s undef))(hP:∀j s,(OJ l i).contains j=AE->ds[j]?=AC s->VR ro σ w (lk env0 s) (a.tmps.getD s undef))
  (hK:∀v w' ro' σ',iH fr ro σ w hB hE H' xs i o (a.put o.dst v) w' ro' σ'->K (a.put o.dst v) w'):
  wpOpIn (WF rd) 0 P l.toArray Q i K a w:=by
 have aa:∀{e:Env} {H2:Qb} {E:Exit} {V:Act} {w':AJ},IS H.length fr ro σ w N a.defers (YE e H2) E V w'->E=.normal/\V.defers=a.defers:=by
  rintro e H2 E V w' ⟨x,_,_,_,_,_,m,⟨rfl,_⟩,_,_,_,X,_⟩;refine⟨?_,X⟩;cases E<;>first|rfl|exact m.elim|cases m
 have aj:∀{σ':Cp} {w':AJ},Qe fr ro w ro w'->σ'.take H.length=σ.take H.length->True:=λ_ _=>trivial;have Y:∀{e:Env} {V:Act} {w':AJ},IS H.length fr ro σ w N a.defers (YE e H') .normal V w'->YU hB hE H H'=AE->
   ∃ro' σ',Cm fr ro' σ' H' w'/\Qe fr ro w ro' w'/\Dh ro σ w ro' σ' w'/\iW hB hE σ' H'/\σ'.take hB=σ.take hB/\ ∀s,VR ro' σ' w' (lk e s) (V.tmps.getD s undef):=by
  rintro e V w' ⟨_,ak,H2,ro',σ',an,_,⟨_,rfl,rfl⟩,r',he,ht,_,ai⟩ G;have hσ:σ'=σ++σ'.drop H.length:=by
   conv=>lhs;rw[<- XA H.length σ']
   rw[ht, <- f.len,Vc]
  refine⟨ro',σ',r'.sim.frMono ai.sub,he,?_,?_,?_,r'.env⟩
  .rw[hσ];exact he.ext σ _
  .intro p m X h3;have:=hh p m X (Qmw G m X h3);rw[hσ,XN (by rw[f.len];omega)];exact this
  .rw[hσ];exact QJ (by rw[f.len];omega)
 cases hb with
 |woE J e d x g T hx he G h=>
  obtain rfl:J=o:=X0 (g.symm.trans ho);have hr:∀s,VR ro σ w (lk e s) (a.tmps.getD s undef):=λs=>by
   rcases he s with⟨j,x,m,X,h3,L⟩|L|⟨m,L⟩
   .rw[L];exact hD j (by simpa using m) s x X h3
   .rw[L];exact trivial
   .rw[L];exact hO s m
  refine T9 ho (h rd fr ro σ a w ⟨f,hr,hN,F⟩ ad) (λ_ _ _ q=>aa q) (λv w' q=>?_);obtain⟨ro',σ',g1,g2,O,g4,g5,g6⟩:=Y q G;refine hK v w' ro' σ' ⟨λy hy=>?_,g1,g2,O,g4,g5⟩;obtain rfl:=X0 (hx.symm.trans hy);have:=g6 d;unfold lk at this;rw[VI]at this;rw[T]at this⊢;exact this
 |unitE J e g T hx G he h=>
  obtain rfl:J=o:=X0 (g.symm.trans ho);have hr:∀s,VR ro σ w (lk e s) (a.tmps.getD s undef):=λs=>by
   rcases he s with⟨j,x,m,X,h3,L⟩|L|⟨m,L⟩
   .rw[L];exact hD j (by simpa using m) s x X h3
   .rw[L];exact trivial
   .rw[L];exact hO s m
  refine T9 ho (h rd fr ro σ a w ⟨f,hr,hN,F⟩ ad) (λ_ _ _ q=>aa q) (λv w' q=>?_);obtain⟨ro',σ',g1,g2,O,g4,g5,g6⟩:=Y q G;refine hK v w' ro' σ' ⟨λy hy=>?_,g1,g2,O,g4,g5⟩;obtain rfl:=X0 (hx.symm.trans hy);rw[T]
 |mk J e d x g T hx G hs h=>
  obtain rfl:J=o:=X0 (g.symm.trans ho);refine T9 ho (h rd fr ro σ a w ⟨f,hs.rel hD hO hP,hN,F⟩ ad) (λ_ _ _ q=>aa q) (λv w' q=>?_);obtain⟨ro',σ',g1,g2,O,g4,g5,g6⟩:=Y q G;refine hK v w' ro' σ' ⟨λy hy=>?_,g1,g2,O,g4,g5⟩;obtain rfl:=X0 (hx.symm.trans hy);have:=g6 d;unfold lk at this;rw[VI]at this;rw[T]at this⊢;exact this
 |unit J e g T hx G hs h=>
  obtain rfl:J=o:=X0 (g.symm.trans ho);refine T9 ho (h rd fr ro σ a w ⟨f,hs.rel hD hO hP,hN,F⟩ ad) (λ_ _ _ q=>aa q) (λv w' q=>?_);obtain⟨ro',σ',g1,g2,O,g4,g5,g6⟩:=Y q G;refine hK v w' ro' σ' ⟨λy hy=>?_,g1,g2,O,g4,g5⟩;obtain rfl:=X0 (hx.symm.trans hy);rw[T]
 |val J e d x g T hg hx ab he h hH=>
  obtain rfl:J=o:=X0 (g.symm.trans ho);subst hH;have hr:DT fr ro σ H e N a w:=by
   refine⟨f,λs=>?_,hN,F⟩;rcases he s with⟨j,x,m,X,h3,L⟩|L|⟨m,L⟩
   .rw[L];exact hD j (by simpa using m) s x X h3
   .rw[L];exact trivial
   .rw[L];exact hO s m
  obtain⟨v0,m,X⟩:=h fr ro σ N a w hr;have hw:Region.wanted J (yielded l.toArray a.tmps)=true:=by unfold Region.wanted;rw[hg]
  refine T9 (R:=λE V w'=>E=.normal/\V.defers=a.defers/\V=a.put J.dst v0/\w'=w) ho (Jt hw m ?_) (λ_ _ _ q=>⟨q.1,q.2.1⟩) (λv w' q=>?_)
  .unfold Fc wpListIn;refine⟨rfl,?_,rfl,rfl⟩;rw[T];rfl
  .obtain⟨_,_,q1,rfl⟩:=q;refine hK v _ ro σ ⟨λy hy=>?_,f,Qe.refl _ _ _,⟨λ_ q=>q,λ_ _=>rfl,λ_ _ q=>q,λ_ _ q=>q⟩,hh,rfl⟩;obtain rfl:=X0 (hx.symm.trans hy);rw[q1,T];have ac:d<a.tmps.size:=by rw[hN];simpa using ab
   show VR ro σ w' x _;simpa[Act.put,Array.getD_eq_getD_getElem?,ac]using X
 |row J e d p x B g T hg hx hp W hlive hH hs h ab=>
  obtain rfl:J=o:=X0 (g.symm.trans ho);subst hH;simp only[XX]at hp;have ae:=XS hp.1;have ag:p<hE:=by simpa using hp.2
  have hσp:=hh p ae ag W;have hr:DT fr ro σ H e N a w:=⟨f,hs.rel hD hO hP,hN,F⟩;obtain⟨v0,ah,m,h3⟩:=h fr ro σ N a w hr;have hw:Region.wanted J (yielded l.toArray a.tmps)=true:=by unfold Region.wanted;rw[hg]
  have ev:Qe fr ro w ro (w.alloc ah):=Qe.alloc _ f.roLt f.frLt;have af:p<σ.length:=by rw[f.len];omega
  have M:Dh ro σ w ro (σ.set p (AC w.heap.size)) (w.alloc ah):=⟨ev.sub,ev.keepRo,ev.shape,λj b q=>by
   rw[XQ (λz=>by subst z;rw[hσp]at q;cases q)];exact q⟩
  obtain⟨g8,g9⟩:=h3 _ (Xa af) M;refine T9 (R:=λE V w'=>E=.normal/\V.defers=a.defers/\V=a.put J.dst v0/\w'=w.alloc ah) ho (Jt hw m ?_) (λ_ _ _ q=>⟨q.1,q.2.1⟩) (λv w' q=>?_)
  .unfold Fc wpListIn;refine⟨rfl,?_,rfl,rfl⟩;rw[T];rfl
  .obtain⟨_,_,q1,rfl⟩:=q;refine hK v _ ro (σ.set p (AC w.heap.size)) ⟨λy hy=>?_,f.allocAt hσp g9,ev,M,λp' g1 g2 O=>?_,?_⟩
   .obtain rfl:=X0 (hx.symm.trans hy);rw[q1,T];have ac:d<a.tmps.size:=by rw[hN];simpa using ab
    show VR ro _ _ x _;simpa[Act.put,Array.getD_eq_getD_getElem?,ac]using g8
   .by_cases q:p'=p
    .subst q;rw[Xa om,hlive]at O;cases O
    .rw[XQ (λz=>q z.symm)]at O⊢;exact hh p' g1 g2 O
   .rw[List.take_set,List.set_eq_of_length_le];rw[Xz];omega
 |alloc J d t p cs g T hg hx hp W hH h ab=>
  obtain rfl:J=o:=X0 (g.symm.trans ho);subst hH;simp only[XX]at hp;have ae:=XS hp.1;have ag:p<hE:=by simpa using hp.2
  have hσp:=hh p ae ag W;obtain⟨lv,m,X,h3⟩:=h ro σ w a;have hw:Region.wanted J (yielded l.toArray a.tmps)=true:=by unfold Region.wanted;rw[hg]
  have ev:Qe fr ro w ro (w.alloc (.cells lv.toArray t)):=Qe.alloc _ f.roLt f.frLt;have af:p<σ.length:=by rw[f.len];omega
  have M:Dh ro σ w ro (σ.set p (AC w.heap.size)) (w.alloc (.cells lv.toArray t)):=⟨ev.sub,ev.keepRo,ev.shape,λj b q=>by
   rw[XQ (λz=>by subst z;rw[hσp]at q;cases q)];exact q⟩
  refine T9 (R:=λE V w'=>E=.normal/\V.defers=a.defers/\V=a.put J.dst (.pointer (AC ⟨w.heap.size,0,AF⟩))/\w'=w.alloc (.cells lv.toArray t)) ho (Jt hw m ?_) (λ_ _ _ q=>⟨q.1,q.2.1⟩) (λv w' q=>?_)
  .unfold Fc wpListIn;refine⟨rfl,?_,rfl,rfl⟩;rw[T];rfl
  .obtain⟨_,_,q1,rfl⟩:=q;refine hK v _ ro (σ.set p (AC w.heap.size)) ⟨λy hy=>?_,f.allocAt hσp ⟨lv,Yo _ _,X.mono M,h3⟩,ev,M,λp' g1 g2 O=>?_,?_⟩
   .obtain rfl:=X0 (hx.symm.trans hy);rw[q1,T];have ac:d<a.tmps.size:=by rw[hN];simpa using ab
    refine⟨w.heap.size,Xa af,?_⟩;simp[Act.put,Array.getD_eq_getD_getElem?,ac]
   .by_cases q:p'=p
    .subst q;rw[Xa om]at O;cases O
    .rw[XQ (λz=>q z.symm)]at O⊢;exact hh p' g1 g2 O
   .rw[List.take_set,List.set_eq_of_length_le];rw[Xz];omega
def HO(a b:AA Nat):Bool:=a.all (b.contains ·)&&b.all (a.contains ·)
theorem QpH{a b:AA Nat}(h:HO a b=AE)(i:Nat):i∈a↔i∈b:=by
 unfold HO at h;simp only[XX,Xs,List.contains_iff_mem]at h;exact⟨h.1 i,h.2 i⟩
structure mX (l:List AM) (m:Nat) (ds:List Nat) (hs:List Bool) (rq ms:List (List Nat)) (pl:List (List (Nat×Nat))) (N:Nat):Prop where
 len:m<=l.length
 dst:∀i o,i<m->l[i]?=AC o->(∃d,o.dst=AC d/\ds[i]?=AC d/\d<N)\/o.dst=AF
 dsl:ds.length=m
 nodup:∀(i j d:Nat),ds[i]?=AC d->ds[j]?=AC d->i=j
 back:∀i o,l[i]?=AC o->∀j∈Qc o,j<i
 mid:∀o,l[m]?=AC o->∀j,j<m->NY l m j
 chain:∀i o,m<i->l[i]?=AC o->i-1∈Qc o
 rqs:∀i o,i<m->l[i]?=AC o->∀h∈rq.getD i [],h<m/\hs.getD h AD=AE/\(h∈Qc o\/ ∃j∈Qc o,j<m/\h∈rq.getD j [])
 ms0:ms.getD 0 []=[]
 full:∀st,st<ms.length->st+1=ms.length\/ ∃i,i<m/\hs.getD i AD=AE/\i∉ms.getD st []
 msh:∀st h,h∈ms.getD st []->h<m/\hs.getD h AD=AE
 pls:∀i st,i<m->st<ms.length->(∀h∈rq.getD i [],h∈ms.getD st [])->(hs.getD i AD=AE->i∉ms.getD st [])->(∀h∈ms.getD st [],¬NY l h i)->
  ∃st',(st,st')∈pl.getD i []/\st'<ms.length/\if hs.getD i AD then∀j,j∈ms.getD st' []↔j=i\/j∈ms.getD st []else st'=st
theorem rn{α:Type}{l:AA α}{i:Nat}{d x:α}(h:l[i]?=AC x):l.getD i d=x:=by rw[VO,h];rfl
variable {hs:AA Bool}
theorem uC{m:Nat}{ds:AA Nat}{rq ms:AA (AA Nat)}{pl:AA (AA (Nat×Nat))}{Hs:AA Qb}{Hk:Qb}
  (ok:mX l m ds hs rq ms pl N)(az:xs.length=m)(be:Hs.length=ms.length)(bb:h0<=hB)(a6:hB<=hE)(a4:∀H∈Hs,hE<=H.length)
  (a2:∀i p,i<m->p∈pl.getD i []->Y0 P N l ds xs env0 hB hE i (Hs.getD p.1 []) (Hs.getD p.2 []))(a0:Hs.getD (ms.length-1) []=Hk)
  {ro0:Nat->Prop}{σ0:Cp}{w0:AJ}{ds0:AA Deferred}
  (hk:∀ro σ a w,DT fr ro σ Hk (IT ds xs env0) N a w->Qe fr ro0 w0 ro w->σ.take h0=σ0.take h0->a.defers=ds0->Fc P rd l.toArray R (l.drop m) a w)(ai:I2 fr ds0 w0)(a8:HU rd fr w0):
  ∀(f:Nat) (L:Array Bool) (a:Act) (w:AJ) (ro:Nat->Prop) (σ:Cp) (st:Nat),
   L.size=l.length->Nl L<=f->(∀i,m<=i->¬FF L i)->st<ms.length->Cm fr ro σ (Hs.getD st []) w->a.tmps.size=N->a.defers=ds0->
   (∀(i d:Nat) (x:A),FF L i->ds[i]?=AC d->xs[i]?=AC x->VR ro σ w x (a.tmps.getD d undef))->(∀s,(∀j,ds[j]?=AC s->¬FF L j)->VR ro σ w (lk env0 s) (a.tmps.getD s undef))->
   Qe fr ro0 w0 ro w->σ.take h0=σ0.take h0->iW hB hE σ (Hs.getD st [])->
   (∀i,i<m->FF L i->∀h∈rq.getD i [],FF L h)->(∀i,i<m->hs.getD i AD=AE->(FF L i↔i∈ms.getD st []))->
   (∀i o,FF L i->l[i]?=AC o->∀j∈Qc o,FF L j)->
   wpAnyIn (WF rd) 0 P .any l.toArray R f L a w:=by
 have av:∀st,st<ms.length->hE<=(Hs.getD st []).length:=by
  intro st h;have e:Hs[st]?=AC Hs[st]:=XL om;rw[rn e];exact a4 _ (Vg _)
 have fin:∀(f:Nat) (L:Array Bool) (a:Act) (w:AJ) (ro:Nat->Prop) (σ:Cp) (st:Nat),
   L.size=l.length->Nl L<=f->(∀i,m<=i->¬FF L i)->st<ms.length->Cm fr ro σ (Hs.getD st []) w->a.tmps.size=N->a.defers=ds0->
   (∀(i d:Nat) (x:A),FF L i->ds[i]?=AC d->xs[i]?=AC x->VR ro σ w x (a.tmps.getD d undef))->(∀s,(∀j,ds[j]?=AC s->¬FF L j)->VR ro σ w (lk env0 s) (a.tmps.getD s undef))->
   Qe fr ro0 w0 ro w->σ.take h0=σ0.take h0->
   (∀i,i<m->hs.getD i AD=AE->(FF L i↔i∈ms.getD st []))->(∀i,i<m->FF L i)->
   wpAnyIn (WF rd) 0 P .any l.toArray R f L a w:=by
  intro f L a w ro σ st hsz hu hsuf hst hsim hN hdef hD hE' hev htk hI2 B;have an:st=ms.length-1:=by
   rcases ok.full st hst with q|⟨i,V,h2,h3⟩
   .omega
   .exact absurd ((hI2 i V h2).1 (B i V)) h3
  rw[an,a0]at hsim;refine Qmv ok.back ok.chain f m L a w hsz (λi hi=>⟨λq=>?_,λq=>B i q⟩) hu (XU _) ok.len ?_
  .rcases VE i m with z|z
   .exact z
   .exact absurd q (hsuf i z)
  .have hr:DT fr ro σ Hk (IT ds xs env0) N a w:=by
    refine⟨hsim,λs=>?_,hN,by rw[hdef];exact ai.keep hev⟩;rcases QpS (env0:=env0) (by rw[ok.dsl,az]) s with⟨j,x,V,h2,h3⟩|⟨V,h2⟩
    .rw[h3];have g:j<m:=by have:=(XM.1 V).1;rw[ok.dsl]at this;exact this
     exact hD j s x (B j g) V h2
    .rw[h2];exact hE' s (λj q=>absurd (VK q) (by simpa using V))
   exact hk ro σ a w hr hev htk hdef
 intro f
 induction f with
 |zero=>
  intro L a w ro σ st hsz hu hsuf hst hsim hN hdef hD hE' hev htk hho hI1 hI2 hcl;refine fin 0 L a w ro σ st hsz hu hsuf hst hsim hN hdef hD hE' hev htk hI2 (λi hi=>?_);by_cases q:FF L i
  .exact q
  .have:=tn (L:=L) (i:=i) (by have:=ok.len;omega) q;omega
 |succ f ih=>
  intro L a w ro σ st hsz hu hsuf hst hsim hN hdef hD hE' hev htk hho hI1 hI2 hcl;by_cases B:∀i,i<m->FF L i
  .exact fin (f+1) L a w ro σ st hsz hu hsuf hst hsim hN hdef hD hE' hev htk hI2 B
  .have ba:∃i,i<m/\ ¬FF L i:=by
    refine Classical.byContradiction λq=>B λi hi=>Classical.byContradiction λz=>q ⟨i,hi,z⟩
   obtain⟨n,hn,ak⟩:=ba;obtain⟨i0,V,h2,h3⟩:=cU (p:=λi=>¬FF L i) (λi=>Classical.em _) n ak;have bd:=ok.len;have ao:l[i0]?=AC l[i0]:=XL om;have hr:i0∈Region.ready .any l.toArray L:=(aU hsz).2 ⟨_,ao,h2,λj g=>Classical.byContradiction λz=>h3 j (ok.back i0 _ ao j g) z⟩;refine⟨λq=>(by rw[q]at hr;cases hr),λi hi=>?_⟩;obtain⟨o,X,aa,M⟩:=(aU hsz).1 hi;have G:i<m:=by
    rcases VE i m with q|q
    .exact q
    .exfalso;rcases VE m i with z|z
     .exact hsuf (i-1) om (M _ (ok.chain i o z X))
     .have:i=m:=by omega
      subst this;have ay:∀j,NY l i j->FF L j:=by
       intro j g
       induction g with
       |one E g=>rw[X]at E;cases E;exact M _ g
       |step _ E g ihr=>exact hcl _ _ ihr E _ g
      exact ak (ay n (ok.mid o X n hn))
   have ag:∀h∈rq.getD i [],FF L h:=by
    intro h Y;obtain⟨_,_,q|⟨j,q1,q2,q3⟩⟩:=ok.rqs i o G X h Y
    .exact M h q
    .exact hI1 j q2 (M j q1) h q3
   obtain⟨a7,aq,a3,O⟩:=ok.pls i st G hst (λh Y=>by
    obtain⟨q1,q2,_⟩:=ok.rqs i o G X h Y;exact(hI2 h q1 q2).1 (ag h Y)) (λq z=>aa ((hI2 i G q).2 z)) (λh Y hR=>by
    obtain⟨q1,q2⟩:=ok.msh st h Y;have a1:FF L h:=(hI2 h q1 q2).2 Y;have ah:∀j,NY l h j->FF L j:=by
     intro j g
     induction g with
     |one E g=>exact hcl _ _ a1 E _ g
     |step _ E g ihr=>exact hcl _ _ ihr E _ g
    exact aa (ah i hR))
   have hb:=a2 i _ G aq;refine hb.use X hsim hN (by rw[hdef];exact ai.keep hev) (a8.to hev λ_ q=>q) hho (av st hst) a6 (λj g s x q1 q2=>hD j s x (M j g) q1 q2) (λs V=>hE' s (λj q=>absurd (VK q) (by simpa using V))) (λj s V h2=>hE' s (λj' q q'=>?_)) ?_
   .obtain rfl:=ok.nodup j' j s q h2;have g:=Xd.1 (List.contains_iff_mem.1 V);cases ae:l[j']? with
    |none=>rw[ae]at g;simp at g
    |some oj=>
     rw[ae]at g;exact aa (hcl j' oj q' ae i (by simpa using g.2))
   intro v w' a5 σ' af;have ab:=af.ext;have ac:∀s,(∀d,o.dst=AC d->s≠d)->(a.put o.dst v).tmps.getD s undef=a.tmps.getD s undef:=by
    intro s aw;cases hd:o.dst with
    |none=>rfl
    |some d=>
     simp only[Act.put,Array.getD_eq_getD_getElem?,Vh];rw[Vu (λq=>aw d hd q.symm)]
   have ad:(a.put o.dst v).tmps.size=N:=by
    cases hd:o.dst with
    |none=>simpa[Act.put]using hN
    |some d=>simpa[Act.put]using hN
   have ax:(a.put o.dst v).defers=ds0:=by
    cases hd:o.dst with
    |none=>simpa[Act.put]using hdef
    |some d=>simpa[Act.put]using hdef
   have bc:=nI (L:=L) (i:=i) om aa;have F:i<L.size:=om;have a9:∀s j,ds[j]?=AC s->j≠i->∀d,o.dst=AC d->s≠d:=by
    intro s j g J d hd q;subst q;rcases ok.dst i o G X with⟨d',t,W,am⟩|t
    .rw[hd]at t;cases t;exact J (ok.nodup j i _ g W)
    .rw[hd]at t;cases t
   refine ih _ _ w' a5 σ' a7 (by simpa using hsz) om (λj g q=>?_) a3 af.sim ad ax ?_ ?_ (hev.trans af.ev) ?_ af.holes ?_ ?_ ?_
   .rcases(JI F).1 q with z|z
    .omega
    .exact hsuf j g z
   .intro j s y g Q hy;by_cases J:j=i
    .subst J;have hv:=af.val y hy;rcases ok.dst j o G X with⟨d',t,W,am⟩|t
     .obtain rfl:s=d':=X0 (Q.symm.trans W);simp only[t]at hv⊢;exact hv
     .simp only[t]at hv;subst hv;exact trivial
    .rw[ac s (a9 s j Q J)];rcases(JI F).1 g with z|z
     .exact absurd z J
     .exact(hD j s y z Q hy).mono ab
   .intro s Q;have ar:∀d,o.dst=AC d->s≠d:=by
     rintro d hd rfl;rcases ok.dst i o G X with⟨d',t,W,am⟩|t
     .rw[hd]at t;cases t;exact Q i W ((JI F).2 (.inl rfl))
     .rw[hd]at t;cases t
    rw[ac s ar];exact(hE' s (λj q z=>Q j q ((JI F).2 (.inr z)))).mono ab
   .rw[<- htk];have:=congrArg (List.take h0) af.take;rw[List.take_take,List.take_take,XC bb]at this;exact this
   .intro j g T h Y;refine(JI F).2 (.inr ?_);rcases(JI F).1 T with z|z
    .subst z;exact ag h Y
    .exact hI1 j g z h Y
   .intro j g T;rw[JI F];cases q:hs.getD i AD with
    |false=>
     have J:j≠i:=by rintro rfl;rw[q]at T;cases T
     rw[q]at O;simp only[Xi,if_false]at O;simp only[J,false_or];rw[O];exact hI2 j g T
    |true=>
     rw[q]at O;simp only[if_true]at O;rw[O j,hI2 j g T]
   .intro j o' g E j' aj;rcases(JI F).1 g with z|z
    .subst z;rw[X]at E;cases E;exact(JI F).2 (.inr (M _ aj))
    .exact(JI F).2 (.inr (hcl j o' z E j' aj))
def HC.dstB(N:Nat):Nat->AA AM->AA Nat->Bool
 |_,_,[]=>AE
 |i,o::r,d::ds=>(match o.dst with|some d'=>Nat.beq d' d&&Nat.blt d N|none=>AE)&&HC.dstB N (i+1) r ds
 |_,[],_::_=>AD
def HC.rqB(m:Nat)(hs:AA Bool)(rq:AA (AA Nat)):Nat->AA AM->Bool
 |_,[]=>AE
 |i,o::r=>(rq.getD i []).all (λh=>Nat.blt h m&&hs.getD h AD&&((Qc o).contains h||(Qc o).any λj=>Nat.blt j m&&(rq.getD j []).contains h))&&HC.rqB m hs rq (i+1) r
def mv(l:AA AM)(h:Nat):AA Nat:=match l[h]? with
 |some o=>eZ l h (Qc o)
 |none=>[]
theorem QlW{h j:Nat}(q:j∈mv l h):NY l h j:=by
 unfold mv at q;cases d:l[h]? with
 |none=>rw[d]at q;cases q
 |some o=>rw[d]at q;exact jY h (Qc o) (λi f=>.one d f) j q
def HC.plB(l:AA AM)(m:Nat)(hs:AA Bool)(rq ms:AA (AA Nat))(pl:AA (AA (Nat×Nat))):Bool:=
 (List.range m).all λi=>(List.range ms.length).all λst=>((ms.getD st []).any λh=>(mv l h).contains i)|| !(rq.getD i []).all ((ms.getD st []).contains ·)||(hs.getD i AD&&(ms.getD st []).contains i)||
  (pl.getD i []).any λp=>Nat.beq p.1 st&&Nat.blt p.2 ms.length&&(bif hs.getD i AD then HO (ms.getD p.2 []) (i::ms.getD st [])else Nat.beq p.2 st)
def HC(l:AA AM)(m N:Nat)(ds:AA Nat)(hs:AA Bool)(rq ms:AA (AA Nat))(pl:AA (AA (Nat×Nat))):Bool:=
 Nat.ble m l.length&&(ds.length==m)&&HC.dstB N 0 l ds&&C6.nodupB ds&&C6.goB l m 0 l&&HC.rqB m hs rq 0 l&&(ms.getD 0 []).isEmpty&&Nat.blt 0 ms.length
 &&((List.range ms.length).all λst=>Nat.beq (st+1) ms.length||(List.range m).any λi=>hs.getD i AD&& !(ms.getD st []).contains i)&&HC.plB l m hs rq ms pl&&(List.range ms.length).all λst=>(ms.getD st []).all λh=>Nat.blt h m&&hs.getD h AD
theorem wA:∀(l:AA AM) (f:AA Nat) (b:Nat),HC.dstB N b l f=AE->∀(i d:Nat) (o:AM),l[i]?=AC o->f[i]?=AC d->
  (o.dst=AC d/\d<N)\/o.dst=none:=by
 intro l
 induction l with
 |nil=>intro f b h i d o g;simp at g
 |cons x r q=>
  intro f b h i d o g j;cases f with
  |nil=>simp at j
  |cons y f=>
   simp only[HC.dstB,XX]at h;cases i with
   |zero=>
    simp at g j;subst g;subst j;have h:=h.1;split at h
    .rename_i t m;simp only[XX]at h;have e:=XR h.1;subst e;exact .inl ⟨m,by simpa using h.2⟩
    .rename_i m;exact .inr m
   |succ i=>
    have:=q f (b+1) h.2 i d o (by simpa using g) (by simpa using j);exact this
theorem QnE{m:Nat}{f:AA (AA Nat)}:∀(l:AA AM) (b:Nat),HC.rqB m hs f b l=AE->∀(i:Nat) (o:AM),l[i]?=AC o->
  ∀h∈f.getD (b+i) [],h<m/\hs.getD h AD=AE/\(h∈Qc o\/ ∃j∈Qc o,j<m/\h∈f.getD j []):=by
 intro l
 induction l with
 |nil=>intro b h i o d;simp at d
 |cons x r y=>
  intro b h i o d;simp only[HC.rqB,XX]at h;cases i with
  |zero=>
   simp at d;subst d;intro k hk;have:=Xs.1 h.1 k (by simpa using hk);simp only[XX,Bool.or_eq_true,List.contains_iff_mem,Xt]at this;obtain⟨⟨B,F⟩,E⟩:=this;refine⟨by simpa using B,F,?_⟩;rcases E with q|⟨j,t,G,g⟩
   .exact .inl q
   .exact .inr ⟨j,t,by simpa using G,g⟩
  |succ i=>
   have:=y (b+1) h.2 i o (by simpa using d);rw[show b+1+i=b+(i+1)by omega]at this;exact this
theorem QoF{m:Nat}{F:AA Nat}{L E:AA (AA Nat)}{pl:AA (AA (Nat×Nat))}(h:HC l m N F hs L E pl=AE):
  mX l m F hs L E pl N/\0<E.length:=by
 unfold HC at h;simp only[XX]at h;obtain⟨⟨⟨⟨⟨⟨⟨⟨⟨⟨V,R⟩,h3⟩,T⟩,X⟩,h6⟩,W⟩,h8⟩,h9⟩,O⟩,P⟩:=h;have Q:m<=l.length:=XS V;have M:F.length=m:=by simpa using R
 have g:=ug l 0 X;refine⟨⟨Q,λi o G f=>?_,M,wr T,λi o f=>by have:=(g i o f).1;simpa using this,λo f j hj=>jY m (Qc o) (λi G=>.one f G) j ((g m o f).2.1 om j hj),
  λi o G f=>by have:=(g i o f).2.2 om;simpa using this,λi o G f h x=>by have:=QnE l 0 h6 i o f h (by simpa using x);exact this,
  by simpa using W,λy d=>?_,λy h x=>?_,λi y G d hr hn hx=>?_⟩,by simpa using h8⟩
 .have H:F[i]?=AC F[i]:=XL om;rcases wA l F 0 h3 i _ o f H with⟨B,J⟩|B
  .exact .inl ⟨_,B,H,J⟩
  .exact .inr B
 .have:=Xs.1 h9 y (List.mem_range.2 d);simp only[Bool.or_eq_true,Xt,XX,Bool.not_eq_true']at this;rcases this with q|⟨i,B,J,t⟩
  .exact .inl (XR q)
  .exact .inr ⟨i,List.mem_range.1 B,J,λz=>by rw[List.contains_iff_mem.2 z]at t;cases t⟩
 .have d:y<E.length:=by
   rcases VE y E.length with q|q
   .exact q
   .rw[VO,XP q]at x;cases x
  have:=Xs.1 (Xs.1 P y (List.mem_range.2 d)) h x;simp only[XX]at this;exact⟨by simpa using this.1,this.2⟩
 .have:=Xs.1 (Xs.1 O i (List.mem_range.2 G)) y (List.mem_range.2 d);simp only[Bool.or_eq_true,Bool.not_eq_true']at this;rcases this with((q|q)|q)|q
  .exfalso;obtain⟨h,x,q⟩:=Xt.1 q;exact hx h x (QlW (List.contains_iff_mem.1 q))
  .exfalso;have:((L.getD i []).all ((E.getD y []).contains ·))=true:=Xs.2 λh x=>List.contains_iff_mem.2 (hr h x);rw[this]at q;cases q
  .simp only[XX]at q;exact absurd (List.contains_iff_mem.1 q.2) (hn q.1)
  .obtain⟨p,Y,q⟩:=Xt.1 q;simp only[XX]at q;obtain⟨⟨B,J⟩,t⟩:=q;have e:=XR B;refine⟨p.2,by rw[<- e];exact Y,by simpa using J,?_⟩;cases z:hs.getD i AD with
   |true=>
    rw[z]at t;simp only[Vr]at t;simp only[if_true];intro j;rw[QpH t j,X9]
   |false=>
    rw[z]at t;simp only[Vs]at t;simp only[Xi,if_false];exact XR t
inductive FP (P:AK) (N:Nat) (l:List AM) (ds:List Nat) (xs:List A) (env0:Env) (hB hE:Nat):Nat->List (List (Qb×Qb))->Prop
 |nil {i:Nat}:FP P N l ds xs env0 hB hE i []
 |cons {i:Nat} {s:List (Qb×Qb)} {r:List (List (Qb×Qb))} (h:∀p∈s,Y0 P N l ds xs env0 hB hE i p.1 p.2) (k:FP P N l ds xs env0 hB hE (i+1) r):FP P N l ds xs env0 hB hE i (s::r)
theorem FP.get{f:AA Nat}{b:Nat}{g:AA (AA (Qb×Qb))}(h:FP P N l f xs env0 hB hE b g):
  ∀(i:Nat) (s:AA (Qb×Qb)),g[i]?=AC s->∀p∈s,Y0 P N l f xs env0 hB hE (b+i) p.1 p.2:=by
 induction h with
 |nil=>intro i s h;simp at h
 | @cons b s0 r h _ ih=>
  intro i s d;cases i with
  |zero=>simp at d;subst d;exact h
  |succ i=>
   have:=ih i s (by simpa using d);rw[show b+1+i=b+(i+1)by omega]at this;exact this
theorem QV{f:AA Nat}{i:Nat}:∀p∈([]:AA (Qb×Qb)),Y0 P N l f xs env0 hB hE i p.1 p.2:=by
 intro p d;cases d
theorem Ql{d:AA Nat}{i:Nat}{H:Qb}{r:AA (Qb×Qb)}(h:Y0 P N l d xs env0 hB hE i H H')
  (k:∀p∈r,Y0 P N l d xs env0 hB hE i p.1 p.2):∀p∈(H,H')::r,Y0 P N l d xs env0 hB hE i p.1 p.2:=by
 intro p f;rcases X9.1 f with rfl|q
 .exact h
 .exact k p q
variable {id:Nat}
theorem Qhr{env:Env}{H:Qb}{a:Act}(m c:Nat)(ds:AA Nat)(hs:AA Bool)(rq W:AA (AA Nat))(pl:AA (AA (Nat×Nat)))(xs:AA A)(Hs:AA Qb)(Hk:Qb)
  (hm:P.follows .mixedOrders=AE)(hc:HC l m N ds hs rq W pl=AE)(aa:Nat.beq xs.length m=AE)(ae:Nat.beq Hs.length W.length=AE)(af:Nat.ble h0 H.length=AE)
  (hh:Hs.all (λX=>Nat.ble (H.length+c) X.length)=AE)(ah:Hs[0]?=AC (H++List.replicate c .dead))(ab:Hs.getD (W.length-1) []=Hk)
  (ac:FP P N l ds xs env H.length (H.length+c) 0 (pl.map λq=>q.map λp=>(Hs.getD p.1 [],Hs.getD p.2 [])))(Y:Nat.beq pl.length m=AE)
  (r:DT fr ro σ H env N a w)(ad:HU rd fr w)
  (hk:∀ro' σ' a' w',DT fr ro' σ' Hk (IT ds xs env) N a' w'->Qe fr ro w ro' w'->σ'.take h0=σ.take h0->a'.defers=a.defers->Fc P rd l.toArray R (l.drop m) a' w'):(Code.region id l.toArray AE).wpIn (WF rd) 0 P R a w:=by
 obtain⟨ok,L⟩:=QoF hc;have G:=XR aa;have Q:=XR ae;have ai:=XR Y;have J:Qe fr ro w ro {w with drawn:=w.drawn+1}:=⟨λ_ q=>q,λ_ _=>rfl,λ_ _=>rfl,XU _,λ_ _ q=>q,rfl,rfl,rfl,Nat.le_succ _⟩;have E:Dh ro σ w ro (σ++List.replicate c AF) {w with drawn:=w.drawn+1}:=J.ext σ _;have ag:=r.sim.len;have T:Hs.getD 0 []=H++List.replicate c .dead:=rn ah;have B:∀(i:Nat) (s:AB Nat) (x:Ci),(σ++List.replicate c AF)[i]?=AC s->(H++List.replicate c Ci.dead)[i]?=AC x->(σ[i]?=AC s/\H[i]?=AC x)\/(s=AF/\x=.dead):=by
  intro i s x h g;rcases VE i σ.length with q|q
  .rw[XN q]at h;rw[XN om]at g;exact .inl ⟨h,g⟩
  .rw[XO q]at h;rw[XO om]at g;have a1:=VK h;have a2:=VK g;exact .inr ⟨(List.mem_replicate.1 a1).2,(List.mem_replicate.1 a2).2⟩
 have M:Cm fr ro (σ++List.replicate c AF) (H++List.replicate c .dead) {w with drawn:=w.drawn+1}:=by
  refine⟨by simp[ag],r.sim.roOk.to (λ_ q=>q) (λ_ _=>rfl) r.sim.roLt,r.sim.frLt,r.sim.roFr,?_,?_,?_⟩
  .intro i b blk h g V;rcases B i _ _ h g with⟨t,F⟩|⟨t,_⟩
   .exact r.sim.own i b blk t F V
   .cases t
  .intro i j b x y h g V h4 h5 h6;rcases B i _ _ h V with⟨t,F⟩|⟨t,_⟩
   .rcases B j _ _ g h4 with⟨q3,q4⟩|⟨q3,_⟩
    .exact r.sim.inj i j b x y t q3 F q4 h5 h6
    .cases q3
   .cases t
  .intro i s x h g;rcases B i _ _ h g with⟨t,F⟩|⟨t,F⟩
   .exact BR.keep E (λb hb _=>rfl) (r.sim.blk i s x t F)
   .subst F;exact trivial
 have f:∀i,¬FF (Array.replicate l.length AD) i:=by
  intro i q;unfold FF at q;rw[Array.getElem?_replicate]at q;split at q<;>simp at q
 have O:=XS af;refine wpIn_region_any hm ?_;rw[List.size_toArray];refine uC ok G Q O (Nat.le_add_right _ _) (λX hX=>XS (Xs.1 hh X hX)) ?_ ab (ro0:=ro) (σ0:=σ) (w0:=w) (ds0:=a.defers) hk r.defers ad
  l.length _ a _ ro (σ++List.replicate c AF) 0 sq ?_ (λi _=>f i) L (by rw[T];exact M) r.size rfl (λi d x q=>absurd q (f i)) (λs _=>(r.env s).mono E) J (QJ om) ?_
  (λi _ q=>absurd q (f i)) (λi _ _=>⟨λq=>absurd q (f i),λq=>by rw[ok.ms0]at q;cases q⟩) (λi o q=>absurd q (f i))
 .intro i p hi hp;have e:(pl.map λq=>q.map λp=>(Hs.getD p.1 [],Hs.getD p.2 []))[i]?=AC ((pl.getD i []).map λp=>(Hs.getD p.1 [],Hs.getD p.2 [])):=by
   rw[Xo,XL om,VO,XL om];rfl
  have:=ac.get i _ e _ (Xe.2 ⟨p,hp,rfl⟩);simpa using this
 .unfold Nl;simp[List.countP_replicate]
 .intro p h g V;rw[XO om,List.getElem?_replicate,Vv om]
theorem UI{env:Env}{H:Qb}{Q:Qx}(m c:Nat)(g:AA Nat)(hs:AA Bool)(F f:AA (AA Nat))(pl:AA (AA (Nat×Nat)))(xs:AA A)(Hs:AA Qb)(Hk:Qb)
  (L:P.follows .mixedOrders=AE)(M:HC l m N g hs F f pl=AE)(t:Nat.beq xs.length m=AE)(j:Nat.beq Hs.length f.length=AE)(y:Nat.ble h0 H.length=AE)
  (G:Hs.all (λX=>Nat.ble (H.length+c) X.length)=AE)(E:Hs[0]?=AC (H++List.replicate c .dead))(x:Hs.getD (f.length-1) []=Hk)
  (B:FP P N l g xs env H.length (H.length+c) 0 (pl.map λq=>q.map λp=>(Hs.getD p.1 [],Hs.getD p.2 [])))(h:Nat.beq pl.length m=AE)
  (hk:WO P h0 N l.toArray (l.drop m) (IT g xs env) Hk Q):TC P h0 N (.region id l.toArray AE) env H Q:=by
 intro J O R σ a w r hrd;refine Code.wpIn_mono (λe a w q=>IS.postW q) (Qhr m c g hs F f pl xs Hs Hk L M t j y G E x B h r hrd λro' σ' a' w' hr hev htk hdf=>?_);have d:=hk J O ro' σ' a' w' hr (hrd.to hev λ_ q=>q);rw[hdf]at d;exact Yq (λe a w q=>q.step hev htk) _ _ _ d
def draw0(l:AA AM)(m N:Nat)(ds:AA Nat):Bool:=Nat.ble m l.length&&(ds.length==m)&&HC.dstB N 0 l ds&&C6.nodupB ds&&C6.goB l m 0 l
inductive Oq (P:AK) (N:Nat) (l:List AM) (ds:List Nat) (xs:List A) (env0:Env) (H:Qb):Nat->Nat->Prop
 |n {i:Nat}:Oq P N l ds xs env0 H i 0
 |c {i c:Nat} (h:Y0 P N l ds xs env0 H.length H.length i H H) (k:Oq P N l ds xs env0 H (i+1) c):Oq P N l ds xs env0 H i (c+1)
theorem Oq.get{d:AA Nat}{H:Qb}{b c:Nat}(h:Oq P N l d xs env0 H b c):∀i,i<c->Y0 P N l d xs env0 H.length H.length (b+i) H H:=by
 induction h with
 |n=>intro i f;omega
 | @c b c h _ ih=>
  intro i f;cases i with
  |zero=>exact h
  |succ i=>
   have:=ih i om;rw[show b+1+i=b+(i+1)by omega]at this;exact this
theorem QoG{m:Nat}{q:AA Nat}(h:draw0 l m N q=AE):mX l m q [] [] [[]] (List.replicate m [(0,0)]) N:=by
 unfold draw0 at h;simp only[XX]at h;obtain⟨⟨⟨⟨M,J⟩,P⟩,L⟩,O⟩:=h;have G:m<=l.length:=XS M;have F:q.length=m:=by simpa using J
 have g:=ug l 0 O;refine⟨G,λi o t f=>?_,F,wr L,λi o f=>by have:=(g i o f).1;simpa using this,λo f j H=>jY m (Qc o) (λi t=>.one f t) j ((g m o f).2.1 om j H),
  λi o t f=>by have:=(g i o f).2.2 om;simpa using this,λi o t f h B=>by simp at B,rfl,λy d=>.inl (by simp at d;simp[d]),λy h B=>by cases y<;>simp at B,λi y t d _ _ _=>?_⟩
 .have x:q[i]?=AC q[i]:=XL om;rcases wA l q 0 P i _ o f x with⟨E,Q⟩|E
  .exact .inl ⟨_,E,x,Q⟩
  .exact .inr E
 .have:y=0:=by simp at d;exact d
  subst this;refine⟨0,?_,sq,sq⟩;rw[VO,List.getElem?_replicate,Vv t];exact VD.2 rfl
theorem Qhs{env:Env}{H:Qb}{a:Act}(m:Nat)(F:AA Nat)(xs:AA A)
  (M:P.follows .mixedOrders=AE)(O:Go.Sw.draw0 l m N F=AE)(G:Nat.beq xs.length m=AE)(y:Nat.ble h0 H.length=AE)
  (B:Oq P N l F xs env H 0 m)(r:DT fr ro σ H env N a w)(E:HU rd fr w)
  (hk:∀ro' σ' a' w',DT fr ro' σ' H (IT F xs env) N a' w'->Qe fr ro w ro' w'->σ'.take h0=σ.take h0->a'.defers=a.defers->Fc P rd l.toArray R (l.drop m) a' w'):(Code.region id l.toArray AE).wpIn (WF rd) 0 P R a w:=by
 have ok:=QoG O;have j:=XR G;have t:Qe fr ro w ro {w with drawn:=w.drawn+1}:=⟨λ_ q=>q,λ_ _=>rfl,λ_ _=>rfl,XU _,λ_ _ q=>q,rfl,rfl,rfl,Nat.le_succ _⟩;have g:Dh ro σ w ro σ {w with drawn:=w.drawn+1}:=t.ext0 σ;have h:Cm fr ro σ H {w with drawn:=w.drawn+1}:=r.sim.heap rfl;have f:∀i,¬FF (Array.replicate l.length AD) i:=by
  intro i q;unfold FF at q;rw[Array.getElem?_replicate]at q;split at q<;>simp at q
 refine wpIn_region_any M ?_;rw[List.size_toArray];refine uC (hB:=H.length) (hE:=H.length) (Hs:=[H]) (Hk:=H) ok j rfl (XS y) (XU _) (λX hX=>by rw[VD.1 hX];exact XU _) ?_ rfl (ro0:=ro) (σ0:=σ) (w0:=w) (ds0:=a.defers) hk r.defers E
  l.length _ a _ ro σ 0 sq ?_ (λi _=>f i) sq h r.size rfl (λi d x q=>absurd q (f i)) (λs _=>(r.env s).mono g) t rfl (λp T Q=>om)
  (λi _ q=>absurd q (f i)) (λi _ _=>⟨λq=>absurd q (f i),λq=>by cases q⟩) (λi o q=>absurd q (f i))
 .intro i p L J;rw[VO,List.getElem?_replicate,Vv L]at J;obtain rfl:=VD.1 J;have:=B.get i L;rw[Xx]at this;exact this
 .unfold Nl;simp[List.countP_replicate]
theorem TC.draw0{P:AK}{h0 N:Nat}{id:Nat}{l:AA AM}{env:Env}{H:Qb}{Q:Qx}(m:Nat)(f:AA Nat)(xs:AA A)
  (t:P.follows .mixedOrders=AE)(B:Go.Sw.draw0 l m N f=AE)(j:Nat.beq xs.length m=AE)(g:Nat.ble h0 H.length=AE)
  (h:Oq P N l f xs env H 0 m)(hk:WO P h0 N l.toArray (l.drop m) (IT f xs env) H Q):TC P h0 N (.region id l.toArray AE) env H Q:=by
 intro y x E σ a w r hrd;refine Code.wpIn_mono (λe a w q=>IS.postW q) (Qhs m f xs t B j g h r hrd λro' σ' a' w' hr hev htk hdf=>?_);have d:=hk y x ro' σ' a' w' hr (hrd.to hev λ_ q=>q);rw[hdf]at d;exact Yq (λe a w q=>q.step hev htk) _ _ _ d
section
variable {P:AK} {N:Nat} {l:AA AM} {ds af bf:AA Nat} {xs:AA A} {env0 e r:Env} {H H':Qb} {i hB hE:Nat} {o:AM} {d s:Nat} {x a:A}
theorem sN:Sb af bf ds xs env0 []:=.nil
theorem sD(j:Nat)(k:Sb af bf ds xs env0 r)(d:af.contains j=true:=by rfl)(h2:ds[j]?=AC s:=by rfl)(h3:xs[j]?=AC a:=by rfl):Sb af bf ds xs env0 ((s,a)::r):=.dep j d h2 h3 k
theorem sP(j:Nat)(k:Sb af bf ds xs env0 r)(d:bf.contains j=true:=by rfl)(h2:ds[j]?=AC s:=by rfl)(h3:lk env0 s=a:=by rfl):Sb af bf ds xs env0 ((s,a)::r):=.pre j d h2 h3 k
theorem sO(s:Nat)(k:Sb af bf ds xs env0 r)(d:ds.contains s=false:=by rfl)(h2:lk env0 s=a:=by rfl):Sb af bf ds xs env0 ((s,a)::r):=.old d h2 k
theorem jt(H:Qb):YU hB hE H H=true:=by
 unfold YU;refine Xs.2 λp _=>?_;cases MD H[hB+p]? <;>rfl
theorem Om(g:l[i]?=AC o)(hs:Sb (Qc o) (OJ l i) ds xs env0 e)(h:WO P H.length N l.toArray [o] e H (YE (up e d x) H))(f:o.dst=AC d:=by rfl)(hx:xs[i]?=AC x:=by rfl):Y0 P N l ds xs env0 hB hE i H H:=
 .mk o e d x g f hx (jt H) hs h
theorem So(g:l[i]?=AC o)(hs:Sb (Qc o) (OJ l i) ds xs env0 e)(h:WO P H.length N l.toArray [o] e H (YE (up e d x) H'))(f:o.dst=AC d:=by rfl)(hx:xs[i]?=AC x:=by rfl)(hdd:YU hB hE H H'=true:=by rfl):Y0 P N l ds xs env0 hB hE i H H':=
 .mk o e d x g f hx hdd hs h
theorem xS(f:l[i]?=AC o)(hs:Sb (Qc o) (OJ l i) ds xs env0 e)(h:WO P H.length N l.toArray [o] e H (YE e H'))(d:o.dst=none:=by rfl)(hx:xs[i]?=AC .any:=by rfl)(hdd:YU hB hE H H'=true:=by rfl):Y0 P N l ds xs env0 hB hE i H H':=
 .unit o e f d hx hdd hs h
end
structure Tm where
 fld:List (Nat×Nat×Nat)
 agg:List (Nat×Bool×Nat)
 zer:List (Nat×List A×List (Nat×Nat))
structure Tl (P:AK) (T:Tm):Prop where
 fld:∀e∈T.fld,∃n,Yc P e.1 e.2.1 e.2.2 n
 agg:∀e∈T.agg,(∀w,(isAgg e.1).run P w=.ok e.2.1 w)/\ ∀w,(sizeOf e.1).run P w=.ok e.2.2 w
 zer:∀e∈T.zer,(∃z,(∀w,(zeroValue e.1).run P w=.ok z w)/\ZR (.agg e.2.1) z)/\Sc P e.1 e.2.2
def eT:AA (Nat×Nat×Nat)->Nat->Nat->AB Nat
 |[],_,_=>AF
 |(a,b,c)::r,t,f=>bif Nat.beq a t&&Nat.beq b f then AC c else eT r t f
def JE{β:Type}:AA (Nat×β)->Nat->AB β
 |[],_=>AF
 |(a,b)::r,t=>bif Nat.beq a t then AC b else JE r t
variable {f:Nat}
theorem ue{l:AA (Nat×Nat×Nat)}{c:Nat}(h:eT l t f=AC c):(t,f,c)∈l:=by
 induction l with
 |nil=>cases h
 |cons x r g=>
  obtain⟨a,b,d⟩:=x;unfold eT at h;cases q:(Nat.beq a t&&Nat.beq b f)with
  |true=>
   simp_all
  |false=>grind
theorem Yk{β:Type}{l:AA (Nat×β)}{c:β}(h:JE l t=AC c):(t,c)∈l:=by
 induction l with
 |nil=>cases h
 |cons x r d=>
  obtain⟨a,b⟩:=x;unfold JE at h;cases q:Nat.beq a t with
  |true=>
   simp_all
  |false=>grind
def nS(H:Qb):A->AB (AA A)
 |.rp cs=>AC cs
 |.ptr i off=>match H[i]? with
  |some (.cells _ cs)=>AC (cs.drop off)
  |_=>AF
 |_=>AF
theorem Qkc{H:Qb}{p:A}{d:AA A}(h:nS H p=AC d):Dn H p d:=by
 unfold nS at h;split at h
 .cases h;exact Dn.rp
 .split at h
  .rename_i f;cases h;exact Dn.cells f rfl
  .cases h
 .cases h
def mb(T:Tm)(o:AM)(env:Env)(H:Qb):AB A:=
 match o.op with
 |.move x=>AC (CS env x)
 |.assign x=>AC (CS env x)
 |.fieldAddr t x f=>match eT T.fld t f with
  |none=>AF
  |some off=>match CS env x with
   |.ptr i p=>AC (.ptr i (p+off))
   |.rp cs=>AC (.rp (cs.drop off))
   |_=>AF
 |.load t x=>match JE T.agg t with
  |none=>AF
  |some (b,n)=>match x with
   |.global g=>match NV[g]? with
    |some zs=>bif b&&Nat.beq zs.length n then AC (.agg (zs.map (A.int .i64)))else AF
    |none=>AF
   |x=>match nS H (CS env x)with
    |none=>AF
    |some cs=>bif b then(bif Nat.beq (cs.take n).length n then AC (.agg (cs.take n))else AF)else cs.head?
 |.build t parts=>match JE T.zer t with
  |none=>AF
  |some (zs,pl)=>match SW env pl zs parts.toList with
   |some cs=>AC (.agg cs)
   |none=>AF
 |.extract x i=>match CS env x with
  |.tup vs=>vs[i]?
  |_=>AF
 |.makeFunc f first cap=>AC (.fn f (first.toList.map (CS env)) (cap.toList.map (CS env)))
 |_=>AF
theorem Qnv{T:Tm}(E:Tl P T){o:AM}{env:Env}{H:Qb}{x:A}(h:mb T o env H=AC x):CY P o env H x:=by
 unfold mb at h;split at h
 .simp_all[CY.move]
 .simp_all[CY.assign]
 .rename_i t y f d;split at h
  .cases h
  .rename_i J B;obtain⟨n,hn⟩:=E.fld _ (ue B);split at h
   .grind[oZ]
   .rename_i g L;cases h;exact vP hn d L rfl
   .cases h
 .rename_i t y d;split at h
  .cases h
  .rename_i b n N;obtain⟨j,m⟩:=E.agg _ (Yk N);split at h
   .split at h
    .rename_i G Q;cases q:(b&&Nat.beq G.length n)with
     |false=>grind
     |true=>
      rw[q]at h;cases h;simp[XX]at q;obtain⟨rfl,X⟩:=q;exact vE j m Q (by simp_all) d
    .cases h
   .split at h
    .cases h
    .rename_i g R;have F:=Qkc R;cases b with
     |true=>
      cases q:Nat.beq (g.take n).length n with
      |false=>grind
      |true=>
       rw[q]at h;cases h;exact Yd d j m rfl F rfl (by simp_all)
     |false=>
      cases g with
      |nil=>cases h
      |cons v g=>cases h;exact CY.load d j rfl F
 .rename_i t parts d;split at h
  .cases h
  .rename_i G W V;obtain⟨⟨z,j,m⟩,O⟩:=E.zer _ (Yk V);split at h
   .rename_i g B;cases h;exact CY.build j m O (by rw[d]) B
   .cases h
 .grind[CY.extract]
 .rename_i f first M d
  cases h;exact CY.makeFunc (by rw[d]) rfl rfl
 .cases h
def SP(af:AA Nat):Nat->AA Nat->AA A->Env->Env
 |j,d::ds,x::xs,e=>(d,bif af.contains j then x else .any)::SP af (j+1) ds xs e
 |_,_,_,e=>e
theorem Qqu(s:Nat):∀(f:AA Nat) (xs:AA A) (b:Nat),f.length=xs.length->
  (∃(j:Nat) (x:A),f[j]?=AC s/\xs[j]?=AC x/\lk (SP af b f xs env0) s=bif af.contains (b+j)then x else .any)\/(f.contains s=AD/\lk (SP af b f xs env0) s=lk env0 s):=by
 intro f
 induction f with
 |nil=>simp_all[SP]
 |cons d f h=>
  intro xs b hl;cases xs with
  |nil=>cases hl
  |cons x xs=>
   cases q:Nat.beq s d with
   |true=>
    have e:=XR q;subst e;left;refine⟨0,x,rfl,rfl,?_⟩
    simp_all[SP,lk]
   |false=>
    have g:s≠d:=λz=>by simp_all
    simp only[SP,lk,q];rcases h xs (b+1) gq with⟨j,y,t,m,B⟩|⟨t,m⟩
    .left;refine⟨j+1,y,gq,gq,?_⟩
     grind
    grind
def ie(T:Tm)(N:Nat)(l:AA AM)(ds:AA Nat)(xs:AA A)(env0:Env)(H:Qb)(i:Nat):AB A:=
 match l[i]? with
 |none=>AF
 |some o=>match o.guard,o.dst with
  |none,AC d=>bif Nat.blt d N&&Nat.beq ds.length xs.length then mb T o (SP (Qc o) 0 ds xs env0) H else AF
  |_,_=>AF
theorem Qqt{d:AA Nat}(hl:d.length=xs.length):SQ af d xs env0 (SP af 0 d xs env0):=by
 intro s;rcases Qqu (af:=af) (env0:=env0) s d xs 0 hl with⟨j,x,f,g,m⟩|h
 .grind
 grind
theorem vQ{T:Tm}(t:Tl P T){f:AA Nat}{i:Nat}{H:Qb}{x:A}(hx:xs[i]?=AC x)(h:ie T N l f xs env0 H i=AC x):Y0 P N l f xs env0 hB hE i H H:=by
 unfold ie at h;split at h
 .cases h
 .rename_i o j;split at h
  .rename_i d m g;cases q:(Nat.blt d N&&Nat.beq f.length xs.length)with
   |false=>grind
   |true=>
    rw[q]at h;simp only[XX]at q;exact .val o _ d x j g m hx q.1 (Qqt (by simp_all)) (Qnv t h)
  .cases h
abbrev I(n:Int):A:=.int .i64 n
theorem zc{a:A}{v:AL}{al:AA A}{vl:AA AL}(h:ZR a v)(k:ZL al vl):ZL (a::al) (v::vl):=ZL.cons h k
def iK:A->AL->Bool
 |.int k n,.int k' n'=>AG (k=k')&&AG (n=n')
 |.bool b,.bool b'=>b==b'
 |.str s,.string s'=>s.isEmpty&&s'.data.toList.isEmpty
 |.rsl _ es,.slice AF 0 0=>es.isEmpty
 |.nils,.slice AF 0 0=>AE
 |.nilp,.pointer AF=>AE
 |.nilf,.nilFunc=>AE
 |.nilm,.map AF=>AE
 |.nilif,.nilIface=>AE
 |_,_=>AD
def iI:AA A->AA AL->Bool
 |[],[]=>AE
 |a::r,v::s=>iK a v&&iI r s
 |_,_=>AD
def iJ:A->AL->Bool
 |.agg r,.agg s=>iI r s.toList
 |a,v=>iK a v
theorem sr{a:A}{v:AL}(h:iK a v=AE):ZR a v:=by
 unfold iK at h;split at h
 .simp_all[ZR.int]
 .simp_all[ZR.bool]
 .rename_i s f;simp[XX]at h;obtain⟨d⟩:=f
  simp_all[ZR.str]
 .rename_i k g;have h:=List.isEmpty_iff.1 h;subst h;exact ZR.rsl (e:=λx=>[x])
 .exact ZR.nils
 .exact ZR.nilp
 .exact ZR.nilf
 .exact ZR.nilm
 .exact QqE
 .cases h
theorem su:∀{r:AA A} {s:AA AL},iI r s=AE->ZL r s
 |[],[],_=>ZL.nil
 |a::r,v::s,h=>by
  simp[iI,XX]at h;exact ZL.cons (sr h.1) (su h.2)
 |[],_::_,h=>by cases h
 |_::_,[],h=>by cases h
theorem IN{a:A}{v:AL}(h:iJ a v=AE):ZR a v:=by
 unfold iJ at h;split at h
 .have:=ZR.agg (su h);omega
 .exact sr h
section
variable {P:AK} {o:AM} {env:Env} {H:Qb}
theorem QjN{b:Nat}{l:AA Int}(h:CR ro σ w b (l.map λn=>A.int .u8 n) d):(loadCells ⟨b,d,AF⟩ l.length).run P w=.ok (l.map λn=>Value.int .u8 n).toArray w:=by
 obtain⟨vs,t,_,x⟩:=Yl (P:=P) 0 (by simpa using h);have e:∀(l:AA Int) (vs:AA AL),LR ro σ w (l.map λn=>A.int .u8 n) vs->vs=l.map λn=>Value.int .u8 n:=by
  intro l
  induction l with
  |nil=>intro vs h;exact h
  |cons n l m=>
   rintro vs ⟨v,j,rfl,f,q⟩;have g:v=.int .u8 n:=f
   grind
 grind[loadCells]
theorem uy:∀(l:AA Int) (acc:ByteArray),l.foldl (λr n=>r.push (UInt8.ofNat n.toNat)) acc=⟨acc.data++(l.map Jr).toArray⟩
 |[],acc=>sq
 |n::l,acc=>by
  rw[XE,uy l];simp[Jr]
theorem jf{t u e:TypeId}{x:Operand}{ax:A}{l:AA Int}(F:HB P H ax l)(h:∀w,(underlying t).run P w=.ok (.slice e) w)(he:∀w,(underlying e).run P w=.ok (.int .u8) w)(g:∀w,(underlying u).run P w=.ok .string w)
  (J:o.op=.convert t u x:=by rfl)(hx:CS env x=ax:=by rfl):CY P o env H (.str (l.map Jr)):=by
 intro G E σ N a w r;have m:=Qm r x;rw[hx]at m;refine⟨.string ⟨(l.map Jr).toArray⟩,?_,rfl⟩;have y:(convert t u (a.eval x)).run P w=.ok (.string ⟨(l.map Jr).toArray⟩) w:=by
  rcases F G E σ w _ r.sim m with⟨q,c,f,rfl⟩|⟨b,d,c,f,j⟩
  .rw[f];cases q with
   |none=>simp[convert,h,g,he,go_sem];rfl
   |some q=>simp[convert,h,g,he,loadCells,go_sem];rfl
  .rw[f];have hl:(loadCells ⟨b,d,AF⟩ l.length).run P w=.ok (l.map λn=>Value.int .u8 n).toArray w:=by
    rcases j with rfl|j
    .rfl
    .exact QjN j
   have B:(convert t u (.slice (AC ⟨b,d,AF⟩) l.length c)).run P w=(Conv.bytesToString (.slice (AC ⟨b,d,AF⟩) l.length c)).run P w:=by
    simp[convert,h,g,he,go_sem]
   rw[B,run_bytesToString w ⟨b,d,AF⟩ l.length c l hl,uy];simp
 simp_all[execOp]
theorem QmQ{t u:TypeId}{x:Operand}{p q:AA UInt8}(ho:o.op=.binOp .gtr t x y u)(hx:CS env x=.str p)(hy:CS env y=.str q):CY P o env H (.bool (!(Op.bytesLess p q||p==q))):=
 jh (f:=λa b=> !(Op.bytesLess a b||a==b)) ho hx hy sq
end
structure GL where
 ty:Tm
 al:List (Nat×A)
 sl:List Nat
structure I3 (P:AK) (T:GL):Prop where
 ty:Tl P T.ty
 al:∀e∈T.al,(∃z,(∀w,(zeroValue e.1).run P w=.ok z w)/\ZR e.2 z)/\QT e.2=AE/\(QU e.2).all Q1=AE
 sl:∀t∈T.sl,∃et,∀w,(underlying t).run P w=.ok (.slice et) w
def Qv(all:Array AM)(o:AM)(env:Env):AB Bool:=
 match o.guard with
 |none=>AC AE
 |some (j,c)=>match(all[j]?).bind (·.dst)with
  |none=>AF
  |some d=>match lk env d with
   |.bool AE=>AC c
   |.bool AD=>AC (!c)
   |.tup []=>AC AD
   |_=>AF
theorem Qh{all:Array AM}{o:AM}{env:Env}{b:Bool}(h:Qv all o env=AC b):QB all o env b:=by
 unfold Qv at h;unfold QB;split at h
 .grind
 .rename_i j c q;rw[q];split at h
  .cases h
  .rename_i d f;refine⟨d,f,?_⟩;split at h
   .simp_all
   .simp_all
   .grind
   .cases h
def GD:AA Nat->Nat->Bool
 |[],_=>AD
 |a::r,t=>bif Nat.beq a t then AE else GD r t
theorem m8{l:AA Nat}(h:GD l t=AE):t∈l:=by
 induction l with
 |nil=>cases h
 |cons a r d=>
  grind[GD,Nat.eq_of_beq_eq_true]
inductive FL where
 |mk (l:List A)
def fl:AA A->FL
 |[]=>.mk []
 |a::r=>match fl r with
  |.mk r'=>.mk (a::r')
theorem Na:∀l:AA A,fl l=.mk l
 |[]=>rfl
 |a::r=>by unfold fl;rw[Na r]
inductive FB where
 |mk (l:List Ci)
def fb:AA Ci->FB
 |[]=>.mk []
 |a::r=>match fb r with
  |.mk r'=>.mk (a::r')
theorem Z6:∀l:AA Ci,fb l=.mk l
 |[]=>rfl
 |a::r=>by unfold fb;rw[Z6 r]
inductive FN where
 |mk (n:Nat)
def fn:AA Ci->Nat->FN
 |[],n=>.mk n
 |_::r,n=>fn r (n+1)
theorem ik:∀(l:AA Ci) (n:Nat),fn l n=.mk (l.length+n)
 |[],n=>by simp[fn]
 |a::r,n=>by unfold fn;rw[ik r];simp;omega
def ij(env:Env)(pl:AA (Nat×Nat)):AA A->AA (Nat×Operand)->AB (AA A)
 |cs,[]=>AC cs
 |cs,(i,x)::r=>match QW pl i with
  |none=>AF
  |some (off,size)=>match DZ env x with
   |.mk a=>match fl (QU a)with
    |.mk vs=>bif QT a&&Nat.beq vs.length size&&Nat.ble (off+size) cs.length then(match fl (splice cs off vs)with
     |.mk cs'=>ij env pl cs' r)else AF
theorem ua{env:Env}{pl:AA (Nat×Nat)}:∀(parts:AA (Nat×Operand)) (cs:AA A),ij env pl cs parts=SW env pl cs parts
 |[],cs=>rfl
 |(i,x)::r,cs=>by
  unfold ij SW;rw[Nc];cases pl[i]? with
  |none=>rfl
  |some q=>
   obtain⟨off,size⟩:=q;cases h:DZ env x with
   |mk a=>
    rw[QO h];simp only[Na];cases(QT a&&Nat.beq (QU a).length size&&Nat.ble (off+size) cs.length)with
    |false=>rfl
    |true=>exact ua r _
def ST(env:Env):AA Operand->AA A
 |[]=>[]
 |x::r=>match DZ env x with
  |.mk a=>a::ST env r
theorem eu{env:Env}:∀l:AA Operand,ST env l=l.map (CS env)
 |[]=>rfl
 |x::r=>by
  unfold ST;cases h:DZ env x with
  |mk a=>rw[Vm,QO h];show a::ST env r=_;rw[eu r]
def Nu(H:Qb):Bx->AB Lx
 |.mk (.rp cs)=>AC (.mk cs)
 |.mk (.ptr i off)=>match QW H i with
  |some (.cells _ cs)=>AC (eN off cs)
  |_=>AF
 |_=>AF
theorem QrN{H:Qb}{p:A}{d:AA A}(h:Nu H (.mk p)=AC (.mk d)):Dn H p d:=by
 unfold Nu at h
 grind[Dn.rp,Nc,Dn.cells,oH]
def IR(T:GL)(o:AM)(env:Env)(H:Qb):AB A:=
 match o.op with
 |.move x=>match DZ env x with|.mk a=>AC a
 |.assign x=>match DZ env x with|.mk a=>AC a
 |.nilCheck x=>kO (DZ env x)
 |.extract x i=>mC (DZ env x) i
 |.unOp u _ x=>kC u (DZ env x)
 |.pick c x y=>kM (DZ env c) (DZ env x) (DZ env y)
 |.binOp b _ x y _=>mP b (DZ env x) (DZ env y)
 |.fieldAddr t x f=>match eT T.ty.fld t f with
  |none=>AF
  |some off=>match DZ env x with
   |.mk (.ptr i p)=>AC (.ptr i (p+off))
   |.mk (.rp cs)=>match eN off cs with
    |.mk r=>AC (.rp r)
   |_=>AF
 |.load t x=>match JE T.ty.agg t with
  |none=>AF
  |some (b,n)=>match x with
   |.global g=>match QW NV g with
    |some zs=>bif b&&Nat.beq zs.length n then(match fl (zs.map (A.int .i64))with|.mk l=>AC (.agg l))else AF
    |none=>AF
   |x=>match Nu H (DZ env x)with
    |none=>AF
    |some (.mk cs)=>match b with
     |true=>(match fl (cs.take n)with|.mk l=>bif Nat.beq l.length n then AC (.agg l)else AF)
     |false=>(match cs with|[]=>AF|a::_=>AC a)
 |.build t parts=>match JE T.ty.zer t with
  |none=>AF
  |some (zs,pl)=>match ij env pl zs parts.toList with
   |some cs=>AC (.agg cs)
   |none=>AF
 |.makeFunc f first cap=>match fl (ST env first.toList),fl (ST env cap.toList)with
  |.mk l,.mk l'=>AC (.fn f l l')
 |.call c=>match c with
  |{callee:=.builtin .len,args:=⟨[x]⟩,argTypes:=⟨[t]⟩}=>bif GD T.sl t then(match DZ env x with
   |.mk (.osl _ 0 n _)=>AC (.int .i64 n)
   |_=>AF)else AF
  |_=>AF
 |_=>AF
theorem Ne{T:GL}(B:I3 P T){o:AM}{env:Env}{H:Qb}{x:A}(h:IR T o env H=AC x):CY P o env H x:=by
 unfold IR at h;split at h
 .simp_all[Si,Lq]
 .simp_all[Si,Lq]
 .simp_all[Si,Lq]
 .simp_all[Si,Lq]
 .simp_all[Si,Lq]
 .simp_all[Si,Lq]
 .simp_all[Si,Lq]
 .rename_i t y f d;split at h
  .cases h
  .rename_i G j;obtain⟨n,hn⟩:=B.ty.fld _ (ue j);split at h
   .grind[oZ,QO]
   .rename_i E X;cases q:eN G E with
    |mk r=>rw[q]at h;grind[vP,QO,oH]
   .cases h
 .rename_i t y d;split at h
  .cases h
  .rename_i b n O;obtain⟨F,m⟩:=B.ty.agg _ (Yk O);split at h
   .rename_i g;split at h
    .rename_i J L;rw[Nc]at L;cases q:(b&&Nat.beq J.length n)with
     |false=>grind
     |true=>
      rw[q,Na]at h;cases h;simp only[XX]at q;obtain⟨rfl,M⟩:=q;exact vE F m L (by simp_all) d
    .cases h
   .cases e:DZ env y with
    |mk p=>
     rw[e]at h;split at h
     .cases h
     .rename_i E V;have N:=QrN V;cases b with
      |true=>
       simp only[Na]at h;cases q:Nat.beq (E.take n).length n with
       |false=>grind
       |true=>
        rw[q]at h;cases h;exact Yd d F m (QO e) N rfl (by simp_all)
      |false=>
       grind[CY.load,QO]
 .rename_i t parts d;split at h
  .cases h
  .rename_i J Y W;obtain⟨⟨z,F,m⟩,Q⟩:=B.ty.zer _ (Yk W);split at h
   .rename_i E j;cases h;rw[ua]at j;exact CY.build F m Q (by rw[d]) j
   .cases h
 .rename_i f first cap d
  simp only[Na]at h;cases h;rw[eu,eu];exact CY.makeFunc (first:=first.toList) (cap:=cap.toList) (by rw[d]) rfl rfl
 .rename_i c d;split at h
  .rename_i y t;cases q:GD T.sl t with
   |false=>grind
   |true=>
    rw[q]at h;simp only[Vr]at h;obtain⟨et,R⟩:=B.sl t (m8 q);split at h
    .rename_i i n k M;cases h;exact QmT R d rfl (QO M)
    .cases h
  .cases h
 .cases h
def iN(T:GL)(h0 N:Nat)(all:Array AM)(o:AM)(env:Env)(H:Qb):AB (Env×Qb):=
 match Qv all o env with
 |none=>AF
 |some AD=>match o.dst with
  |none=>AF
  |some d=>bif Nat.blt d N then AC (up env d (.tup []),H)else AF
 |some AE=>match o.dst with
  |none=>match o.op with
   |.store t x y=>match DZ env x,JE T.ty.agg t with
    |.mk (.ptr i off),AC (_,n)=>match QW H i with
     |some (.cells S cs)=>match DZ env y with
      |.mk a=>match fl (QU a)with
       |.mk vs=>bif Nat.ble h0 H.length&&(QT a&&(Nat.beq vs.length n&&(vs.all Q1&&Nat.ble (off+n) cs.length)))then(match fl (splice cs off vs)with
        |.mk cs'=>match fb (H.set i (.cells S cs'))with
         |.mk H'=>AC (env,H'))else AF
     |_=>AF
    |_,_=>AF
   |_=>AF
  |some d=>bif Nat.blt d N then(match o.op with
   |.alloc t=>match JE T.al t with
    |some v=>bif Nat.ble h0 H.length then(match fn H 0,fl (QU v)with
     |.mk n,.mk cs=>match fb (H++[.cells t cs])with
      |.mk H'=>AC (up env d (.ptr n 0),H'))else AF
    |none=>AF
   |.box t x=>match DZ env x with
    |.mk a=>bif Nat.ble h0 H.length&&(QT a&&(QU a).all Q1)then(match fn H 0,fl (QU a)with
     |.mk n,.mk cs=>match fb (H++[.cells t cs])with
      |.mk H'=>AC (up env d (.ptr n 0),H'))else AF
   |_=>match IR T o env H with
    |some a=>AC (up env d a,H)
    |none=>AF)else AF
def Z0(T:GL)(h0 N:Nat)(all:Array AM):Nat->AA AM->Env->Qb->AB (AA AM×Env×Qb)
 |0,l,env,H=>AC (l,env,H)
 |_+1,[],_,_=>AF
 |n+1,o::l,env,H=>match iN T h0 N all o env H with
  |some (env',H')=>Z0 T h0 N all n l env' H'
  |none=>AF
section
variable {P:AK} {T:GL} {h0 N:Nat} {all:Array AM} {l l':AA AM} {env env':Env} {H H':Qb} {Q:Qx}
theorem mw(E:I3 P T){o:AM}(h:iN T h0 N all o env H=AC (env',H'))(k:WO P h0 N all l env' H' Q):WO P h0 N all (o::l) env H Q:=by
 unfold iN at h;split at h
 .cases h
 .grind[Qh,WO.skip]
 .rename_i G;have j:=Qh G;split at h
  .rename_i f;split at h
   .rename_i t x y g;split at h
    .rename_i i B b n hx W;split at h
     .rename_i S cs hH;rw[Nc]at hH;cases e:DZ env y with
      |mk a=>
       rw[e]at h;simp only[Na,Z6]at h;generalize hc:(Nat.ble h0 H.length&&(QT a&&(Nat.beq (QU a).length n&&((QU a).all Q1&&Nat.ble (B+n) cs.length))))=c at h;cases c with
       |false=>cases h
       |true=>
        cases h;simp only[XX]at hc;obtain⟨c1,m,F,Y,V⟩:=hc;obtain⟨_,hs⟩:=E.ty.agg _ (Yk W);exact mj (by simp_all) j f (J1.store g (QO hx) hH hs (QO e) m rfl (by simp_all) Y V rfl) k
     .cases h
    .cases h
   .cases h
  .rename_i d f;cases q:Nat.blt d N with
   |false=>grind
   |true=>
    rw[q]at h;simp only[Vr]at h;split at h
    .rename_i t g;split at h
     .rename_i v M;cases c:Nat.ble h0 H.length with
      |false=>grind
      |true=>
       rw[c]at h;simp only[Na,Z6,ik,Vr,Xy]at h;cases h;obtain⟨⟨z,R,J⟩,X,L⟩:=E.al _ (Yk M);exact aD (by simp_all) j f q (fX R J g X rfl L) k
     .cases h
    .rename_i t x g;cases e:DZ env x with
     |mk a=>
      rw[e]at h;simp only[Na,Z6,ik,Xy]at h;generalize hc:(Nat.ble h0 H.length&&(QT a&&(QU a).all Q1))=c at h;cases c with
      |false=>cases h
      |true=>
       cases h;simp only[XX]at hc;obtain⟨c1,m,F⟩:=hc;exact aD (by simp_all) j f q (Fb.box g (QO e) m rfl F) k
    .split at h
     .rename_i a O;cases h;exact Ya j f q (Ne E O) k
     .cases h
theorem AU(hT:I3 P T):∀(n:Nat) {l l':AA AM} {env env':Env} {H H':Qb},Z0 T h0 N all n l env H=AC (l',env',H')->WO P h0 N all l' env' H' Q->WO P h0 N all l env H Q
 |0,l,l',env,env',H,H',h,k=>by cases h;exact k
 |n+1,[],l',env,env',H,H',h,k=>by cases h
 |n+1,o::l,l',env,env',H,H',h,k=>by
  unfold Z0 at h;split at h
  .rename_i e1 H1 hs;exact mw hT hs (AU hT n h k)
  .cases h
end
theorem FA{T off n:Nat}{fs:Array Field}{d:Field}(g:∀w,(underlying T).run P w=.ok (.struct fs) w)(j:fs[f]?=AC d)(m:∀w,(sizeOf d.type).run P w=.ok n w)(h:d.offset=off:=by rfl)(h5:n≠0:=by decide):Yc P T f off n:=⟨_,_,g,j,h,m,h5⟩
theorem wv:∀(π:AA Nat) (H:Qb) (xs:AA Ci),π.map (λp=>H[p]?)=xs.map AC->QQ H π xs=H
 |[],H,xs,h=>by
  simp_all[QQ]
 |p::π,H,[],h=>by simp at h
 |p::π,H,x::xs,h=>by
  simp only[Vm,List.cons.injEq]at h;have e:H.set p x=H:=by
   apply List.ext_getElem?
   grind
  unfold QQ;rw[e];exact wv π H xs h.2
def OH:A->AB Bx
 |.bool b=>AC (.mk (.bool b))
 |.int k n=>AC (.mk (.int k n))
 |.str s=>AC (.mk (.str s))
 |.rsl k es=>AC (.mk (.rsl k es))
 |_=>AF
theorem QpG{v d:A}(h:OH v=AC (.mk d))(ρ:Nat->Nat):YM ρ v=d:=by
 cases v<;>first|(cases h;rfl)|cases h
variable {Hc:Qb}{args:AA A}
theorem Pc{all:Array AM}{o:AM}{env:Env}{H:Qb}{Q:Qx}{f:FuncId}{g:AA A}{v j:A}(π:AA Nat)(m:o.dst=AC d)(h:Dc P o env H f args)(q:C P f g Hc (λa H1=>a=v/\H1=Hc))(t:OH v=AC (.mk j))
  (k:WO P h0 N all l (up env d j) H Q)
  (hargs:args=Jg (Cu π H.length) g:=by rfl)(hH:π.map (λp=>H[p]?)=(Hc.map (Q4 (Cu π H.length))).map some:=by rfl)(hπ:π.Nodup:=by decide)
  (hg:QB all o env true:=by rfl)(hN:Nat.blt d N=true:=by rfl)(hh:Nat.ble h0 H.length=true:=by rfl):WO P h0 N all (o::l) env H Q:=by
 refine Qt π h q ?_ hargs hH hπ hg m hN hh
 simp_all[QpG,wv]
theorem Qsv{i k:Nat}{es:AA (AA A)}:∀H:Qb,GO i k es H H
 |[]=>.nil
 |_::r=>.keep (Qsv r)
def TI:Nat->FN
 |0=>.mk 0
 |1=>.mk 1
 |2=>.mk 2
 |3=>.mk 3
 |4=>.mk 4
 |5=>.mk 5
 |6=>.mk 6
 |7=>.mk 7
 |8=>.mk 8
 |9=>.mk 9
 |10=>.mk 10
 |11=>.mk 11
 |12=>.mk 12
 |13=>.mk 13
 |14=>.mk 14
 |15=>.mk 15
 |16=>.mk 16
 |17=>.mk 17
 |18=>.mk 18
 |19=>.mk 19
 |20=>.mk 20
 |21=>.mk 21
 |22=>.mk 22
 |23=>.mk 23
 |24=>.mk 24
 |25=>.mk 25
 |26=>.mk 26
 |27=>.mk 27
 |28=>.mk 28
 |29=>.mk 29
 |30=>.mk 30
 |31=>.mk 31
 |32=>.mk 32
 |33=>.mk 33
 |34=>.mk 34
 |35=>.mk 35
 |36=>.mk 36
 |37=>.mk 37
 |38=>.mk 38
 |39=>.mk 39
 |40=>.mk 40
 |41=>.mk 41
 |42=>.mk 42
 |43=>.mk 43
 |44=>.mk 44
 |45=>.mk 45
 |46=>.mk 46
 |47=>.mk 47
 |n=>.mk n
theorem iv(n:Nat):TI n=.mk n:=by unfold TI;split<;>rfl
mutual
def Iv:A->Bx
 |.agg cs=>match N7 cs with
  |.mk l=>.mk (.agg l)
 |.tup cs=>match N7 cs with
  |.mk l=>.mk (.tup l)
 |.fn f a c=>match N7 a,N7 c with
  |.mk l,.mk l'=>.mk (.fn f l l')
 |.iface t v=>match Iv v with
  |.mk v'=>.mk (.iface t v')
 |.ptr i off=>match TI i with
  |.mk i'=>.mk (.ptr i' off)
 |.osl i o n k=>match TI i with
  |.mk i'=>.mk (.osl i' o n k)
 |.map i=>match TI i with
  |.mk i'=>.mk (.map i')
 |.any=>.mk .any
 |.bool b=>.mk (.bool b)
 |.int k n=>.mk (.int k n)
 |.str s=>.mk (.str s)
 |.nilp=>.mk .nilp
 |.rp c=>.mk (.rp c)
 |.nils=>.mk .nils
 |.rsl k e=>.mk (.rsl k e)
 |.nilf=>.mk .nilf
 |.nilif=>.mk .nilif
 |.nilm=>.mk .nilm
def N7:AA A->FL
 |[]=>.mk []
 |a::r=>match Iv a,N7 r with
  |.mk a',.mk r'=>.mk (a'::r')
end
mutual
theorem Nb:∀a:A,Iv a=.mk a
 |.agg cs=>by unfold Iv;rw[T3 cs]
 |.tup cs=>by unfold Iv;rw[T3 cs]
 |.fn f a c=>by unfold Iv;rw[T3 a,T3 c]
 |.iface t v=>by unfold Iv;rw[Nb v]
 |.ptr i off=>by unfold Iv;rw[iv]
 |.osl i o n k=>by unfold Iv;rw[iv]
 |.map i=>by unfold Iv;rw[iv]
 |.any|.bool _|.int _ _|.str _|.nilp|.rp _|.nils|.rsl _ _|.nilf|.nilif|.nilm=>by rfl
theorem T3:∀l:AA A,N7 l=.mk l
 |[]=>by rfl
 |a::r=>by unfold N7;rw[Nb a,T3 r]
end
inductive FE2 where
 |mk (l:List (List A))
def iR:AA (AA A)->FE2
 |[]=>.mk []
 |a::r=>match N7 a,iR r with
  |.mk a',.mk r'=>.mk (a'::r')
theorem sd:∀l,iR l=.mk l
 |[]=>rfl
 |a::r=>by unfold iR;rw[T3,sd r]
def Lc:AA Ci->FB
 |[]=>.mk []
 |b::r=>match Lc r with
  |.mk r'=>match b with
   |.cells t cs=>match N7 cs with
    |.mk l=>.mk (.cells t l::r')
   |.rowr t k es=>match iR es with
    |.mk l=>.mk (.rowr t k l::r')
   |.dead=>.mk (.dead::r')
   |.row t k es=>.mk (.row t k es::r')
   |.map es=>.mk (.map es::r')
   |.iter c es=>.mk (.iter c es::r')
   |.fmap es=>.mk (.fmap es::r')
   |.ents t a b es=>match TI a,TI b with
    |.mk a',.mk b'=>.mk (.ents t a' b' es::r')
theorem Tz:∀l,Lc l=.mk l
 |[]=>rfl
 |b::r=>by
  unfold Lc;rw[Tz r];cases b<;>simp only[T3,sd,iv]
def dE(env:Env)(H:Qb):AB (Env×Qb):=
 match Lc H with
 |.mk H'=>match env with
  |[]=>AC ([],H')
  |(d,a)::e=>match Iv a with
   |.mk a'=>AC ((d,a')::e,H')
theorem Qr9(env:Env)(H:Qb):dE env H=AC (env,H):=by
 unfold dE;rw[Tz];cases env with
 |nil=>rfl
 |cons p e=>obtain⟨d,a⟩:=p;simp only[Nb]
theorem FE{all:Array AM}{env:Env}{H:Qb}{Q:Qx}(h:dE env H=AC (env',H'))(k:WO P h0 N all l env' H' Q):WO P h0 N all l env H Q:=by
 rw[Qr9]at h
 grind
theorem R1{fn:Func}{env:Env}{H:Qb}{v:A}(s:Nat)(hr:fn.results= #[.tmp s])(hle:Le h0 env H [(s,v)] Hc):YI P h0 fn (λa H=>a=v/\H=Hc) .ret env H:=
 ⟨[(s,v)],Hc,v,hle,IA.one hr (by simp_all[lk]),rfl,rfl⟩
theorem R2{fn:Func}{env:Env}{H:Qb}{v v':A}(s t:Nat)(hr:fn.results= #[.tmp s,.tmp t])(hn:Nat.beq t s=AD)(hle:Le h0 env H [(s,v),(t,v')] Hc):YI P h0 fn (λa H=>a=.tup [v,v']/\H=Hc) .ret env H:=
 ⟨[(s,v),(t,v')],Hc,_,hle,QmK hr (by simp_all[lk]) (by simp_all[lk]),rfl,rfl⟩
theorem FC.o{i n:Nat}{es:AA (AA A)}(hn:n=es.length:=by first|exact(X4 ..).symm|exact rfl):FC i k es (.osl i 0 n k) (.rsl k es):=FC.own hn
theorem Le.env{d:Nat}{env env':Env}{H:Qb}(h:∀s,lk env' s=.any\/lk env' s=lk env s):Le d env H env' H:=by
 intro g f σ N a w r;refine⟨f,σ,⟨r.sim,λs=>?_,r.size,r.defers⟩,λ_ q=>q,rfl⟩;rcases h s with h|h
 .rw[h];trivial
 .rw[h];exact r.env s
def d_(env:Env):Env->Prop
 |[]=>True
 |(s,a)::r=>lk env s=a/\d_ env r
theorem d_.ok{env:Env}:∀{env':Env},d_ env env'->∀s,lk env' s=.any\/lk env' s=lk env s
 |[],_,s=>.inl rfl
 |(d,a)::e,⟨h1,h2⟩,s=>by
  by_cases q:s=d
  .simp_all[lk]
  .have:Nat.beq s d=false:=by
    simp_all[VP]
   simp only[lk,this,Vs];exact d_.ok h2 s
theorem Lw{env:Env}{H:Qb}(h:d_ env env'):Le h0 env H env' H:=Le.env h.ok
def ixO(d:Nat)(op:Op)(t:Nat)(pos:String)(af:Array Edge):AM:={dst:=AC d,op:=op,type:=t,pos:=pos,after:=af,guard:=AF}
inductive Kf where
 |seq (c:Code)
 |blo (id:Nat)
 |unr (c:Code)
inductive Cf where
 |code (c:Code)
 |ops (all:Array AM) (l:List AM)
 |out (x:Ln)
def kq(P:AK)(h0 N:Nat):AA Kf->Qx->Qx
 |[],Q=>Q
 |.seq c::k,Q=>d8 P h0 N c (kq P h0 N k Q)
 |.blo id::k,Q=>R6 id (kq P h0 N k Q)
 |.unr c::k,Q=>Tr P h0 N c (kq P h0 N k Q)
@[reducible] def Hd(P:AK)(h0 N:Nat):Cf->AA Kf->Env->Qb->Qx->Prop
 |.code c,k,env,H,Q=>TC P h0 N c env H (kq P h0 N k Q)
 |.ops all l,k,env,H,Q=>WO P h0 N all l env H (kq P h0 N k Q)
 |.out x,k,env,H,Q=>kq P h0 N k Q x env H
def Z'(T:GL)(h0 N:Nat):Cf->AA Kf->Env->Qb->AB (Cf×AA Kf×Env×Qb)
 |.code (.seq a b),k,env,H=>AC (.code a,.seq b::k,env,H)
 |.code (.block id c),k,env,H=>AC (.code c,.blo id::k,env,H)
 |.code (.loop c),k,env,H=>AC (.code c,.unr c::k,env,H)
 |.code .skip,k,env,H=>AC (.out .normal,k,env,H)
 |.code .ret,k,env,H=>AC (.out .ret,k,env,H)
 |.code (.exit id),k,env,H=>AC (.out (.exit id),k,env,H)
 |.code (.region id ⟨l⟩ AD),k,env,H=>AC (.ops ⟨l⟩ l,k,env,H)
 |.code (.cond x a b),k,env,H=>match DZ env x with
  |.mk (.bool AE)=>AC (.code a,k,env,H)
  |.mk (.bool AD)=>AC (.code b,k,env,H)
  |_=>AF
 |.ops all [],k,env,H=>AC (.out .normal,k,env,H)
 |.ops all (o::l),k,env,H=>match iN T h0 N all o env H with
  |some (env',H')=>AC (.ops all l,k,env',H')
  |none=>AF
 |.out .normal,.seq c::k,env,H=>AC (.code c,k,env,H)
 |.out (.exit i),.seq _::k,env,H=>AC (.out (.exit i),k,env,H)
 |.out .ret,.seq _::k,env,H=>AC (.out .ret,k,env,H)
 |.out .normal,.blo _::k,env,H=>AC (.out .normal,k,env,H)
 |.out (.exit i),.blo id::k,env,H=>match Nat.beq i id with
  |true=>AC (.out .normal,k,env,H)
  |false=>AC (.out (.exit i),k,env,H)
 |.out .ret,.blo _::k,env,H=>AC (.out .ret,k,env,H)
 |.out .normal,.unr c::k,env,H=>AC (.code c,.unr c::k,env,H)
 |.out (.exit i),.unr _::k,env,H=>AC (.out (.exit i),k,env,H)
 |.out .ret,.unr _::k,env,H=>AC (.out .ret,k,env,H)
 |_,_,_,_=>AF
def KW(T:GL)(h0 N:Nat):Nat->Cf->AA Kf->Env->Qb->AB (Cf×AA Kf×Env×Qb)
 |0,c,k,env,H=>AC (c,k,env,H)
 |n+1,c,k,env,H=>match Z' T h0 N c k env H with
  |some (c',k',env',H')=>KW T h0 N n c' k' env' H'
  |none=>AF
section
variable {P:AK} {T:GL} {h0 N:Nat} {Q:Qx}
theorem Qnu(j:I3 P T){c f:Cf}{k d:AA Kf}{env:Env}{H:Qb}(h:Z' T h0 N c k env H=AC (f,d,env',H'))(g:Hd P h0 N f d env' H' Q):Hd P h0 N c k env H Q:=by
 unfold Z' at h;split at h
 .cases h;exact TC.seq g
 .cases h;exact TC.block g
 .cases h;exact QmI g
 .cases h;exact TC.skip g
 .cases h;exact TC.ret g
 .cases h;exact TC.exit g
 .cases h;exact TC.region g
 .split at h
  .rename_i q;cases h;exact Qo0 (QO q) rfl g
  .rename_i q;cases h;exact Qo1 (QO q) rfl g
  .cases h
 .cases h;exact WO.nil g
 .grind[mw]
 .cases h;exact bO g
 .cases h;exact bL g
 .cases h;exact bN g
 .cases h;exact dw g
 .split at h
  .rename_i q;cases h;have:=XR q;subst this;exact dx g
  .rename_i q;cases h;exact du q g
 .cases h;exact dv g
 .cases h;exact kB g
 .cases h;exact j_ g
 .cases h;exact kA g
 .cases h
theorem ez(hT:I3 P T):∀(n:Nat) {c c':Cf} {k k':AA Kf} {env env':Env} {H H':Qb},KW T h0 N n c k env H=AC (c',k',env',H')->Hd P h0 N c' k' env' H' Q->Hd P h0 N c k env H Q
 |0,c,c',k,k',env,env',H,H',h,g=>by cases h;exact g
 |n+1,c,c',k,k',env,env',H,H',h,g=>by
  unfold KW at h;split at h
  .rename_i e;exact Qnu hT e (ez hT n h g)
  .cases h
theorem tK{env:Env}{s:Nat}{a:A}(h:lk env s=a):∀t,lk (up env s a) t=lk env t:=by
 intro t;simp[lk];cases q:Nat.beq t s with
 |true=>simp_all
 |false=>rfl
theorem Is{α:Type}{all:Array AM}{env:Env}{H:Qb}{b:Bool}{x y:AB α}{r:α}(s:Nat)(h:(bif b then x else y)=AC r)(hs:N0 env s=.mk (.bool b))
  (t:b=AE->x=AC r->WO P h0 N all l (up env s (.bool AE)) H Q)(e:b=AD->y=AC r->WO P h0 N all l (up env s (.bool AD)) H Q):WO P h0 N all l env H Q:=by
 have hl:=mt hs;cases b with
 |true=>exact WO.le (Le.env λt=>.inr (tK hl t)) (t rfl h)
 |false=>exact WO.le (Le.env λt=>.inr (tK hl t)) (e rfl h)
end
def mN(o:AM)(i:Nat):Nat:=match o.dst with|some d=>d|none=>1000000+i
def Ji:Nat->Nat->AA AM->AA Nat
 |0,_,_=>[]
 |_+1,_,[]=>[]
 |m+1,i,o::l=>mN o i::Ji m (i+1) l
def Qq(af:AA Nat):Nat->AA Nat->AA A->Env->Env
 |j,d::ds,x::xs,e=>(d,bif GD af j then x else .any)::Qq af (j+1) ds xs e
 |j,d::ds,[],e=>(d,.any)::Qq af (j+1) ds [] e
 |_,[],_,e=>e
theorem xO{l:AA Nat}:GD l t=l.contains t:=by
 induction l with
 |nil=>rfl
 |cons a r d=>
  grind[GD,Nat.eq_of_beq_eq_true,Nat.beq_refl]
theorem jB{s:Nat}:∀(f:AA Nat) (xs m:AA A) (b:Nat),
  (∃(j:Nat) (x:A),af.contains (b+j)=AE/\f[j]?=AC s/\(xs++m)[j]?=AC x/\lk (Qq af b f xs env0) s=x)\/lk (Qq af b f xs env0) s=.any\/(f.contains s=AD/\lk (Qq af b f xs env0) s=lk env0 s):=by
 intro f
 induction f with
 |nil=>intro xs m b;right;right;exact⟨rfl,by rfl⟩
 |cons d f F=>
  intro xs m b;have next:∀(g:AA A),(∃(j:Nat) (x:A),af.contains (b+1+j)=AE/\f[j]?=AC s/\(g++m)[j]?=AC x/\lk (Qq af (b+1) f g env0) s=x)->∀E,(∃(j:Nat) (x:A),af.contains (b+j)=AE/\(d::f)[j]?=AC s/\(E::g++m)[j]?=AC x/\lk (Qq af (b+1) f g env0) s=x):=by
   rintro g ⟨j,x,B,y,H,G⟩ E;exact⟨j+1,x,gq,gq,gq,G⟩
  cases xs with
  |nil=>
   cases q:Nat.beq s d with
   |true=>simp_all[Qq,lk]
   |false=>
    have t:s≠d:=λz=>by simp_all
    simp only[Qq,lk,q,Vs];rcases F [] [] (b+1)with⟨j,x,B,y,H,G⟩|h|⟨B,y⟩
    .simp at H
    .grind
    grind
  |cons x xs=>
   cases q:Nat.beq s d with
   |true=>
    have:=XR q;subst this;simp only[Qq,lk,q,Vr];cases c:GD af b with
    |true=>left;exact⟨0,x,by rw[<- xO];exact c,rfl,rfl,rfl⟩
    |false=>simp
   |false=>
    have t:s≠d:=λz=>by simp_all
    simp only[Qq,lk,q,Vs];rcases F xs m (b+1)with h|h|⟨B,y⟩
    .exact .inl (next xs h x)
    .grind
    grind
variable {r:AA AM}
section
variable {P:AK} {T:GL} {h0 N m:Nat} {l:AA AM} {ds:AA Nat} {env:Env} {H:Qb} {Q:Qx} {K:AA AM->Env->Qb->Prop}
def DS(P:AK)(N m:Nat)(l:AA AM)(ds:AA Nat)(env:Env)(H:Qb)(K:AA AM->Env->Qb->Prop)(r:AA AM)(xs:AA A):Prop:=
 r=l.drop xs.length->∃ys,xs.length+ys.length=m/\(∀j,xs.length<=j->j<m->Y0 P N l ds (xs++ys) env H.length H.length j H H)/\K (l.drop m) (IT ds (xs++ys) env) H
theorem cA{xs:AA A}:∀(c i:Nat),(∀j,i<=j->j<i+c->Y0 P N l ds xs env H.length H.length j H H)->Oq P N l ds xs env H i c
 |0,i,_=>.n
 |c+1,i,h=>.c gq (cA c (i+1) gq)
theorem Qpk{k:AA Kf}(m:Nat)(f:P.follows .mixedOrders=AE)(q:Go.Sw.draw0 l m N (Ji m 0 l)=AE)(d:Nat.ble h0 H.length=AE)
  (h:DS P N m l (Ji m 0 l) env H (λr e H=>WO P h0 N l.toArray r e H Q) l []):TC P h0 N (.region id l.toArray AE) env H Q:=by
 obtain⟨j,t,x,g⟩:=h rfl;exact TC.draw0 m _ j f q (by simp_all) d (cA m 0 gq) g
theorem DS.done(hx:Nat.beq xs.length m=AE)(h:K r (IT ds xs env) H):DS P N m l ds env H K r xs:=by
 intro d;have e:=XR hx;refine⟨[],by simpa using e,λj g f=>om,?_⟩
 grind
theorem DS.add{o:AM}{x:A}(hx:Nat.blt xs.length m=AE)(q:∀ys,l[xs.length]?=AC o->Y0 P N l ds (xs++x::ys) env H.length H.length xs.length H H)(k:DS P N m l ds env H K r (xs++[x])):DS P N m l ds env H K (o::r) xs:=by
 intro f;have d:xs.length<l.length:=by
  grind[List.drop_eq_nil_of_le]
 rw[Xp d]at f;cases f;obtain⟨ys,h,g,j⟩:=k sq
 grind
theorem n7{ys:AA A}{x:A}:(xs++x::ys)[xs.length]?=AC x:=sq
theorem DS.wo{o:AM}{x:A}(h:WO P H.length N l.toArray [o] (Qq (Qc o) 0 ds xs env) H (YE (up (Qq (Qc o) 0 ds xs env) d x) H))(k:DS P N m l ds env H K r (xs++[x]))
  (f:o.dst=AC d:=by rfl)(hx:Nat.blt xs.length m=true:=by rfl):DS P N m l ds env H K (o::r) xs:=
 .add hx (λt g=>.woE o _ d x g f n7 (he:=by
  intro s;rcases jB (af:=Qc o) (env0:=env) (s:=s) ds xs (x::t) 0 with⟨j,y,E,G,F,B⟩|q|q
  .grind
  .grind
  grind) (hdd:=jt H) (h:=h)) k
theorem DS.v{o:AM}{x:A}(h:CY P o (Qq (Qc o) 0 ds xs env) H x)(k:DS P N m l ds env H K r (xs++[x]))(hg:QB l.toArray o (Qq (Qc o) 0 ds xs env) true:=by rfl)
  (hd:o.dst=AC d:=by rfl)(hN:Nat.blt d N=true:=by rfl)(hx:Nat.blt xs.length m=true:=by rfl):DS P N m l ds env H K (o::r) xs:=
 .wo (Ya hg hd hN h (WO.nil YE.mk)) k hd hx
def KY:AA A->A->FL
 |[],x=>.mk [x]
 |a::r,x=>match KY r x with
  |.mk r'=>.mk (a::r')
theorem Jm:∀(l:AA A) (x:A),KY l x=.mk (l++[x])
 |[],x=>rfl
 |a::r,x=>by unfold KY;rw[Jm r];rfl
def eQ(T:GL)(N m:Nat)(l:AA AM)(ds:AA Nat)(env:Env)(H:Qb):Nat->Nat->AA AM->AA A->AB (AA AM×AA A)
 |0,_,r,xs=>AC (r,xs)
 |_+1,_,[],_=>AF
 |n+1,i,o::r,xs=>match Nat.blt i m with
  |false=>AF
  |true=>match o.dst with
   |none=>AF
   |some d=>match Nat.blt d N with
    |false=>AF
    |true=>match Qv ⟨l⟩ o (Qq (Qc o) 0 ds xs env)with
     |none=>AF
     |some AD=>match KY xs (.tup [])with
      |.mk xs'=>eQ T N m l ds env H n (i+1) r xs'
     |some AE=>match IR T o (Qq (Qc o) 0 ds xs env) H with
      |none=>AF
      |some x=>match KY xs x with
       |.mk xs'=>eQ T N m l ds env H n (i+1) r xs'
theorem oC(hT:I3 P T):∀(n i:Nat) {r r':AA AM} {xs xs':AA A},i=xs.length->eQ T N m l ds env H n i r xs=AC (r',xs')->DS P N m l ds env H K r' xs'->DS P N m l ds env H K r xs
 |0,i,r,r',xs,xs',_,h,k=>by cases h;exact k
 |n+1,i,[],r',xs,xs',_,h,k=>by cases h
 |n+1,i,o::r,r',xs,xs',hi,h,k=>by
  subst hi;unfold eQ at h;split at h
  .cases h
  .rename_i q1;split at h
   .cases h
   .rename_i d hd;split at h
    .cases h
    .rename_i q2;split at h
     .cases h
     .rename_i hw;simp[Jm]at h;exact .wo (WO.skip (Qh hw) hd q2 (WO.nil YE.mk)) (oC hT n _ sq h k) hd q1
     .rename_i hw;split at h
      .cases h
      .rename_i x hv;simp[Jm]at h;exact .v (Ne hT hv) (oC hT n _ sq h k) (Qh hw) hd q2 q1
def HD:AA A->Nat->A->FL
 |[],_,_=>.mk []
 |_::r,0,x=>.mk (x::r)
 |a::r,n+1,x=>match HD r n x with
  |.mk r'=>.mk (a::r')
theorem fM:∀{l:AA A} {n:Nat} {x:A},QW l n=AC x->HD l n x=.mk l
 |[],n,x,h=>by cases h
 |a::r,0,x,h=>by cases h;rfl
 |a::r,n+1,x,h=>by unfold HD;rw[fM (l:=r) h]
theorem DS.is{α:Type}{b:Bool}{x y:AB α}{v:α}{f d:AA A}(j:Nat)(h:(bif b then x else y)=AC v)(hs:QW xs j=AC (.bool b))(q:HD xs j (.bool AE)=.mk f)(g:HD xs j (.bool AD)=.mk d)
  (t:b=AE->x=AC v->DS P N m l ds env H K r f)(e:b=AD->y=AC v->DS P N m l ds env H K r d):DS P N m l ds env H K r xs:=by
 cases b with
 |true=>simp_all[fM]
 |false=>simp_all[fM]
end
variable {β:Type}
@[reducible] def RQ(w:β->A)(Hc:β->Qb)(r:β):A->Qb->Prop:=λa H=>a=w r/\H=Hc r
@[reducible] def qh(P:AK)(f:FuncId)(args:AA A)(H:Qb)(w:β->A)(r:β):Prop:=C P f args H (RQ w (λ_=>H) r)
structure OE where
 sl:List (Nat×Nat×Nat)
 fn:List Nat
structure Lh (P:AK) (Z:OE):Prop where
 sl:∀e∈Z.sl,(∀w,(underlying e.1).run P w=.ok (.slice e.2.1) w)/\ ∀w,(sizeOf e.2.1).run P w=.ok e.2.2 w
 fn:∀f∈Z.fn,∀(a:Array AL) (w:AJ),(callFunc f a).run P w=.ok (.enter f a) w
variable {F:AB β}{α γ:Type}
variable {F':β->AB γ}{L:AA α}{e:α->AA A}
section
variable {P:AK} {Z:OE} {h0 N:Nat} {all:Array AM} {o:AM} {l:AA AM} {env:Env} {H:Qb} {Q:Qx} {d:Nat}
theorem aW(m:Lh P Z){B:Nat}{kk:IntKind}{i:Int}{v:α}(h:CN L i=AC v)(q:Lb o env=AC (d,t,k,L.map e,kk,i))(g:WO P h0 N all l (up env d (.rp (e v))) H Q)
  (j:JE Z.sl t=AC (B,k))(hg:Qv all o env=AC AE)(y:Nat.blt d N=AE):WO P h0 N all (o::l) env H Q:=by
 obtain⟨f,x⟩:=m.sl _ (Yk j);exact Ix h f x q g (Qh hg) y
theorem pS(m:Lh P Z){y:Nat}{kk:IntKind}{i:Int}{v:α}{f:AA A}(h:CN L i=AC v)(he:e v=f)(q:Lb o env=AC (d,t,k,L.map e,kk,i))(g:WO P h0 N all l (up env d (.rp f)) H Q)
  (j:JE Z.sl t=AC (y,k))(hg:Qv all o env=AC AE)(x:Nat.blt d N=AE):WO P h0 N all (o::l) env H Q:=by
 subst he;exact aW m h q g j hg x
theorem xW(j:Lh P Z){y m:Nat}(q:SG o env=AC (d,t,.mk (.rsl k (L.map e))))(g:WO P h0 N all l (up env d (.int .i64 L.length)) H Q)
  (h:JE Z.sl t=AC (y,m))(hg:Qv all o env=AC AE)(x:Nat.blt d N=AE):WO P h0 N all (o::l) env H Q:=by
 obtain⟨f,B⟩:=j.sl _ (Yk h);exact xV f q g (Qh hg) x
def IQ(Z:OE)(o:AM)(env:Env):AB (Nat×Nat×AA A):=
 match o.dst with
 |none=>AF
 |some d=>match o.op with
  |.call {callee:=.value (.func f),args:=⟨xs⟩,argTypes:=_}=>bif GD Z.fn f then(match fl (ST env xs)with|.mk ax=>AC (d,f,ax))else AF
  |.call {callee:=.value (.tmp x),args:=⟨xs⟩,argTypes:=_}=>match DZ env (.tmp x)with
   |.mk (.fn (.func f) vf vc)=>bif GD Z.fn f then(match fl (vf++(ST env xs++vc))with|.mk ax=>AC (d,f,ax))else AF
   |_=>AF
  |_=>AF
theorem i_(y:Lh P Z)(h:IQ Z o env=AC (d,f,args)):o.dst=AC d/\Dc P o env H f args:=by
 unfold IQ at h;split at h
 .cases h
 .rename_i G m;split at h
  .rename_i j t B g;cases q:GD Z.fn j with
   |false=>grind
   |true=>
    rw[q]at h;simp only[Na]at h;cases h;exact⟨m,Dc.fn (y.fn _ (m8 q)) g rfl (eu t).symm⟩
  .rename_i x t B g;split at h
   .rename_i j E F hx;cases q:GD Z.fn j with
    |false=>grind
    |true=>
     rw[q]at h;simp only[Na]at h;cases h;exact⟨m,aH (y.fn _ (m8 q)) g rfl (QO hx) (by rw[eu])⟩
   .cases h
  .cases h
theorem qf(q:Lh P Z){r:γ}{j:AA A}{w:β->A}(π:AA Nat)(h:F.bind F'=AC r)(t:∀v,F=AC v->C P f j Hc (RQ w (λ_=>Hc) v))
  (m:IQ Z o env=AC (d,f,args))(g:∀v,F=AC v->F' v=AC r->WO P h0 N all l (up env d (w v)) H Q)(x:∀v,OH (w v)=AC (.mk (w v)))
  (hargs:args=Jg (Cu π H.length) j)(hH:π.map (λp=>H[p]?)=(Hc.map (Q4 (Cu π H.length))).map AC)(hπ:π.Nodup)(hg:Qv all o env=AC AE)(L:Nat.blt d N=AE)(B:Nat.ble h0 H.length=AE):WO P h0 N all (o::l) env H Q:=by
 obtain⟨v,G,y⟩:=Yf h;obtain⟨E,J⟩:=i_ (H:=H) q m
 grind[Pc,Qh]
theorem xa(L:Lh P Z){K:AA AM->Env->Qb->Prop}{m:Nat}{t:AA AM}{q:AA Nat}{r:γ}{j:AA A}{w:β->A}(π:AA Nat)(h:F.bind F'=AC r)(E:∀v,F=AC v->C P f j Hc (RQ w (λ_=>Hc) v))
  (x:IQ Z o (Qq (Qc o) 0 q xs env)=AC (d,f,args))(g:∀v,F=AC v->F' v=AC r->DS P N m t q env H K l (xs++[w v]))(G:∀v,OH (w v)=AC (.mk (w v)))
  (hargs:args=Jg (Cu π H.length) j)(hH:π.map (λp=>H[p]?)=(Hc.map (Q4 (Cu π H.length))).map AC)(hπ:π.Nodup)(hg:Qv t.toArray o (Qq (Qc o) 0 q xs env)=AC AE)(O:Nat.blt d N=AE)(hx:Nat.blt xs.length m=AE):DS P N m t q env H K (o::l) xs:=by
 obtain⟨v,B,J⟩:=Yf h;obtain⟨y,M⟩:=i_ L x;exact .wo (Pc π y M (E v B) (G v) (WO.nil YE.mk) hargs hH hπ (Qh hg) O sq) (g v B J) y hx
theorem ln:E_ H [] []:=trivial
theorem ls{ax d:AA A}{a:A}(k:E_ H ax d)(h:Yn a=true:=by rfl):E_ H (a::ax) (a::d):=⟨.inl ⟨rfl,h⟩,k⟩
theorem lo{ax d:AA A}{i n:Nat}{es:AA (AA A)}(f:E_ H ax d)(hH:H[i]?=AC (.row t k es):=by rfl)(hn:es.length=n:=by exact X4 ..):E_ H (.osl i 0 n k::ax) (.rsl k es::d):=
 ⟨.inr gq,f⟩
theorem xj(B:Lh P Z){r:γ}{j:AA A}{w:β->A}(h:F.bind F'=AC r)(q:∀v,F=AC v->C P f j [] (RQ w (λ_=>[]) v))
  (m:IQ Z o env=AC (d,f,args))(t:E_ H args j)(g:∀v,F=AC v->F' v=AC r->WO P h0 N all l (up env d (w v)) H Q)(J:∀v,Yb (w v)=AE)
  (hg:Qv all o env=AC AE)(G:Nat.blt d N=AE):WO P h0 N all (o::l) env H Q:=by
 obtain⟨v,y,L⟩:=Yf h;obtain⟨x,E⟩:=i_ B m;refine aM E t (q v y) ?_ ?_ (Qh hg) x G
 .grind
 grind
end
def ixL:AA Nat:=[0,1,2,3,4,5,6,7,8,9,10,11,12,13,14,15,16,17,18,19,20,21,22,23,24,25,26,27,28,29,30,31,32,33,34,35,36,37,38,39,40,41,42,43,44,45,46,47,48,49,50,51,52,53,54,55,56,57,58,59,60,61,62,63]
def Zz:AA Nat->AA Nat->Nat->FN
 |a::r,b::s,j=>bif Nat.beq a j then .mk b else Zz r s j
 |_,_,j=>.mk j
mutual
def rK(sel:AA Nat):A->Bx
 |.ptr i off=>match Zz sel ixL i with
  |.mk j=>.mk (.ptr j off)
 |.osl i o n k=>match Zz sel ixL i with
  |.mk j=>.mk (.osl j o n k)
 |.map i=>match Zz sel ixL i with
  |.mk j=>.mk (.map j)
 |.fn f a c=>match Th sel a,Th sel c with
  |.mk a',.mk c'=>.mk (.fn f a' c')
 |a=>.mk a
def Th(sel:AA Nat):AA A->FL
 |[]=>.mk []
 |a::r=>match rK sel a,Th sel r with
  |.mk a',.mk r'=>.mk (a'::r')
end
inductive FV where
 |mk (e:Env)
def il(sel:AA Nat)(env:Env):AA Nat->Env->FV
 |[],nE=>.mk nE
 |s::r,nE=>match N0 env s with
  |.mk a=>match rK sel a,il sel env r nE with
   |.mk a',.mk e=>.mk ((s,a')::e)
def Nr(H:Qb):AA Nat->AA Nat->AA (Nat×Ci)->FB
 |a::r,p::ps,[]=>match QW H a,Nr H r ps []with
  |some b,.mk l=>.mk (b::l)
  |none,.mk l=>.mk l
 |a::r,p::ps,(q,b)::n=>bif Nat.beq p q then(match Nr H r ps n with|.mk l=>.mk (b::l))else(match QW H a,Nr H r ps ((q,b)::n)with
  |some b,.mk l=>.mk (b::l)
  |none,.mk l=>.mk l)
 |_,_,_=>.mk []
def Lf(sel keep:AA Nat)(nE:Env)(nH:AA (Nat×Ci))(env:Env)(H:Qb):AB (Env×Qb):=
 match il sel env keep nE,Nr H sel ixL nH with
 |.mk e,.mk h=>AC (e,h)
variable {E':β->Env}
section
variable {P:AK} {h0 N:Nat} {c:Code} {env:Env} {H:Qb} {Q:Qx}
def I0(h0:Nat)(b:β)(E':β->Env)(H':β->Qb)(Q:Qx):Qx
 |.normal,env,H=>Le h0 env H (E' b) (H' b)
 |.exit id,env,H=>Q (.exit id) env H
 |.ret,env,H=>Q .ret env H
theorem OM{env:Env}{H:Qb}{Q:Qx}{b:β}{H':β->Qb}(h:Le h0 env H (E' b) (H' b)):I0 h0 b E' H' Q .normal env H:=h
theorem Ct{H':β->Qb}(b:β)(sel keep:AA Nat)(nE:β->Env)(nH:β->AA (Nat×Ci))(_:∀b,Lf sel keep (nE b) (nH b) env H=AC (E' b,H' b))(h:TC P h0 N c env H (I0 h0 b E' H' Q))(k:∀env H,Le h0 env H (E' b) (H' b)->Q .normal env H):TC P h0 N c env H Q:=
 h.mono λx env' H' q=>by
  cases x with
  |normal=>exact k _ _ q
  |exit id=>exact q
  |ret=>exact q
theorem KR{S B:Type}{b:CJ S B}{E':S->Env}{H':S->Qb}(sel keep:AA Nat)(nE:S->Env)(nH:S->AA (Nat×Ci))(_:∀s,Lf sel keep (nE s) (nH s) env H=AC (E' s,H' s))(h:TC P h0 N c env H (Ku h0 b E' H' Q))(k:∀s env H,b=.k s->Le h0 env H (E' s) (H' s)->Q .normal env H):TC P h0 N c env H Q:=np E' H' h k
theorem Lp{S B:Type}{step:S->AB (CJ S B)}{E':S->Env}{H':S->Qb}{m:Nat}{s0:S}{b0:B}(sel keep:AA Nat)(nE:S->Env)(nH:S->AA (Nat×Ci))(h:iter step m s0=AC b0)(_:∀s,Lf sel keep (nE s) (nH s) env H=AC (E' s,H' s))(hI:Le h0 env H (E' s0) (H' s0))
  (body:∀s d,step s=AC d->(∀b,d=.d b->b=b0)->TC P h0 N c (E' s) (H' s) (Y9 (λs env H=>Le h0 env H (E' s) (H' s)) d Q)):TC P h0 N (.loop c) env H Q:=TC.loop E' H' h hI body
end
theorem Oj{S B:Type}{d:CJ S B}{x b0:B}(hb:∀b,d=.d b->b=b0)(h:AC (CJ.d x)=AC d):x=b0:=hb x (Oi h).symm
theorem Rt{fn:Func}{env:Env}{H:Qb}{β:Type}{e r:β}{w:β->A}{Hc:β->Qb}(h:AC e=AC r)(s:Nat)(π:AA Nat)(f:fn.results= #[.tmp s]:=by rfl)(hpre:π.take d=List.range d:=by rfl)
  (hH:π.map (λp=>H[p]?)=((Hc e).map (Q4 (Cu π H.length))).map some:=by rfl)(hπ:π.Nodup:=by decide)(hE:IU (Cu π H.length) env [(s,w e)]:=by exact⟨rfl,trivial⟩):YI P d fn (RQ w Hc r) .ret env H:=by
 cases h;exact R1 s f (Lr π hpre hH hπ hE)
theorem Cl{env:Env}{H:Qb}{Q:Qx}{e b:β}{H':β->Qb}(h:AC e=AC b)(π:AA Nat)(d:π.take f=List.range f:=by rfl)
  (hH:π.map (λp=>H[p]?)=((H' e).map (Q4 (Cu π H.length))).map some:=by rfl)(hπ:π.Nodup:=by decide)(hE:IU (Cu π H.length) env (E' e):=by(repeat' (first|exact trivial|refine⟨rfl,?_⟩))):I0 f b E' H' Q .normal env H:=by
 cases h;exact Lr π d hH hπ hE
def SC(cat:AA Nat):AA (AA (Nat×Nat)):=cat.map λc=>match c with|0=>[(0,0)]|1=>[(0,1)]|2=>[(1,1)]|_=>[(0,0),(1,1)]
def qs(b:Nat)(cat:AA Nat):AA (AA Nat):=cat.map λc=>match c with|2=>[b]|_=>[]
def q_(cat:AA Nat):AA Bool:=cat.map λc=>match c with|1=>AE|_=>AD
section
variable {P:AK} {T:GL} {h0 N m b:Nat} {cat:AA Nat} {l:AA AM} {ds:AA Nat} {env:Env} {H H1:Qb} {Q:Qx} {K:AA AM->Env->Qb->Prop}
theorem ng{P:AK}{N:Nat}{l:AA AM}{ds:AA Nat}{xs:AA A}{env0:Env}{hB hE:Nat}:∀(ss:AA (AA (Qb×Qb))) (b:Nat),(∀i s,ss[i]?=AC s->∀p∈s,Y0 P N l ds xs env0 hB hE (b+i) p.1 p.2)->FP P N l ds xs env0 hB hE b ss
 |[],b,h=>.nil
 |s::ss,b,h=>.cons (h 0 s rfl) (ng ss (b+1) λi s' hs=>by rw[show b+1+i=b+(i+1)by omega];simp_all)
def iA(P:AK)(N:Nat)(cat:AA Nat)(l:AA AM)(ds:AA Nat)(env:Env)(H H1:Qb)(zs:AA A)(j:Nat):Prop:=
 ∀p∈(SC cat).getD j [],Y0 P N l ds zs env H.length H.length j ([H,H1].getD p.1 []) ([H,H1].getD p.2 [])
def DB(P:AK)(N m:Nat)(cat:AA Nat)(l:AA AM)(ds:AA Nat)(env:Env)(H H1:Qb)(K:AA AM->Env->Qb->Prop)(r:AA AM)(xs:AA A):Prop:=
 r=l.drop xs.length->∃ys,xs.length+ys.length=m/\(∀j,xs.length<=j->j<m->iA P N cat l ds env H H1 (xs++ys) j)/\K (l.drop m) (IT ds (xs++ys) env) H1
def DA(P:AK)(N m:Nat)(cat:AA Nat)(l:AA AM)(ds:AA Nat)(env:Env)(H:Qb)(K:AA AM->Env->Qb->Prop)(r:AA AM)(xs:AA A):Prop:=
 r=l.drop xs.length->∃ys H1,xs.length+ys.length=m/\H.length<=H1.length/\(∀j,xs.length<=j->j<m->iA P N cat l ds env H H1 (xs++ys) j)/\K (l.drop m) (IT ds (xs++ys) env) H1
theorem Qsy{d:AA A}(f:cat.length=m)(h:∀j,0<=j->j<m->iA P N cat l ds env H H1 d j):FP P N l ds d env H.length (H.length+0) 0 ((SC cat).map λq=>q.map λp=>([H,H1].getD p.1 [],[H,H1].getD p.2 [])):=by
 refine ng _ 0 λi s hs p g=>?_;rw[Xo]at hs;cases e:(SC cat)[i]? with
 |none=>grind
 |some q=>
  rw[e]at hs;cases hs;obtain⟨x,t,rfl⟩:=Xe.1 g;have y:i<m:=by
   grind[SC]
  have:=h i (XV _) y x gq
  grind
theorem DA.len(d:H.length<=H1.length):[H,H1].all (λX=>Nat.ble (H.length+0) X.length)=true:=by
 simp_all
theorem Qpm(m b:Nat)(cat:AA Nat)(j:P.follows .mixedOrders=AE)(B:HC l m N (Ji m 0 l) (q_ cat) (qs b cat) [[],[b]] (SC cat)=AE)(g:Nat.beq cat.length m=AE)(f:Nat.ble h0 H.length=AE)
  (h:DA P N m cat l (Ji m 0 l) env H (λr e H=>WO P h0 N l.toArray r e H Q) l []):TC P h0 N (.region id l.toArray AE) env H Q:=by
 obtain⟨q,H1,E,t,y,x⟩:=h rfl;have d:=XR g;exact UI m 0 _ _ _ _ _ q [H,H1] H1 j B gq rfl f (DA.len t) sq rfl (Qsy d y) (by simp[SC,d]) x
theorem aT{o:AM}(f:o::r=l.drop xs.length):l[xs.length]?=AC o/\r=l.drop (xs.length+1):=by
 have d:xs.length<l.length:=by
  grind[List.drop_eq_nil_of_le]
 rw[Xp d]at f
 grind
theorem im{zs:AA A}{j c:Nat}(f:QW cat j=AC c)(h:∀p∈match c with|0=>[(0,0)]|1=>[(0,1)]|2=>[(1,1)]|_=>[(0,0),(1,1)],Y0 P N l ds zs env H.length H.length j ([H,H1].getD p.1 []) ([H,H1].getD p.2 [])):iA P N cat l ds env H H1 zs j:=by
 intro p d
 grind[Nc,SC]
theorem Nd{f:AA A}{o:AM}{x:A}{X X':Qb}(m:l[xs.length]?=AC o)(hdd:YU hB hE X X'=AE)(h:WO P X.length N l.toArray [o] (Qq (Qc o) 0 ds xs env) X (YE (up (Qq (Qc o) 0 ds xs env) d x) X'))(g:o.dst=AC d):
  Y0 P N l ds (xs++x::f) env hB hE xs.length X X':=
 .woE o _ d x m g n7 (he:=by
  intro s;rcases jB (af:=Qc o) (env0:=env) (s:=s) ds xs (x::f) 0 with⟨j,y,F,E,B,t⟩|q|q
  .grind
  .grind
  grind) (hdd:=hdd) (h:=h)
theorem YN{n:Nat}{X X':Qb}:YU n n X X'=true:=by unfold YU;simp
theorem DA.wo{o:AM}{x:A}(h:WO P H.length N l.toArray [o] (Qq (Qc o) 0 ds xs env) H (YE (up (Qq (Qc o) 0 ds xs env) d x) H))(k:DA P N m cat l ds env H K r (xs++[x]))
  (L:QW cat xs.length=AC 0:=by rfl)(hd:o.dst=AC d:=by rfl)(hx:Nat.blt xs.length m=true:=by rfl):DA P N m cat l ds env H K (o::r) xs:=by
 intro F;obtain⟨t,E⟩:=aT F;obtain⟨y,H1,G,B,J,f⟩:=k gq;simp[Vl,Vk]at G J f;refine⟨x::y,H1,gq,B,λj M O=>?_,f⟩;rcases VE xs.length j with q|q
 .grind
 .obtain rfl:j=xs.length:=by omega
  refine im L λp g=>?_;obtain rfl:=VD.1 g;exact Nd t YN h hd
theorem DA.op{o:AM}{x:A}(h:WO P H.length N l.toArray [o] (Qq (Qc o) 0 ds xs env) H (YE (up (Qq (Qc o) 0 ds xs env) d x) H1))(k:DB P N m cat l ds env H H1 K r (xs++[x]))(hl:Nat.ble H.length H1.length=true:=by rfl)
  (hc:QW cat xs.length=AC 1:=by rfl)(hd:o.dst=AC d:=by rfl)(hx:Nat.blt xs.length m=true:=by rfl):DA P N m cat l ds env H K (o::r) xs:=by
 intro E;obtain⟨t,B⟩:=aT E;obtain⟨y,F,G,f⟩:=k gq;simp[Vl,Vk]at F G f;refine⟨x::y,H1,gq,(by simp_all),λj J L=>?_,f⟩;rcases VE xs.length j with q|q
 .grind
 .obtain rfl:j=xs.length:=by omega
  refine im hc λp g=>?_;obtain rfl:=VD.1 g;exact Nd t YN h hd
theorem DA.opH{o:AM}{x x':A}{H1':Qb}(h:Fb P o (Qq (Qc o) 0 ds xs env) H x H1)(f:Iv x=.mk x')(g:Lc H1=.mk H1')(k:DB P N m cat l ds env H H1' K r (xs++[x']))(j:o.dst=AC d:=by rfl)(hg:Qv ⟨l⟩ o (Qq (Qc o) 0 ds xs env)=AC true:=by rfl)(hN:Nat.blt d N=true:=by rfl)(hl:Nat.ble H.length H1'.length=true:=by rfl)
  (hc:QW cat xs.length=AC 1:=by rfl)(hx:Nat.blt xs.length m=true:=by rfl):DA P N m cat l ds env H K (o::r) xs:=by
 rw[Nb]at f;rw[Tz]at g;cases f;cases g;exact .op (aD (XU _) (Qh hg) j hN h (WO.nil YE.mk)) k hl hc j hx
theorem DB.done(hx:Nat.beq xs.length m=AE)(h:K r (IT ds xs env) H1):DB P N m cat l ds env H H1 K r xs:=by
 intro d;have e:=XR hx;refine⟨[],by simpa using e,λj g f=>om,?_⟩
 grind
theorem DB.add{o:AM}{x:A}(t:∀ys,l[xs.length]?=AC o->iA P N cat l ds env H H1 (xs++x::ys) xs.length)(k:DB P N m cat l ds env H H1 K r (xs++[x])):DB P N m cat l ds env H H1 K (o::r) xs:=by
 intro f;obtain⟨g,d⟩:=aT f;obtain⟨ys,j,q,h⟩:=k gq
 grind
theorem DB.wo1{o:AM}{x:A}(h:WO P H1.length N l.toArray [o] (Qq (Qc o) 0 ds xs env) H1 (YE (up (Qq (Qc o) 0 ds xs env) d x) H1))(k:DB P N m cat l ds env H H1 K r (xs++[x]))
  (g:QW cat xs.length=AC 2:=by rfl)(hd:o.dst=AC d:=by rfl):DB P N m cat l ds env H H1 K (o::r) xs:=
 .add (λq j=>im g λp f=>by
  obtain rfl:=VD.1 f;exact Nd j YN h hd) k
theorem DB.wo2{o:AM}{x:A}(h:WO P H.length N l.toArray [o] (Qq (Qc o) 0 ds xs env) H (YE (up (Qq (Qc o) 0 ds xs env) d x) H))(j:WO P H1.length N l.toArray [o] (Qq (Qc o) 0 ds xs env) H1 (YE (up (Qq (Qc o) 0 ds xs env) d x) H1))(k:DB P N m cat l ds env H H1 K r (xs++[x]))
  (q:QW cat xs.length=AC 3:=by rfl)(hd:o.dst=AC d:=by rfl):DB P N m cat l ds env H H1 K (o::r) xs:=
 .add (λt g=>im q λp f=>by
  rcases X9.1 f with rfl|f
  .exact Nd g YN h hd
  .obtain rfl:=VD.1 f;exact Nd g YN j hd) k
def eP(T:GL)(N m:Nat)(cat:AA Nat)(l:AA AM)(ds:AA Nat)(env:Env)(H:Qb):Nat->Nat->AA AM->AA A->AB (AA AM×AA A)
 |0,_,r,xs=>AC (r,xs)
 |_+1,_,[],_=>AF
 |n+1,i,o::r,xs=>match Nat.blt i m,QW cat i with
  |true,AC 0=>match o.dst with
   |none=>AF
   |some d=>match Nat.blt d N with
    |false=>AF
    |true=>match Qv ⟨l⟩ o (Qq (Qc o) 0 ds xs env)with
     |none=>AF
     |some AD=>match KY xs (.tup [])with
      |.mk xs'=>eP T N m cat l ds env H n (i+1) r xs'
     |some AE=>match IR T o (Qq (Qc o) 0 ds xs env) H with
      |none=>AF
      |some x=>match KY xs x with
       |.mk xs'=>eP T N m cat l ds env H n (i+1) r xs'
  |_,_=>AF
theorem oB(hT:I3 P T):∀(n i:Nat) {r r':AA AM} {xs xs':AA A},i=xs.length->eP T N m cat l ds env H n i r xs=AC (r',xs')->DA P N m cat l ds env H K r' xs'->DA P N m cat l ds env H K r xs
 |0,i,r,r',xs,xs',_,h,k=>by cases h;exact k
 |n+1,i,[],r',xs,xs',_,h,k=>by cases h
 |n+1,i,o::r,r',xs,xs',hi,h,k=>by
  subst hi;unfold eP at h;split at h
  .rename_i q1 q0;split at h
   .cases h
   .rename_i d hd;split at h
    .cases h
    .rename_i q2;split at h
     .cases h
     .rename_i hw;simp[Jm]at h;exact .wo (WO.skip (Qh hw) hd q2 (WO.nil YE.mk)) (oB hT n _ sq h k) q0 hd q1
     .rename_i hw;split at h
      .cases h
      .rename_i x hv;simp[Jm]at h;exact .wo (Ya (Qh hw) hd q2 (Ne hT hv) (WO.nil YE.mk)) (oB hT n _ sq h k) q0 hd q1
  .cases h
theorem QpN{H:Qb}{p:Bx}{r:Lx}(h:Nu [] p=AC r):Nu H p=AC r:=by
 unfold Nu at h⊢
 grind[QW]
theorem oY{o:AM}{e:Env}{H:Qb}{x:A}(h:IR T o e []=AC x):IR T o e H=AC x:=by
 unfold IR at h⊢;split at h<;>first|exact h|skip
 split at h
 .cases h
 grind[QpN]
def Tv(T:GL)(N:Nat)(cat:AA Nat)(l:AA AM)(ds:AA Nat)(env:Env)(H1:Qb):Nat->Nat->AA AM->AA A->AB (AA AM×AA A)
 |0,_,r,xs=>AC (r,xs)
 |_+1,_,[],_=>AF
 |n+1,i,o::r,xs=>match o.dst with
  |none=>AF
  |some d=>match Nat.blt d N with
   |false=>AF
   |true=>match Qv ⟨l⟩ o (Qq (Qc o) 0 ds xs env)with
    |none=>AF
    |some AD=>match QW cat i with
     |some 2=>(match KY xs (.tup [])with
      |.mk xs'=>Tv T N cat l ds env H1 n (i+1) r xs')
     |some 3=>(match KY xs (.tup [])with
      |.mk xs'=>Tv T N cat l ds env H1 n (i+1) r xs')
     |_=>AF
    |some AE=>match QW cat i with
     |some 2=>(match IR T o (Qq (Qc o) 0 ds xs env) H1 with
      |none=>AF
      |some x=>match KY xs x with
       |.mk xs'=>Tv T N cat l ds env H1 n (i+1) r xs')
     |some 3=>(match IR T o (Qq (Qc o) 0 ds xs env) []with
      |none=>AF
      |some x=>match KY xs x with
       |.mk xs'=>Tv T N cat l ds env H1 n (i+1) r xs')
     |_=>AF
theorem fA(hT:I3 P T):∀(n i:Nat) {r r':AA AM} {xs xs':AA A},i=xs.length->Tv T N cat l ds env H1 n i r xs=AC (r',xs')->DB P N m cat l ds env H H1 K r' xs'->DB P N m cat l ds env H H1 K r xs
 |0,i,r,r',xs,xs',_,h,k=>by cases h;exact k
 |n+1,i,[],r',xs,xs',_,h,k=>by cases h
 |n+1,i,o::r,r',xs,xs',hi,h,k=>by
  subst hi;unfold Tv at h;split at h
  .cases h
  .rename_i d hd;split at h
   .cases h
   .rename_i q2;split at h
    .cases h
    .rename_i hw;split at h
     .rename_i q0;simp[Jm]at h;exact .wo1 (WO.skip (Qh hw) hd q2 (WO.nil YE.mk)) (fA hT n _ sq h k) q0 hd
     .rename_i q0;simp[Jm]at h;exact .wo2 (WO.skip (Qh hw) hd q2 (WO.nil YE.mk)) (WO.skip (Qh hw) hd q2 (WO.nil YE.mk)) (fA hT n _ sq h k) q0 hd
     .cases h
    .rename_i hw;split at h
     .rename_i q0;split at h
      .cases h
      .rename_i x hv;simp[Jm]at h;exact .wo1 (Ya (Qh hw) hd q2 (Ne hT hv) (WO.nil YE.mk)) (fA hT n _ sq h k) q0 hd
     .rename_i q0;split at h
      .cases h
      .rename_i x hv;simp[Jm]at h;exact .wo2 (Ya (Qh hw) hd q2 (Ne hT (oY hv)) (WO.nil YE.mk)) (Ya (Qh hw) hd q2 (Ne hT (oY hv)) (WO.nil YE.mk)) (fA hT n _ sq h k) q0 hd
     .cases h
end
def dr(L:AA (Nat×AA (Nat×Nat)))(fs:AA (Nat×Nat×Nat)):Bool:=
 fs.all λe=>match JE L e.1 with
  |some pl=>(match QW pl e.2.1 with
   |some q=>Nat.beq q.1 e.2.2&& !(Nat.beq q.2 0)
   |none=>AD)
  |none=>AD
theorem PL.get{fs:AA Field}{pl:AA (Nat×Nat)}(h:PL P fs pl):∀{f d n:Nat},QW pl f=AC (d,n)->∃fd,fs[f]?=AC fd/\fd.offset=d/\ ∀w,(sizeOf fd.type).run P w=.ok n w:=by
 induction h with
 |nil=>intro f d n h;cases h
 |cons h k j=>
  intro f d n g;cases f with
  |zero=>cases g;grind
  |succ f=>grind[QW]
theorem Qsa{L:AA (Nat×AA (Nat×Nat))}{fs:AA (Nat×Nat×Nat)}(E:∀e∈L,Sc P e.1 e.2)(h:dr L fs=AE):∀e∈fs,∃n,Yc P e.1 e.2.1 e.2.2 n:=by
 intro e m;have:=Xs.1 h e m;split at this
 .rename_i J d;split at this
  .rename_i q j;obtain⟨t,n⟩:=q;simp only[XX,Bool.not_eq_true']at this;have y:=XR this.1;obtain⟨F,B,x⟩:=E _ (Yk d);obtain⟨g,H,f,G⟩:=PL.get x j;refine⟨n,⟨⟨_,g,B,gq,f.trans y,G,?_⟩⟩⟩
   grind[Nat.beq_refl]
  .cases this
 .cases this
section
variable {P:AK} {Z:OE} {h0 N:Nat} {all:Array AM} {o:AM} {l:AA AM} {env:Env} {H:Qb} {Q:Qx} {d:Nat}
theorem iF(B:Lh P Z){r:γ}{j:AA A}{w:β->A}{Hr:β->Qb}(π:AA Nat)(h:F.bind F'=AC r)(q:∀v,F=AC v->C P f j Hc (RQ w Hr v))
  (m:IQ Z o env=AC (d,f,args))(g:∀v,F=AC v->F' v=AC r->WO P h0 N all l (up env d (YM (Cu π H.length) (w v))) (QQ H π ((Hr v).map (Q4 (Cu π H.length)))) Q)
  (hargs:args=Jg (Cu π H.length) j)(hH:π.map (λp=>H[p]?)=(Hc.map (Q4 (Cu π H.length))).map AC)(hπ:π.Nodup)(hg:Qv all o env=AC AE)(G:Nat.blt d N=AE)(t:Nat.ble h0 H.length=AE):WO P h0 N all (o::l) env H Q:=by
 obtain⟨v,y,J⟩:=Yf h;obtain⟨x,E⟩:=i_ (H:=H) B m;refine Qt π E (q v y) ?_ hargs hH hπ (Qh hg) x G t
 grind
end
inductive FLL where
 |mk (l:List (List A))
def dn(sel:AA Nat):AA (AA A)->FLL
 |[]=>.mk []
 |a::r=>match Th sel a,dn sel r with
  |.mk a',.mk r'=>.mk (a'::r')
inductive FBk where
 |mk (b:Ci)
def mO(sel:AA Nat):Ci->FBk
 |.cells t cs=>match Th sel cs with
  |.mk l=>.mk (.cells t l)
 |.rowr t k es=>match dn sel es with
  |.mk l=>.mk (.rowr t k l)
 |.ents t a b es=>match Zz sel ixL a,Zz sel ixL b with
  |.mk a',.mk b'=>.mk (.ents t a' b' es)
 |b=>.mk b
def bP(H:Qb)(sel:AA Nat):AA Nat->FB
 |[]=>.mk []
 |a::r=>match QW H a with
  |some b=>(match mO sel b,bP H sel r with
   |.mk b',.mk l=>.mk (b'::l))
  |none=>.mk []
def bQ(sel sl:AA Nat)(env:Env)(H:Qb):AB (Env×Qb):=
 match il sel env sl [],bP H sel sel with
 |.mk e,.mk h=>AC (e,h)
theorem Rx{g:Nat}{fn:Func}{env E':Env}{H:Qb}{Qr:A->Qb->Prop}{h:A}(π sl:AA Nat)(_:bQ π sl env H=AC (E',H'))(f:IA P fn E' H' h)(j:Qr h H')(d:π.take g=List.range g:=by rfl)
  (hH:π.map (λp=>H[p]?)=(H'.map (Q4 (Cu π H.length))).map some:=by rfl)(hπ:π.Nodup:=by decide)(hE:IU (Cu π H.length) env E':=by(repeat' (first|exact trivial|refine⟨rfl,?_⟩))):YI P g fn Qr .ret env H:=
 ⟨E',H',h,Lr π d hH hπ hE,f,j⟩
end
end Go.Sw
