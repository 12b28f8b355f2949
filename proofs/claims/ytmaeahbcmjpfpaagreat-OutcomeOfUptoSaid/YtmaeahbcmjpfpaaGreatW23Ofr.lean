import Derived.Test.YtmaeahbcmjpfpaaGreatV23Of
set_option linter.unusedVariables false
set_option linter.unusedSimpArgs false
set_option maxRecDepth 100000
set_option maxHeartbeats 4000000
namespace Go.Sw
open Option renaming some→AC,none→AF
open Bool renaming false→AD,true→AE
open List renaming length→AI
open Go renaming Program→AK,Oper→AM
open Go.Proofs Tryz
theorem Yz{env:Env}{H H':Qb}{d k t:Nat}{es:AA (AA A)}(i:Nat)(ov:Env)(hi:Nat.ble d i=true:=by rfl)(hH:H[i]?=AC (.r t k es):=by rfl)
    (hov:Iy i k es env ov:=by repeat' first|exact Iy.nil|apply Iy.cons Z|exact FC.o|with_reducible apply Ec|apply FC.agg|apply FC.tup|exact Ej _|exact Ed _)
    (hHv:GO i k es (H.set i .dead) H':=by repeat' first|exact GO.nil|exact FC.o|apply GO.cells|apply GO.keep|with_reducible apply Ec|apply FC.agg|apply FC.tup|exact Ej _|exact Ed _):Le d env H (ov++env) H':=mY ov hi hH hov hHv
theorem Tu{env:Env}{H H':Qb}{d k t:Nat}{es:AA (AA A)}(i:Nat)(ov:Env)(hi:Nat.ble d i=true:=by rfl)(hH:H[i]?=AC (.r t k es):=by rfl)
    (hov:Iy i k es env ov:=by repeat' first|exact Iy.nil|apply Iy.cons Z|exact FC.o|apply Ec|apply FC.agg|apply FC.tup|exact Ej _|exact Ed _)
    (hHv:GO i k es (H.set i .dead) H':=by repeat' first|exact GO.nil|exact FC.o|apply GO.cells|apply GO.keep|apply Ec|apply FC.agg|apply FC.tup|exact Ej _|exact Ed _):Le d env H (ov++env) H':=mY ov hi hH hov hHv
def Nt:Nat->Cf->AA Kf->Cf×AA Kf
  |n+1,.out x,k=>match ic (.out x) k with
    |some (c',k')=>Nt n c' k'
    |none=>(.out x,k)
  |_,c,k=>(c,k)
def F5(c:Cf)(k:AA Kf):AB (Cf×AA Kf):=match ic c k with
  |some (c',k')=>AC (Nt 100 c' k')
  |none=>AF
section
variable {P:AK} {h0 N:Nat} {Q:Qx} {env:Env} {H:Qb}
theorem tX:∀(n:Nat) {c c':Cf} {k k':AA Kf},Nt n c k=(c',k')->Hd P h0 N c' k' env H Q->Hd P h0 N c k env H Q
  |0,c,c',k,k',h,g=>by
    cases c<;>(cases h;exact g)
  |n+1,c,c',k,k',h,g=>by
    unfold Nt at h;split at h
    · split at h
      · rename_i e;exact uN e (tX _ h g)
      · cases h;exact g
    · cases h;exact g
theorem UM{c f:Cf}{k d:AA Kf}(h:F5 c k=AC (f,d))(g:Hd P h0 N f d env H Q):Hd P h0 N c k env H Q:=by
  unfold F5 at h;split at h
  · rename_i e;exact uN e (tX 100 (X0 h) g)
  · cases h
theorem UcS{k:AA Kf}{c:Code}{c':Cf}{k':AA Kf}(h:F5 (.code c) k=AC (c',k'))(g:Hd P h0 N c' k' env H Q):TC P h0 N c env H (kq P h0 N k Q):=UM h g
theorem UxS{k:AA Kf}{x:Ln}{c':Cf}{k':AA Kf}(h:F5 (.out x) k=AC (c',k'))(g:Hd P h0 N c' k' env H Q):kq P h0 N k Q x env H:=UM h g
theorem UoS{k:AA Kf}{all:Array AM}{l:AA AM}{c':Cf}{k':AA Kf}(h:F5 (.ops all l) k=AC (c',k'))(g:Hd P h0 N c' k' env H Q):WO P h0 N all l env H (kq P h0 N k Q):=UM h g
end
def L3:AA (Nat×Bool×Nat)->Nat->AB (Bool×Nat)
  |[],_=>AF
  |(s,b,n)::r,t=>match Nat.beq s t with
    |true=>AC (b,n)
    |false=>L3 r t
theorem MC:∀{l:AA (Nat×Bool×Nat)} {t:Nat} {b:Bool} {n:Nat},L3 l t=AC (b,n)->(t,b,n)∈l
  |(s,b',n')::r,t,b,n,h=>by
    unfold L3 at h;split at h
    · rename_i e
      cases h;rw[XR e];exact X7 ..
    · exact X8 _ (MC h)
instance:LookT prog 116 I (λx=>A.a (Ud.c x)) {AW:=0,Ay:={Lo:=0,Hi:=0}}:=⟨_,_,_,YY,underlying116,zeroValue128,IN Z⟩
instance:LookT prog 426 (λx=>A.a (Um.c x)) A.b false:=⟨_,_,_,QpV,underlying426,Gi,ZR.bool⟩
instance:LookT prog 301 (λx=>A.a (Ub.c x)) (λx=>A.a (C2.c x)) {A5:=0,To:=0,Bn:=0,Bs:=0}:=⟨_,_,_,QpU,underlying301,zeroValue213,IN Z⟩
inductive FLs where
  |mk (l:List A)
def iM:Nat->AA A->AB FLs
  |0,_=>AC (.mk [])
  |n+1,a::r=>match iM n r with
    |some (.mk l)=>AC (.mk (a::l))
    |none=>AF
  |_+1,[]=>AF
theorem m4:∀{n:Nat} {l vs:AA A},iM n l=AC (.mk vs)->l.take n=vs/\AI vs=n
  |0,l,vs,h=>by cases h;exact⟨List.take_zero,Z⟩
  |n+1,[],vs,h=>by cases h
  |n+1,a::r,vs,h=>by
    unfold iM at h;split at h
    · rename_i q e
      cases h;have:=m4 e;exact⟨by rw[List.take_succ_cons,this.1],by rw[X3,this.2]⟩
    · cases h
inductive Pt where
  |w (b:Ci)
  |c (l:List (Nat×A))
def JP:Code->AB Nat
  |.seq a b=>match JP a with
    |some i=>AC i
    |none=>JP b
  |.cond _ a b=>match JP a with
    |some i=>AC i
    |none=>JP b
  |.block _ c=>JP c
  |.loop c=>JP c
  |.region i _ _=>AC i
  |_=>AF
def I':Code->Nat
  |.seq a b=>I' a+I' b
  |.cond _ a b=>I' a+I' b
  |.block _ c=>I' c
  |.loop c=>I' c
  |.region _ _ _=>1
  |_=>0
def JQ:Code->Nat
  |.seq a b=>JQ a+JQ b
  |.cond _ a b=>JQ a+JQ b+1
  |.block _ c=>JQ c
  |.loop c=>JQ c
  |_=>0
def N3(c:Code):Nat:=(match JP c with
  |some i=>i
  |none=>0)*10000+I' c*100+JQ c
structure Hn {β:Type} (key:Nat) (sel keep:List Nat) (nE:β->Env) (nP:β->List (Nat×Pt)):Prop where
  t:True
structure Hl {β:Type} (key:Nat) (sel keep:List Nat) (nE:β->Env) (nP:β->List (Nat×Pt)):Prop where
  t:True
theorem hn{β:Type}(key:Nat)(sel keep:AA Nat)(nE:β->Env)(nP:β->AA (Nat×Pt)):Hn key sel keep nE nP:=⟨trivial⟩
theorem hl{β:Type}(key:Nat)(sel keep:AA Nat)(nE:β->Env)(nP:β->AA (Nat×Pt)):Hl key sel keep nE nP:=⟨trivial⟩
inductive FB1 where
  |mk (b:Ci)
def dp(sel:AA Nat):Ci->FB1
  |.c t cs=>match Th sel cs with
    |.mk l=>.mk (.c t l)
  |b=>.mk b
def Sz:AA A->Nat->AA (Nat×A)->AA A
  |a::r,j,(q,b)::n=>match Nat.beq j q with
    |true=>b::Sz r (j+1) n
    |false=>a::Sz r (j+1) ((q,b)::n)
  |l,_,_=>l
def Nq(H:Qb)(sel0:AA Nat):AA Nat->AA Nat->AA (Nat×Pt)->FB
  |a::r,p::ps,[]=>match QW H a,Nq H sel0 r ps []with
    |some b,.mk l=>match dp sel0 b with
      |.mk b'=>.mk (b'::l)
    |none,.mk l=>.mk l
  |a::r,p::ps,(q,x)::n=>match Nat.beq p q with
    |true=>match x,Nq H sel0 r ps n with
      |.w b,.mk l=>.mk (b::l)
      |.c ch,.mk l=>match QW H a with
        |some (.c t cs)=>match Th sel0 cs with
          |.mk cs'=>match fl (Sz cs' 0 ch)with
            |.mk z=>.mk (.c t z::l)
        |_=>.mk l
    |false=>match QW H a,Nq H sel0 r ps ((q,x)::n)with
      |some b,.mk l=>match dp sel0 b with
        |.mk b'=>.mk (b'::l)
      |none,.mk l=>.mk l
  |_,_,_=>.mk []
def Kk(sel keep:AA Nat)(nE:Env)(nP:AA (Nat×Pt))(env:Env)(H:Qb):AB (Env×Qb):=match il sel env keep nE,Nq H sel sel ixL nP with
  |.mk e,.mk h=>AC (e,h)
def Ny(env:Env)(H':Qb):Env->AB (Nat×Nat×Nat)
  |[]=>AF
  |(s,.s j _ _ k)::r=>match N0 env s with
    |.mk .n=>match QW H' j with
      |some (.r t _ _)=>AC (s,k,t)
      |_=>Ny env H' r
    |_=>Ny env H' r
  |_::r=>Ny env H' r
theorem LrN{h0 s k t:Nat}{env env':Env}{H H':Qb}(hq:Ny env H' env'=AC (s,k,t))(hh:Nat.ble h0 (AI H)=AE)(hs:lk env s=.n)(g:Le h0 (up env s (.s (AI H) 0 0 k)) (H++[.r t k []]) env' H'):Le h0 env H env' H':=En (Ep (XS hh) hs) g
section
variable {h0 N m n d id t et k f:Nat} {all:Array AM} {o:AM} {l r r' ll:AA AM} {ds:AA Nat} {env env' env0:Env} {H H' H1 X:Qb} {Q:Qx} {α:Type} {e:α->AA A} {L:AA α} {kk:IntKind} {i:Int} {v:α} {args argsc:AA A} {Hc:Qb} {π:AA Nat}
theorem iD{β:Type}{P:AK}{c:Code}{E':β->Env}{H':β->Qb}(b:β)(h:TC P h0 N c env H (I0 h0 b E' H' Q))(k:∀env H,Le h0 env H (E' b) (H' b)->Q .normal env H):TC P h0 N c env H Q:=
  h.mono λx env' H' q=>by
    cases x with
    |normal=>exact k _ _ q
    |exit id=>exact q
    |ret=>exact q
theorem CgH{β γ:Type}{x:AB β}{f:β->AB γ}{r:γ}{key:Nat}{sel keep:AA Nat}{nE:β->Env}{nP:β->AA (Nat×Pt)}{E':β->Env}{Hb:β->Qb}{k k2:AA Kf}{c c2:Code}(hk:N3 c=key)(hn:Hn key sel keep nE nP)(h:x.bind f=AC r)(hr:F5 (.out .normal) k=AC (.code c2,k2))(hc:∀b,Kk sel keep (nE b) (nP b) env H=AC (E' b,Hb b))(g1:∀b,x=AC b->TC prog h0 N c env H (kq prog h0 N [] (I0 h0 b E' Hb (kq prog h0 N k Q))))(g2:∀b,f b=AC r->TC prog h0 N c2 (E' b) (Hb b) (kq prog h0 N k2 Q)):TC prog h0 N c env H (kq prog h0 N k Q):=Bd h λb h3 h4=>iD b (g1 b h3) λ_ _ e=>UM hr (Ee e (g2 b h4))
theorem qj{S B γ:Type}{x:AB (CJ S B)}{f:CJ S B->AB γ}{r:γ}{key:Nat}{sel keep:AA Nat}{nE:S->Env}{nP:S->AA (Nat×Pt)}{E':S->Env}{Hb:S->Qb}{k k2:AA Kf}{c c2:Code}(hk:N3 c=key)(hn:Hn key sel keep nE nP)(h:x.bind f=AC r)(hr:F5 (.out .normal) k=AC (.code c2,k2))(hc:∀b,Kk sel keep (nE b) (nP b) env H=AC (E' b,Hb b))(g1:∀b,f b=AC r->x=AC b->TC prog h0 N c env H (kq prog h0 N [] (Ku h0 b E' Hb (kq prog h0 N k Q))))(g2:∀b s,b=CJ.k s->f b=AC r->TC prog h0 N c2 (E' s) (Hb s) (kq prog h0 N k2 Q)):TC prog h0 N c env H (kq prog h0 N k Q):=Bd h λb h3 h4=>np E' Hb (g1 b h4 h3) λs _ _ q e=>UM hr (Ee e (g2 b s q h4))
theorem fg{S B γ:Type}{step:S->AB (CJ S B)}{m key:Nat}{s0:S}{f:B->AB γ}{r:γ}{sel keep sel2 keep2:AA Nat}{nE:B->Env}{nP:B->AA (Nat×Pt)}{nE2:S->Env}{nP2:S->AA (Nat×Pt)}{E1:B->Env}{H1:B->Qb}{E2:S->Env}{H2:S->Qb}{k k2:AA Kf}{id:Nat}{c c2:Code}(hk:N3 c=key)(hn:Hn key sel keep nE nP)(hl:Hl key sel2 keep2 nE2 nP2)(h:(iter step m s0).bind f=AC r)(hr:F5 (.out .normal) k=AC (.code c2,k2))(hc:∀b,Kk sel keep (nE b) (nP b) env H=AC (E1 b,H1 b))(hc2:∀b,Kk sel2 keep2 (nE2 b) (nP2 b) env H=AC (E2 b,H2 b))(hI:Le h0 env H (E2 s0) (H2 s0))
    (g:∀b,f b=AC r->TC prog h0 N c2 (E1 b) (H1 b) (kq prog h0 N k2 Q))
    (body:∀b,∀s d,step s=AC d->(∀b',d=.d b'->b'=b)->TC prog h0 N c (E2 s) (H2 s) (kq prog h0 N [] (Y9 (λs env H=>Le h0 env H (E2 s) (H2 s)) d (kq prog h0 N [.blo id] (I0 h0 b E1 H1 (kq prog h0 N k Q)))))):
    TC prog h0 N (.block id (.loop c)) env H (kq prog h0 N k Q):=Bd h λb h3 h4=>iD b (TC.block (TC.loop E2 H2 h3 hI (body b))) λ_ _ e=>UM hr (Ee e (g b h4))
theorem Qsu{S S' B γ:Type}{step:S->AB (CJ S (CJ S' B))}{m key:Nat}{s0:S}{f:CJ S' B->AB γ}{r:γ}{sel keep sel2 keep2:AA Nat}{nE:S'->Env}{nP:S'->AA (Nat×Pt)}{nE2:S->Env}{nP2:S->AA (Nat×Pt)}{E1:S'->Env}{H1:S'->Qb}{E2:S->Env}{H2:S->Qb}{k k2:AA Kf}{id:Nat}{c c2:Code}(hk:N3 c=key)(hn:Hn key sel keep nE nP)(hl:Hl key sel2 keep2 nE2 nP2)(h:(iter step m s0).bind f=AC r)(hr:F5 (.out .normal) k=AC (.code c2,k2))(hc:∀b,Kk sel keep (nE b) (nP b) env H=AC (E1 b,H1 b))(hc2:∀b,Kk sel2 keep2 (nE2 b) (nP2 b) env H=AC (E2 b,H2 b))(hI:Le h0 env H (E2 s0) (H2 s0))
    (g:∀b s,b=CJ.k s->f b=AC r->TC prog h0 N c2 (E1 s) (H1 s) (kq prog h0 N k2 Q))
    (body:∀b,f b=AC r->∀s d,step s=AC d->(∀b',d=.d b'->b'=b)->TC prog h0 N c (E2 s) (H2 s) (kq prog h0 N [] (Y9 (λs env H=>Le h0 env H (E2 s) (H2 s)) d (kq prog h0 N [.blo id] (Ku h0 b E1 H1 (kq prog h0 N k Q)))))):
    TC prog h0 N (.block id (.loop c)) env H (kq prog h0 N k Q):=Bd h λb h3 h4=>np E1 H1 (TC.block (TC.loop E2 H2 h3 hI (body b h4))) λs _ _ q e=>UM hr (Ee e (g b s q h4))
end
class UnE {α:Type} (e:α->AA A) where
  cs:α->AA A
  eq:∀x,e x=cs x
instance:UnE CM.enc:=⟨_,YF⟩
instance:UnE AX.enc:=⟨_,fT⟩
instance:UnE AR.enc:=⟨_,fR⟩
instance:UnE Value.enc:=⟨_,pE⟩
section
variable {h0 N m n d id t et k f:Nat} {all:Array AM} {o:AM} {l r r' ll:AA AM} {ds:AA Nat} {env env' env0:Env} {H H' H1 X:Qb} {Q:Qx} {α:Type} {e:α->AA A} {L:AA α} {kk:IntKind} {i:Int} {v:α} {args argsc:AA A} {Hc:Qb} {π:AA Nat}
theorem CzA{β γ:Type}{F:AB β}{F':β->AB γ}{r:γ}{w:β->A}{Hr:β->Qb}(h:F.bind F'=AC r)(q:Kp prog F f argsc Hc w Hr)(m:Hr=λ_=>Hc)(j:IQ Fo o env=AC (d,f,args))(hπ:Zp argsc args Hc H=AC π)(t:∀v,OH (w v)=AC (.mk (w v)))(hargs:args=Jg (Cu π (AI H)) argsc)(hH:π.map (λp=>H[p]?)=(Hc.map (Q4 (Cu π (AI H)))).map AC)(hn:Lu π=AE)(hg:Qv all o env=AC AE)(y:Nat.blt d N=AE)(x:Nat.ble h0 (AI H)=AE)(g:∀v,F=AC v->F' v=AC r->WO prog h0 N all l (up env d (w v)) H Q):WO prog h0 N all (o::l) env H Q:=by
  subst m;exact qf Y5 π h q.c j g t hargs hH (Sh hn) hg y x
theorem CdA{β γ:Type}{F:AB β}{F':β->AB γ}{r:γ}{w:β->A}{Hr:β->Qb}(h:F.bind F'=AC r)(hC:Kp prog F f argsc Hc w Hr)(hop:IQ Fo o env=AC (d,f,args))(hπ:Zp argsc args Hc H=AC π)(hargs:args=Jg (Cu π (AI H)) argsc)(hH:π.map (λp=>H[p]?)=(Hc.map (Q4 (Cu π (AI H)))).map AC)(hn:Lu π=AE)(hg:Qv all o env=AC AE)(hN:Nat.blt d N=AE)(hh:Nat.ble h0 (AI H)=AE)(g:∀v,F=AC v->F' v=AC r->WO prog h0 N all l (up env d (YM (Cu π (AI H)) (w v))) (QQ H π ((Hr v).map (Q4 (Cu π (AI H))))) Q):WO prog h0 N all (o::l) env H Q:=iF Y5 π h hC.c hop g hargs hH (Sh hn) hg hN hh
theorem CbA{β γ:Type}{F:AB β}{F':β->AB γ}{r:γ}{w:β->A}{Hr:β->Qb}(h:F.bind F'=AC r)(q:Kp prog F f argsc [] w Hr)(m:Hr=λ_=>[])(j:IQ Fo o env=AC (d,f,args))(x:E_ H args argsc)(t:∀v,Yb (w v)=AE)(hg:Qv all o env=AC AE)(y:Nat.blt d N=AE)(g:∀v,F=AC v->F' v=AC r->WO prog h0 N all l (up env d (w v)) H Q):WO prog h0 N all (o::l) env H Q:=by
  subst m;exact xj Y5 h q.c j x g t hg y
theorem DzA{β γ:Type}{F:AB β}{F':β->AB γ}{r:γ}{w:β->A}{Hr:β->Qb}{K:AA AM->Env->Qb->Prop}{xs:AA A}(h:F.bind F'=AC r)(t:Kp prog F f argsc Hc w Hr)(q:Hr=λ_=>Hc)(j:IQ Fo o (Qq (Qc o) 0 ds xs env)=AC (d,f,args))(hπ:Zp argsc args Hc H=AC π)(x:∀v,OH (w v)=AC (.mk (w v)))(hargs:args=Jg (Cu π (AI H)) argsc)(hH:π.map (λp=>H[p]?)=(Hc.map (Q4 (Cu π (AI H)))).map AC)(hn:Lu π=AE)(hg:Qv ll.toArray o (Qq (Qc o) 0 ds xs env)=AC AE)(y:Nat.blt d N=AE)(hx:Nat.blt (AI xs) m=AE)(g:∀v,F=AC v->F' v=AC r->DS prog N m ll ds env H K l (xs++[w v])):DS prog N m ll ds env H K (o::l) xs:=by
  subst q;exact xa Y5 π h t.c j g x hargs hH (Sh hn) hg y hx
theorem pU{β:Type}{f:α->AB β}{r:β}(h:(CN L i).bind f=AC r)(q:Lb o env=AC (d,t,k,L.map e,kk,i))(ht:JE Fo.sl t=AC (et,k))(hg:Qv all o env=AC AE)(hN:Nat.blt d N=AE)(g:∀v,CN L i=AC v->f v=AC r->WO prog h0 N all l (up env d (.rp (e v))) H Q):WO prog h0 N all (o::l) env H Q:=Bd h λv a h=>aW Y5 a q (g v a h) ht hg hN
theorem pT{β:Type}{f:α->AB β}{r:β}(h:(CN L i).bind f=AC r)(q:Lb o env=AC (d,t,k,L.map e,kk,i))(U:UnE e)(ht:JE Fo.sl t=AC (et,k))(hg:Qv all o env=AC AE)(hN:Nat.blt d N=AE)(g:∀v,CN L i=AC v->f v=AC r->WO prog h0 N all l (up env d (.rp (UnE.cs e v))) H Q):WO prog h0 N all (o::l) env H Q:=Bd h λv a h=>pS Y5 a (UnE.eq v) q (g v a h) ht hg hN
theorem h_{β:Type}{f:α->AB β}{r:β}{K:AA AM->Env->Qb->Prop}{xs:AA A}(h:(CN L i).bind f=AC r)(q:Lb o (Qq (Qc o) 0 ds xs env)=AC (d,t,k,L.map e,kk,i))(ht:JE Fo.sl t=AC (et,k))(hg:Qv ll.toArray o (Qq (Qc o) 0 ds xs env)=AC AE)(hN:Nat.blt d N=AE)(hd:o.dst=AC d)(hx:Nat.blt (AI xs) m=AE)(g:∀v,CN L i=AC v->f v=AC r->DS prog N m ll ds env H K l (xs++[.rp (e v)])):DS prog N m ll ds env H K (o::l) xs:=Bd h λv a h=>DS.wo (aW Y5 a q Wp ht hg hN) (g v a h) hd hx
theorem Qsw{β:Type}{f:α->AB β}{r:β}{K:AA AM->Env->Qb->Prop}{xs:AA A}(h:(CN L i).bind f=AC r)(q:Lb o (Qq (Qc o) 0 ds xs env)=AC (d,t,k,L.map e,kk,i))(U:UnE e)(ht:JE Fo.sl t=AC (et,k))(hg:Qv ll.toArray o (Qq (Qc o) 0 ds xs env)=AC AE)(hN:Nat.blt d N=AE)(hd:o.dst=AC d)(hx:Nat.blt (AI xs) m=AE)(g:∀v,CN L i=AC v->f v=AC r->DS prog N m ll ds env H K l (xs++[.rp (UnE.cs e v)])):DS prog N m ll ds env H K (o::l) xs:=Bd h λv a h=>DS.wo (pS Y5 a (UnE.eq v) q Wp ht hg hN) (g v a h) hd hx
theorem Lm2{k':Nat}(q:SG o env=AC (d,t,.mk (.q k (L.map e))))(ht:JE Fo.sl t=AC (et,k'))(hg:Qv all o env=AC AE)(hN:Nat.blt d N=AE)(g:WO prog h0 N all l (up env d (I (AI L))) H Q):WO prog h0 N all (o::l) env H Q:=xW Y5 q g ht hg hN
section
variable {T:Nat} {x y z:Operand} {α β γ:Type} {dec:DecidableEq α} {ek:α->A} {ev:β->A} {L:AA (α×β)} {k:α} {z0:β} {r:γ} {i:Nat}
theorem fk{f:β->AB γ}(h:(AC (@Qd _ _ dec L k z0)).bind f=AC r)(ho:o.op=.lookup T x y AD)(E:LookT prog T ek ev z0)(hx:CS env x=.map i)(hH:H[i]?=AC (.map (Qi ek ev L)))(hy:CS env y=ek k)(hg:Qv all o env=AC AE)(hd:o.dst=AC d)(hN:Nat.blt d N=AE)
    (g:∀v,AC (Qd L k z0)=AC v->f v=AC r->WO prog h0 N all l (up env d (ev v)) H Q):WO prog h0 N all (o::l) env H Q:=fm h ho hx hH hy hg hd hN g
theorem fj{f:β->AB γ}(h:(AC (@Qd _ _ dec L k z0)).bind f=AC r)(ho:o.op=.lookup T x y AE)(E:LookT prog T ek ev z0)(hx:CS env x=.map i)(hH:H[i]?=AC (.map (Qi ek ev L)))(hy:CS env y=ek k)(hg:Qv all o env=AC AE)(hd:o.dst=AC d)(hN:Nat.blt d N=AE)
    (g:∀v,AC (Qd L k z0)=AC v->f v=AC r->WO prog h0 N all l (up env d (.t [ev v,.b (GN L k)])) H Q):WO prog h0 N all (o::l) env H Q:=Bd h λv h1 h2=>by
  obtain⟨kt,et,z,q1,q2,q3,q4⟩:=E.c;exact vV (wR q1 h1 q2 q3 q4 ho hx hH hy) (g v h1 h2) (Qh hg) hd hN
theorem fe{f:AA (α×β)->AB γ}{v:β}(h:(AC (@QE _ _ dec L k v)).bind f=AC r)(ho:o.op=.mapUpdate T x y z)(E:LookT prog T ek ev z0)(hx:CS env x=.map i)(hH:H[i]?=AC (.map (Qi ek ev L)))(hy:CS env y=ek k)(hv:CS env z=ev v)(hdt:Yn (ev v)=AE)(hg:Qv all o env=AC AE)(hd:o.dst=AF)(hh:Nat.ble h0 (AI H)=AE)
    (g:∀m,AC (QE L k v)=AC m->f m=AC r->WO prog h0 N all l env (H.set i (.map (Qi ek ev m))) Q):WO prog h0 N all (o::l) env H Q:=ff h ho hx hH hy hv hdt hg hd hh g
end
theorem ApV{β:Type}{M:AA α}{f:AA α->AB β}{r:β}{x y:Operand}{c:Call}{T T' et et' k k' b n:Nat}{ya:A}(h:(app L M).bind f=AC r)(ho:o.op=.call c)(hc:c={callee:=.builtin .append,args:= #[x,y],argTypes:= #[T,T']})(E:ElemTy prog T et k)(E':ElemTy prog T' et' k')(hx:CS env x=.o b n k)(hn:AI L=n)(hH:H[b]?=AC (.r et k (L.map e)))(hy:CS env y=ya)(hs:G6 prog H ya k (M.map e))
    (hg:Qv all o env=AC AE)(hd:o.dst=AC d)(hN:Nat.blt d N=AE)(hh:Nat.ble h0 (AI H)=AE)(g:∀v,app L M=AC v->f v=AC r->WO prog h0 N all l (up env d (.s (AI H) 0 (AI v) k)) (H.set b .dead++[.r et k (v.map e)]) Q):WO prog h0 N all (o::l) env H Q:=Bd h λv h1 h2=>vH (YP h1 E E'.sl hs hn ho hc hx hH hy) (g v h1 h2) (Qh hg) hd hN hh
theorem ApW{β:Type}{M:AA α}{f:AA α->AB β}{r:β}{x y:Operand}{c:Call}{T T' et et' k k' b n:Nat}{ya:A}(h:(app L M).bind f=AC r)(ho:o.op=.call c)(hc:c={callee:=.builtin .append,args:= #[x,y],argTypes:= #[T,T']})(E:ElemTy prog T et k)(E':ElemTy prog T' et' k')(hx:CS env x=.o b n k)(hn:AI L=n)(hy:CS env y=ya)(hs:G6 prog H ya k (M.map e))(hH:H[b]?=AC (.r et k (L.map e)))
    (hg:Qv all o env=AC AE)(hd:o.dst=AC d)(hN:Nat.blt d N=AE)(hh:Nat.ble h0 (AI H)=AE)(g:∀v,app L M=AC v->f v=AC r->WO prog h0 N all l (up env d (.s (AI H) 0 (AI v) k)) (H.set b .dead++[.r et k (v.map e)]) Q):WO prog h0 N all (o::l) env H Q:=Bd h λv h1 h2=>vH (YP h1 E E'.sl hs hn ho hc hx hH hy) (g v h1 h2) (Qh hg) hd hN hh
theorem ApN{β:Type}{M:AA α}{f:AA α->AB β}{r:β}{x y:Operand}{c:Call}{T T' et et' k k':Nat}{ya:A}(h:(app [] M).bind f=AC r)(ho:o.op=.call c)(hc:c={callee:=.builtin .append,args:= #[x,y],argTypes:= #[T,T']})(E:ElemTy prog T et k)(E':ElemTy prog T' et' k')(hx:CS env x=.n)(hy:CS env y=ya)(hs:G6 prog H ya k (M.map e))
    (hg:Qv all o env=AC AE)(hd:o.dst=AC d)(hN:Nat.blt d N=AE)(hh:Nat.ble h0 (AI H)=AE)(g:∀v,app [] M=AC v->f v=AC r->WO prog h0 N all l (up env d (.s (AI H) 0 (AI v) k)) (H++[.r et k (v.map e)]) Q):WO prog h0 N all (o::l) env H Q:=Bd h λv h1 h2=>vH (Qo9 h1 E E'.sl hs ho hc hx hy) (g v h1 h2) (Qh hg) hd hN hh
theorem ApR{β:Type}{L' M:AA α}{f:AA α->AB β}{r:β}{x y:Operand}{c:Call}{T T' et et' k k' b:Nat}{ya:A}{z:Int}(h:(app L' M).bind f=AC r)(ho:o.op=.call c)(hc:c={callee:=.builtin .append,args:= #[x,y],argTypes:= #[T,T']})(E:ElemTy prog T et k)(E':ElemTy prog T' et' k')(hx:CS env x=.s b (0+Int.toNat 0) (z.toNat-Int.toNat 0) k)(hl:Do L 0 z=AC L')(hH:H[b]?=AC (.r et k (L.map e)))(hy:CS env y=ya)(hs:G6 prog H ya k (M.map e))
    (hg:Qv all o env=AC AE)(hd:o.dst=AC d)(hN:Nat.blt d N=AE)(hh:Nat.ble h0 (AI H)=AE)(g:∀v,app L' M=AC v->f v=AC r->WO prog h0 N all l (up env d (.s (AI H) 0 (AI v) k)) (H.set b .dead++[.r et k (v.map e)]) Q):WO prog h0 N all (o::l) env H Q:=Bd h λv h1 h2=>vH (Qo8 hl h1 E E'.sl hs ho hc hx hH hy) (g v h1 h2) (Qh hg) hd hN hh
theorem SlU{β:Type}{f:AA α->AB β}{r:β}{T b:Nat}{x:Operand}{lo hi:AB Operand}{a c:Int}(h:(Do L a c).bind f=AC r)(ho:o.op=.slice T x lo hi AF)(hx:CS env x=.o b (AI L) k)(ht:JE Fo.sl T=AC (et,k))(hlo:lo=AF/\a=0\/ ∃y,lo=AC y/\CS env y=I a)(hhi:hi=AF/\c=AI L\/ ∃y,hi=AC y/\CS env y=I c)(hg:Qv all o env=AC AE)(hd:o.dst=AC d)(hN:Nat.blt d N=AE)(g:∀v,Do L a c=AC v->f v=AC r->WO prog h0 N all l (up env d (.s b (0+a.toNat) (c.toNat-a.toNat) k)) H Q):WO prog h0 N all (o::l) env H Q:=Bd h λv h1 h2=>vV (jg h1 (Y5.sl _ (Yk ht)).1 (Y5.sl _ (Yk ht)).2 hlo hhi ho hx) (g v h1 h2) (Qh hg) hd hN
theorem mT{β:Type}{f:AA α->AB β}{r:β}{T b:Nat}{x hi mx:Operand}{c:Int}(h:(Do L 0 c).bind f=AC r)(ho:o.op=.slice T x AF (AC hi) (AC mx))(hx:CS env x=.o b (AI L) k)(ht:JE Fo.sl T=AC (et,k))(h1:CS env hi=I c)(h2:CS env mx=I c)(hg:Qv all o env=AC AE)(hd:o.dst=AC d)(hN:Nat.blt d N=AE)(g:∀v,Do L 0 c=AC v->f v=AC r->WO prog h0 N all l (up env d (.s b (0+Int.toNat 0) (c.toNat-Int.toNat 0) k)) H Q):WO prog h0 N all (o::l) env H Q:=Bd h λv q1 q2=>vV (Qo7 q1 (Y5.sl _ (Yk ht)).1 (Y5.sl _ (Yk ht)).2 ho hx h1 h2) (g v q1 q2) (Qh hg) hd hN
theorem qU{β:Type}{f:α->AB β}{r:β}{K:AA AM->Env->Qb->Prop}{xs:AA A}{x y:Operand}{b n:Nat}(h:(CN L i).bind f=AC r)(ho:o.op=.indexAddr t x y)(hx:CS (Qq (Qc o) 0 ds xs env) x=.o b n k)(hy:CS (Qq (Qc o) 0 ds xs env) y=.i kk i)(hn:AI L=n)(ht:JE Fo.sl t=AC (et,k))(hg:Qv ll.toArray o (Qq (Qc o) 0 ds xs env)=AC AE)(hd:o.dst=AC d)(hN:Nat.blt d N=AE)(hm:Nat.blt (AI xs) m=AE)(g:∀v,CN L i=AC v->f v=AC r->DS prog N m ll ds env H K l (xs++[.p b (i.toNat*k)])):DS prog N m ll ds env H K (o::l) xs:=Bd h λv a h=>DS.wo (vV (Qw a hn (Y5.sl _ (Yk ht)).1 (Y5.sl _ (Yk ht)).2 ho hx hy) Wp (Qh hg) hd hN) (g v a h) hd hm
theorem LdW{p v:A}{cs:AA A}{x:Operand}{nn:Nat}(ho:o.op=.load t x)(ha:L3 FQ.ty.agg t=AC (AD,nn))(hx:CS env x=p)(hp:Dn H p (v::cs))(hg:Qv all o env=AC AE)(hd:o.dst=AC d)(hN:Nat.blt d N=AE)(g:WO prog h0 N all l (up env d v) H Q):WO prog h0 N all (o::l) env H Q:=vV (Ey ho (F_.ty.agg _ (MC ha)).1 hx hp) g (Qh hg) hd hN
theorem LdA{p:A}{cs:AA A}{x:Operand}{nn:Nat}(ho:o.op=.load t x)(ha:L3 FQ.ty.agg t=AC (AE,nn))(hx:CS env x=p)(hp:Dn H p cs)(hl:AI cs=nn)(hg:Qv all o env=AC AE)(hd:o.dst=AC d)(hN:Nat.blt d N=AE)(g:WO prog h0 N all l (up env d (.a cs)) H Q):WO prog h0 N all (o::l) env H Q:=vV (Yd ho (F_.ty.agg _ (MC ha)).1 (F_.ty.agg _ (MC ha)).2 hx hp (by rw[<- hl,Vc]) hl) g (Qh hg) hd hN
theorem qT{K:AA AM->Env->Qb->Prop}{xs:AA A}{x:Operand}{p v:A}{cs:AA A}{nn:Nat}(ho:o.op=.load t x)(ha:L3 FQ.ty.agg t=AC (AD,nn))(hx:CS (Qq (Qc o) 0 ds xs env) x=p)(hp:Dn H p (v::cs))(hg:Qv ll.toArray o (Qq (Qc o) 0 ds xs env)=AC AE)(hd:o.dst=AC d)(hN:Nat.blt d N=AE)(hm:Nat.blt (AI xs) m=AE)(g:DS prog N m ll ds env H K l (xs++[v])):DS prog N m ll ds env H K (o::l) xs:=DS.wo (vV (Ey ho (F_.ty.agg _ (MC ha)).1 hx hp) Wp (Qh hg) hd hN) g hd hm
theorem hQ{K:AA AM->Env->Qb->Prop}{xs cs:AA A}{x:Operand}{p:A}{nn:Nat}(ho:o.op=.load t x)(ha:L3 FQ.ty.agg t=AC (AE,nn))(hx:CS (Qq (Qc o) 0 ds xs env) x=p)(hp:Dn H p cs)(hl:AI cs=nn)(hg:Qv ll.toArray o (Qq (Qc o) 0 ds xs env)=AC AE)(hd:o.dst=AC d)(hN:Nat.blt d N=AE)(hm:Nat.blt (AI xs) m=AE)(g:DS prog N m ll ds env H K l (xs++[.a cs])):DS prog N m ll ds env H K (o::l) xs:=DS.wo (vV (Yd ho (F_.ty.agg _ (MC ha)).1 (F_.ty.agg _ (MC ha)).2 hx hp (by rw[<- hl,Vc]) hl) Wp (Qh hg) hd hN) g hd hm
theorem pP{α β:Type}{f:α->A}{ev:β->A}{z0:β}{L:AA (α×β)}{i:Nat}{x:Operand}{c:Call}(j:o.op=.call c)(q:c={callee:=.builtin .len,args:= #[x],argTypes:= #[t]})(E:LookT prog t f ev z0)(hx:CS env x=.map i)(hH:H[i]?=AC (.map (Qi f ev L)))(hg:Qv all o env=AC AE)(h:o.dst=AC d)(y:Nat.blt d N=AE)(g:WO prog h0 N all l (up env d (I (AI L))) H Q):WO prog h0 N all (o::l) env H Q:=by
  haveI:DecidableEq α:=λa b=>Classical.propDecidable (a=b)
  obtain⟨F,O,z,J,B,M,G⟩:=E.c;exact vV (Qkn B Z j q hx hH) g (Qh hg) h y
end
class IfT (t:Nat):Prop where
  c:∃d,(∀w,(underlying t).run prog w=.ok d w)/\ ∀m,d≠ .interface m
instance:IfT 436:=⟨_,E5,by intro m;nofun⟩
instance:IfT 458:=⟨_,EF,by intro m;nofun⟩
theorem MkI{h0 N d t:Nat}{all:Array AM}{o:AM}{l:AA AM}{env:Env}{H:Qb}{Q:Qx}{x:Operand}{v:A}(h:o.op=.makeInterface t x)(E:IfT t)(hx:CS env x=v)(hg:Qv all o env=AC AE)(f:o.dst=AC d)(j:Nat.blt d N=AE)(g:WO prog h0 N all l (up env d (.iface t v)) H Q):WO prog h0 N all (o::l) env H Q:=by
  obtain⟨q,y,m⟩:=E.c;exact vV (jm h y m hx) g (Qh hg) f j
inductive jx where
  |mk (a:A) (ns:List Nat)
inductive FLn where
  |mk (l:List A) (ns:List Nat)
mutual
def dC(i k:Nat)(es:AA (AA A)):A->jx
  |.a cs=>match Kj i k es cs with
    |.mk l ns=>.mk (.a l) ns
  |.t cs=>match Kj i k es cs with
    |.mk l ns=>.mk (.t l) ns
  |.o j n k'=>match Nat.beq i j,Nat.beq k k' with
    |true,AE=>.mk (.q k es) [n]
    |_,_=>.mk (.o j n k') []
  |a=>.mk a []
def Kj(i k:Nat)(es:AA (AA A)):AA A->FLn
  |[]=>.mk [] []
  |a::r=>match dC i k es a,Kj i k es r with
    |.mk b ns,.mk l ms=>.mk (b::l) (ns++ms)
end
def Ld(m:Nat):AA Nat->Prop
  |[]=>True
  |n::r=>n=m/\Ld m r
theorem aJ{m:Nat}:∀{l r:AA Nat},Ld m (l++r)->Ld m l/\Ld m r
  |[],_,h=>⟨trivial,h⟩
  |_::_,_,h=>⟨⟨h.1,(aJ h.2).1⟩,(aJ h.2).2⟩
mutual
theorem sj{i k:Nat}{es:AA (AA A)}:∀{a b:A} {ns:AA Nat},dC i k es a=.mk b ns->Ld (AI es) ns->FC i k es a b
  |.a cs,b,ns,h,q=>by
    unfold dC at h;split at h;rename_i l ms e;cases h;exact FC.agg (jF e q)
  |.t cs,b,ns,h,q=>by
    unfold dC at h;split at h;rename_i l ms e;cases h;exact FC.tup (jF e q)
  |.o j n k',b,ns,h,q=>by
    have h:(match Nat.beq i j,Nat.beq k k' with
      |true,AE=>jx.mk (.q k es) [n]
      |_,_=>jx.mk (.o j n k') [])=jx.mk b ns:=h
    split at h
    · rename_i e1 e2
      cases h;cases XR e1;cases XR e2;exact FC.own q.1
    · cases h
      exact Ed _
  |.s j (o+1) n k',b,ns,h,q=>by cases h;exact Ed _
  |.fn ..,b,ns,h,q=>by cases h;exact Ed _
  |.iface ..,b,ns,h,q=>by cases h;exact Ed _
  |.n,b,ns,h,q=>by cases h;exact Ed _
  |.any,b,ns,h,q=>by cases h;exact Ed _
  |.b _,b,ns,h,q=>by cases h;exact Ed _
  |.i _ _,b,ns,h,q=>by cases h;exact Ed _
  |.str _,b,ns,h,q=>by cases h;exact Ed _
  |.nilp,b,ns,h,q=>by cases h;exact Ed _
  |.p _ _,b,ns,h,q=>by cases h;exact Ed _
  |.rp _,b,ns,h,q=>by cases h;exact Ed _
  |.q _ _,b,ns,h,q=>by cases h;exact Ed _
  |.nilf,b,ns,h,q=>by cases h;exact Ed _
  |.nilif,b,ns,h,q=>by cases h;exact Ed _
  |.map _,b,ns,h,q=>by cases h;exact Ed _
  |.nilm,b,ns,h,q=>by cases h;exact Ed _
theorem jF{i k:Nat}{es:AA (AA A)}:∀{cs bs:AA A} {ns:AA Nat},Kj i k es cs=.mk bs ns->Ld (AI es) ns->GV i k es cs bs
  |[],bs,ns,h,q=>by cases h;exact Ej _
  |a::r,bs,ns,h,q=>by
    unfold Kj at h;split at h;rename_i b n1 l n2 e1 e2;cases h;have:=aJ q;exact Ec (sj e1 this.1) (jF e2 this.2)
end
inductive FEn where
  |mk (e:Env) (ns:List Nat)
def iP(i k:Nat)(es:AA (AA A))(env:Env):AA Nat->FEn
  |[]=>.mk [] []
  |s::r=>match dC i k es (lk env s),iP i k es env r with
    |.mk b (n::ns),.mk l ms=>.mk ((s,b)::l) (n::(ns++ms))
    |.mk _ [],.mk l ms=>.mk l ms
theorem mq{i k:Nat}{es:AA (AA A)}{env:Env}:∀{l:AA Nat} {ov:Env} {ns:AA Nat},iP i k es env l=.mk ov ns->Ld (AI es) ns->Iy i k es env ov
  |[],ov,ns,h,q=>by cases h;exact Iy.nil
  |s::r,ov,ns,h,q=>by
    unfold iP at h;split at h
    · rename_i b n ns' l ms e1 e2
      cases h;have:Ld (AI es) (n::ns')/\Ld (AI es) ms:=⟨⟨q.1,(aJ q.2).1⟩,(aJ q.2).2⟩;exact Iy.cons Z (sj e1 this.1) (mq e2 this.2)
    · rename_i l ms e1 e2
      cases h;exact mq e2 q
def I8:Env->AA Nat->AA Nat
  |[],_=>[]
  |(s,_)::r,l=>match GD l s with
    |true=>I8 r l
    |false=>s::I8 r (s::l)
inductive FHn where
  |mk (h:Qb) (ns:List Nat)
def Kh(i k:Nat)(es:AA (AA A)):Qb->FHn
  |[]=>.mk [] []
  |.c t cs::r=>match Kj i k es cs,Kh i k es r with
    |.mk b ns,.mk l ms=>.mk (.c t b::l) (ns++ms)
  |x::r=>match Kh i k es r with
    |.mk l ms=>.mk (x::l) ms
theorem nY{i k:Nat}{es:AA (AA A)}:∀{H H':Qb} {ns:AA Nat},Kh i k es H=.mk H' ns->Ld (AI es) ns->GO i k es H H'
  |[],H',ns,h,q=>by cases h;exact GO.nil
  |x::r,H',ns,h,q=>by
    cases x with
    |cells t cs=>
      unfold Kh at h;split at h;rename_i b n1 l n2 e1 e2;cases h;have:=aJ q;exact GO.cells (jF e1 this.1) (nY e2 this.2)
    |_=>
      unfold Kh at h;split at h;rename_i l ms e;cases h;exact GO.keep (nY e q)
def Sp(env:Env):AA Operand->AB (Nat×Nat)
  |[]=>AF
  |x::r=>match CS env x with
    |.s i _ _ k=>AC (i,k)
    |_=>Sp env r
def l_(o:AM)(env:Env):AB (Nat×Nat):=match o.op with
  |.call {callee:=.value _,args:=⟨l⟩,argTypes:=_}=>Sp env l
  |_=>AF
theorem pR{P:AK}{h0 N i k t:Nat}{all:Array AM}{o:AM}{l:AA AM}{es:AA (AA A)}{env ov:Env}{H H':Qb}{Q:Qx}{n1 n2:AA Nat}(hq:l_ o env=AC (i,k))(hi:Nat.ble h0 i=AE)(hH:H[i]?=AC (.r t k es))(he:iP i k es env (I8 env [])=.mk ov n1)(hh:Kh i k es (H.set i .dead)=.mk H' n2)(hn1:Ld (AI es) n1)(hn2:Ld (AI es) n2)(g:WO P h0 N all (o::l) (ov++env) H' Q):WO P h0 N all (o::l) env H Q:=Er (mY ov hi hH (mq he hn1) (nY hh hn2)) g
theorem S8{n:Nat}:Nat.ble n n=true:=XT (XU n)
structure Hk (id m:Nat) (bs:List Nat) (cat:IV):Prop where
  t:True
theorem hk(id m:Nat)(bs:AA Nat)(cat:IV):Hk id m bs cat:=⟨trivial⟩
theorem ly{P:AK}{N m:Nat}{bs:AA Nat}{cat:IV}{l:AA AM}{ds:AA Nat}{env:Env}{n:Nat}{K:AA AM->Env->Qb->Prop}{B:AA (Nat×AB Ci)}{Hs:AA Qb}{X:Qb}{r:AA AM}{xs:AA A}(h:DK P N m bs cat l ds env n K B Hs X r xs):DK P N m bs cat l ds env n K B Hs X r xs:=h
section
variable {h0 N m n d id t et k f:Nat} {all:Array AM} {o:AM} {l r r' ll:AA AM} {ds:AA Nat} {env env' env0:Env} {H H' H1 X X1 X2:Qb} {Q:Qx} {α:Type} {e:α->AA A} {L:AA α} {kk:IntKind} {i:Int} {v:α} {args argsc:AA A} {Hc:Qb} {π:AA Nat} {bs:AA Nat} {cat:IV} {K:AA AM->Env->Qb->Prop} {B:AA (Nat×AB Ci)} {Hs:AA Qb} {xs:AA A} {x x':A} {lo hi c c':Nat}
theorem DrK{id m:Nat}{bs:AA Nat}{cat:IV}(hk:Hk id m bs cat)(hc:HC l m N (Ji m 0 l) (l8 cat) (kI bs cat) (cQ bs) (Nv cat)=AE)(hcl:Nat.beq (AI cat) m=AE)(h0B:Nat.ble h0 (AI H)=AE)(h:DK prog N m bs cat l (Ji m 0 l) env (AI H) (λr e H=>WO prog h0 N l.toArray r e H Q) [] [] H l []):TC prog h0 N (.region id l.toArray AE) env H Q:=Iu m bs cat hc h hcl h0B
theorem DkV(hd:o.dst=AC d)(h:∀X,CY prog o (Qq (Qc o) 0 ds xs env) X x)(hg:Qv ⟨l⟩ o (Qq (Qc o) 0 ds xs env)=AC AE)(hN:Nat.blt d N=AE)(hc:QW cat (AI xs)=AC (0,lo,hi))(g:DK prog N m bs cat l ds env n K B Hs X r (xs++[x])):DK prog N m bs cat l ds env n K B Hs X (o::r) xs:=DK.wa (λX=>vV (h X) Wp (Qh hg) hd hN) g hc hd
theorem qa{β:Type}{f:α->AB β}{r0:β}(h:(CN L i).bind f=AC r0)(q:Lb o (Qq (Qc o) 0 ds xs env)=AC (d,t,k,L.map e,kk,i))(ht:JE Fo.sl t=AC (et,k))(hg:Qv ⟨l⟩ o (Qq (Qc o) 0 ds xs env)=AC AE)(hd:o.dst=AC d)(hN:Nat.blt d N=AE)(hc:QW cat (AI xs)=AC (0,lo,hi))(g:∀v,CN L i=AC v->f v=AC r0->DK prog N m bs cat l ds env n K B Hs X r (xs++[.rp (e v)])):DK prog N m bs cat l ds env n K B Hs X (o::r) xs:=Bd h λv a h=>DK.wa (λX=>aW Y5 a q Wp ht hg hN) (g v a h) hc hd
theorem qX{β:Type}{f:AA α->AB β}{r0:β}{T b:Nat}{y:Operand}{lw hw:AB Operand}{a c:Int}(h:(Do L a c).bind f=AC r0)(ho:o.op=.slice T y lw hw AF)(hx:CS (Qq (Qc o) 0 ds xs env) y=.o b (AI L) k)(ht:JE Fo.sl T=AC (et,k))(hlo:lw=AF/\a=0\/ ∃y,lw=AC y/\CS (Qq (Qc o) 0 ds xs env) y=I a)(hhi:hw=AF/\c=AI L\/ ∃y,hw=AC y/\CS (Qq (Qc o) 0 ds xs env) y=I c)(hg:Qv ⟨l⟩ o (Qq (Qc o) 0 ds xs env)=AC AE)(hd:o.dst=AC d)(hN:Nat.blt d N=AE)(hc:QW cat (AI xs)=AC (0,lo,hi))(g:∀v,Do L a c=AC v->f v=AC r0->DK prog N m bs cat l ds env n K B Hs X r (xs++[.s b (0+a.toNat) (c.toNat-a.toNat) k])):DK prog N m bs cat l ds env n K B Hs X (o::r) xs:=Bd h λv h1 h2=>DkV hd (λX=>jg h1 (Y5.sl _ (Yk ht)).1 (Y5.sl _ (Yk ht)).2 hlo hhi ho hx) hg hN hc (g v h1 h2)
theorem qc{β γ:Type}{F:AB β}{F':β->AB γ}{t:γ}{w:β->A}{Hr:β->Qb}(h:F.bind F'=AC t)(E:Kp prog F f argsc [] w Hr)(y:Hr=λ_=>[])(q:IQ Fo o (Qq (Qc o) 0 ds xs env)=AC (d,f,args))(G:∀v,OH (w v)=AC (.mk (w v)))(hargs:args=argsc)(j:Q8 args=AE)(hg:Qv ⟨l⟩ o (Qq (Qc o) 0 ds xs env)=AC AE)(x:o.dst=AC d)(H:Nat.blt d N=AE)(J:QW cat (AI xs)=AC (0,lo,hi))(g:∀v,F=AC v->F' v=AC t->DK prog N m bs cat l ds env n K B Hs X r (xs++[w v])):DK prog N m bs cat l ds env n K B Hs X (o::r) xs:=by
  subst y;exact Bd h λv a h=>DK.wa (λX=>qf Y5 (F':=λv=>F' v) [] (by rw[a];exact h) E.c q (λv' a' _=>by cases a.symm.trans a';exact Wp) G (by rw[hargs]at j⊢;exact(Jy _ j).symm) Z (by decide) hg H (S8)) (g v a h) J x
theorem qb{β γ:Type}{F:AB β}{F':β->AB γ}{r0:γ}{w:β->A}{Hr:β->Qb}{xv:β->A}{Xv:β->Qb}(h:F.bind F'=AC r0)(hC:Kp prog F f argsc Hc w Hr)(hop:IQ Fo o (Qq (Qc o) 0 ds xs env)=AC (d,f,args))(hπ:Zp argsc args Hc X=AC π)(hargs:args=Jg (Cu π (AI X)) argsc)(hH:π.map (λp=>X[p]?)=(Hc.map (Q4 (Cu π (AI X)))).map AC)(hn:Lu π=AE)(hx:∀v,Iv (YM (Cu π (AI X)) (w v))=.mk (xv v))(hX:∀v,Lc (QQ X π ((Hr v).map (Q4 (Cu π (AI X)))))=.mk (Xv v))(hg:Qv ⟨l⟩ o (Qq (Qc o) 0 ds xs env)=AC AE)(hd:o.dst=AC d)(hN:Nat.blt d N=AE)(hl:∀v,Nat.ble n (AI (Xv v))=AE)(hc:QW cat (AI xs)=AC (1,c,c'))(hcH:Nat.beq c (AI Hs)=AE)(hB:∀v,OP B (Xv v))(g:∀v,F=AC v->F' v=AC r0->DK prog N m bs cat l ds env n K B (X::Hs) (Xv v) r (xs++[xv v])):DK prog N m bs cat l ds env n K B Hs X (o::r) xs:=
  Bd h λv a h=>Ew (iF Y5 (F':=λv=>F' v) π (by rw[a];exact h) hC.c hop (λv' a' _=>by
    cases a.symm.trans a';have e1:=hx v;have e2:=hX v;rw[Nb]at e1;rw[Tz]at e2;injection e1 with e1
    injection e2 with e2
    rw[<- e1, <- e2];exact Wp) hargs hH (Sh hn) hg hN (S8)) (g v a h) (hl v) hc hd hcH (hB v)
theorem xc(hd:o.dst=AC d)(h:Fb prog o (Qq (Qc o) 0 ds xs env) X x X1)(hx:Iv x=.mk x')(hX:Lc X1=.mk X2)(hg:Qv ⟨l⟩ o (Qq (Qc o) 0 ds xs env)=AC AE)(hN:Nat.blt d N=AE)(hh:Nat.ble (AI X) (AI X2)=AE)(hl:Nat.ble n (AI X2)=AE)(hc:QW cat (AI xs)=AC (1,c,c'))(hcH:Nat.beq c (AI Hs)=AE)(hB:OP B X2)(g:DK prog N m bs cat l ds env n K B (X::Hs) X2 r (xs++[x'])):DK prog N m bs cat l ds env n K B Hs X (o::r) xs:=Ew (vH h (by
    rw[Nb]at hx;rw[Tz]at hX;injection hx with hx
    injection hX with hX
    rw[<- hx, <- hX];exact Wp) (Qh hg) hd hN (S8)) g hl hc hd hcH hB
theorem DkI{α:Type}{b:Bool}{p q:AB α}{v:α}{j:Nat}{cc:Bool}{xt xf:AA A}(hj:o.guard=AC (j,cc))(hs:QW xs j=AC (.b b))(h:(bif b then p else q)=AC v)(ht:HD xs j (.b AE)=.mk xt)(hf:HD xs j (.b AD)=.mk xf)(t:b=AE->p=AC v->DK prog N m bs cat l ds env n K B Hs X (o::r) xt)(e:b=AD->q=AC v->DK prog N m bs cat l ds env n K B Hs X (o::r) xf):DK prog N m bs cat l ds env n K B Hs X (o::r) xs:=DK.is j h hs ht hf t e
theorem qY{b:Nat}(hd:o.dst=AC d)(hc:QW cat (AI xs)=AC (0,lo,hi))(hl:eU o (Qq (Qc o) 0 ds xs env)=AC b)(h:SN FQ o (Qq (Qc o) 0 ds xs env) x (AI Hs+1-lo) (X::Hs))(hlo:Nat.ble lo (AI Hs)=AE)(hhi:Nat.ble hi (AI bs)=AE)(hg:Qv ⟨l⟩ o (Qq (Qc o) 0 ds xs env)=AC AE)(hN:Nat.blt d N=AE)(g:DK prog N m bs cat l ds env n K ((b,X[b]?)::B) Hs X r (xs++[x])):DK prog N m bs cat l ds env n K B Hs X (o::r) xs:=Ll h g hc hl hd hlo hhi hg hN
theorem qW(hd:o.dst=AC d)(hc:QW cat (AI xs)=AC (0,lo,hi))(h:SN FQ o (Qq (Qc o) 0 ds xs env) x (hi+1-lo) (X::Hs))(hcH:Nat.beq hi (AI Hs)=AE)(hg:Qv ⟨l⟩ o (Qq (Qc o) 0 ds xs env)=AC AE)(hN:Nat.blt d N=AE)(hle:Nat.ble lo hi=AE)(g:DK prog N m bs cat l ds env n K B Hs X r (xs++[x])):DK prog N m bs cat l ds env n K B Hs X (o::r) xs:=au h g hc hd hcH hg hN hle
theorem iB{T e k nn:Nat}{ys:AA Operand}{es:AA (AA A)}(hq:N1 o=AC (T,nn,ys))(E:ElemTy prog T e k)(ho:o.op=.buildSlice T nn (Jl 0 ys).toArray)(hnn:AI ys=nn)(hsz:Nat.ble (nn*(k+1)) 16777216=AE)(hk:(ys.all λx=>QT (CS (Qq (Qc o) 0 ds xs env) x))=AE)(hes:Q7 (Qq (Qc o) 0 ds xs env) ys=es)(h4:allK k es)(hp:es.flatten.all Q1=AE)(hdt:Q8 es.flatten=AE)(hd:o.dst=AC d)(hX:Lc (X++[.r e k es])=.mk X2)(hg:Qv ⟨l⟩ o (Qq (Qc o) 0 ds xs env)=AC AE)(hN:Nat.blt d N=AE)(hh:Nat.ble (AI X) (AI X2)=AE)(hl:Nat.ble n (AI X2)=AE)(hc:QW cat (AI xs)=AC (1,c,c'))(hcH:Nat.beq c (AI Hs)=AE)(hB:OP B X2)(g:DK prog N m bs cat l ds env n K B (X::Hs) X2 r (xs++[.s (AI X) 0 nn k])):DK prog N m bs cat l ds env n K B Hs X (o::r) xs:=xc hd (Ek E ho hnn hsz hk hes h4 hp hdt) (by rw[Nb]) hX hg hN hh hl hc hcH hB g
theorem qd{β:Type}{L M:AA α}{f:AA α->AB β}{r0:β}{y z:Operand}{cl:Call}{T T' et et' k k' b nn:Nat}{ya:A}{Xv:AA α->Qb}(h:(app L M).bind f=AC r0)(ho:o.op=.call cl)(hcl:cl={callee:=.builtin .append,args:= #[y,z],argTypes:= #[T,T']})(E:ElemTy prog T et k)(E':ElemTy prog T' et' k')(hx:CS (Qq (Qc o) 0 ds xs env) y=.o b nn k)(hnn:AI L=nn)(hH:X[b]?=AC (.r et k (L.map e)))(hy:CS (Qq (Qc o) 0 ds xs env) z=ya)(hs:G6 prog X ya k (M.map e))(hd:o.dst=AC d)(hX:∀v:AA α,Lc (X.set b .dead++[.r et k (v.map e)])=.mk (Xv v))(hg:Qv ⟨l⟩ o (Qq (Qc o) 0 ds xs env)=AC AE)(hN:Nat.blt d N=AE)(hh:∀v,Nat.ble (AI X) (AI (Xv v))=AE)(hl:∀v,Nat.ble n (AI (Xv v))=AE)(hc:QW cat (AI xs)=AC (1,c,c'))(hcH:Nat.beq c (AI Hs)=AE)(hB:∀v,OP B (Xv v))(g:∀v,app L M=AC v->f v=AC r0->DK prog N m bs cat l ds env n K B (X::Hs) (Xv v) r (xs++[.s (AI X) 0 (AI v) k])):DK prog N m bs cat l ds env n K B Hs X (o::r) xs:=Bd h λv h1 h2=>xc hd (YP h1 E E'.sl hs hnn ho hcl hx hH hy) (by rw[Nb]) (hX v) hg hN (hh v) (hl v) hc hcH (hB v) (g v h1 h2)
end
def S_(b k:Nat):Env->AB Nat
  |[]=>AF
  |(s,.o j _ k')::r=>match Nat.beq b j&&Nat.beq k k',S_ b k r with
    |true,AC u=>match Nat.blt u s with
      |true=>AC u
      |false=>AC s
    |true,AF=>AC s
    |false,x=>x
  |_::r=>S_ b k r
section
variable {h0 N m n d id t et k f:Nat} {all:Array AM} {o:AM} {l r r' ll:AA AM} {ds:AA Nat} {env env' env0:Env} {H H' H1 X X1 X2:Qb} {Q:Qx} {α:Type} {e:α->AA A} {L:AA α} {kk:IntKind} {i:Int} {args argsc:AA A} {Hc:Qb} {π:AA Nat} {bs:AA Nat} {cat:IV} {K:AA AM->Env->Qb->Prop} {B:AA (Nat×AB Ci)} {Hs:AA Qb} {xs:AA A} {x x':A} {lo hi c c':Nat}
theorem LdT{p:A}{cs vs:AA A}{x:Operand}{nn:Nat}(ho:o.op=.load t x)(ha:L3 FQ.ty.agg t=AC (AE,nn))(hx:CS env x=p)(hp:Dn H p cs)(hl:iM nn cs=AC (.mk vs))(hg:Qv all o env=AC AE)(hd:o.dst=AC d)(hN:Nat.blt d N=AE)(g:WO prog h0 N all l (up env d (.a vs)) H Q):WO prog h0 N all (o::l) env H Q:=vV (Yd ho (F_.ty.agg _ (MC ha)).1 (F_.ty.agg _ (MC ha)).2 hx hp (m4 hl).1 (m4 hl).2) g (Qh hg) hd hN
theorem d6{β:Type}{fF:AA α->AB β}{r0:β}{v v':α}{x y:Operand}{bb:Bool}{nn b off T f0:Nat}{a:A}{vs:AA A}(h:(JF L i v').bind fF=AC r0)(ho:o.op=.store t x y)(ha:L3 FQ.ty.agg t=AC (bb,nn))(hx0:CS env x=.p b off)(hH:H[b]?=AC (.r T k (L.map e)))(hi:CN L i=AC v)(hoff:off=i.toNat*k+f0)(hy:CS env y=a)(hk:QT a=AE)(hv:QU a=vs)(hnn:AI vs=nn)(hp:vs.all Q1=AE)(hdt:Q8 vs=AE)(hf:Nat.ble (f0+nn) k=AE)(hcs:splice (e v) f0 vs=e v')(hg:Qv all o env=AC AE)(hd:o.dst=AF)(hh:Nat.ble h0 (AI H)=AE)(g:∀l',JF L i v'=AC l'->fF l'=AC r0->WO prog h0 N all l env (H.set b (.r T k (l'.map e))) Q):WO prog h0 N all (o::l) env H Q:=Bd h λl' h1 h2=>vU (Ys hi h1 (F_.ty.agg _ (MC ha)).2 hoff hcs ho hx0 hH hy hk hv hnn hp hdt hf) (g l' h1 h2) (Qh hg) hd hh
theorem mU{β:Type}{fF:AA α->AB β}{r0:β}{v v':α}{x y:Operand}{bb:Bool}{nn b off T f0:Nat}{a:A}{vs:AA A}(h:(JF L i v').bind fF=AC r0)(ho:o.op=.store t x y)(ha:L3 FQ.ty.agg t=AC (bb,nn))(hx0:CS env x=.p b off)(hH:H[b]?=AC (.r T k (L.map e)))(hi:CN L i=AC v)(hoff:off=i.toNat*k+f0)(hy:CS env y=a)(hk:QT a=AE)(hv:QU a=vs)(hnn:AI vs=nn)(hp:vs.all Q1=AE)(hdt:Q8 vs=AE)(hf:Nat.ble (f0+nn) k=AE)(hcs:splice (e v) f0 vs=e v')(hg:Qv all o env=AC AE)(hd:o.dst=AF)(hh:Nat.ble h0 (AI H)=AE){s n1:Nat}(hm:S_ b k env=AC s)(hse:lk env s=.o b n1 k)(hL:AI L=n1)(g:∀l',JF L i v'=AC l'->fF l'=AC r0->WO prog h0 N all l (up env s (.o b (AI l') k)) (H.set b (.r T k (l'.map e))) Q):WO prog h0 N all (o::l) env H Q:=d6 h ho ha hx0 hH hi hoff hy hk hv hnn hp hdt hf hcs hg hd hh λl' h1 h2=>Er (Q3 hse (congrArg (λn=>A.s b 0 n k) (hL.symm.trans (Yh h1)))) (g l' h1 h2)
end
section
variable {h0 N d:Nat} {all:Array AM} {o:AM} {l:AA AM} {env:Env} {H:Qb} {Q:Qx} {t u:Nat} {x y:Operand} {p q:Bool} {kk:IntKind} {m n:Int}
theorem BNe(ho:o.op=.binOp .neq 4 x y u)(hx:CS env x=.b p)(hy:CS env y=.b q)(hg:Qv all o env=AC AE)(hd:o.dst=AC d)(hN:Nat.blt d N=AE)(g:WO prog h0 N all l (up env d (.b (p != q))) H Q):WO prog h0 N all (o::l) env H Q:=vV (Qkq runUnderlying4 ho hx hy) g (Qh hg) hd hN
end
section
variable {N m n d:Nat} {o:AM} {l r ll:AA AM} {ds:AA Nat} {env:Env} {H X:Qb} {bs:AA Nat} {cat:IV} {K:AA AM->Env->Qb->Prop} {B:AA (Nat×AB Ci)} {Hs:AA Qb} {xs:AA A} {lo hi:Nat} {T e k nn:Nat} {ys:AA Operand} {es:AA (AA A)}
theorem qZ(hq:N1 o=AC (T,nn,ys))(E:ElemTy prog T e k)(ho:o.op=.buildSlice T nn (Jl 0 ys).toArray)(hnn:AI ys=nn)(hsz:Nat.ble (nn*k) 16777216=AE)(hk:(ys.all λx=>QT (CS (Qq (Qc o) 0 ds xs env) x))=AE)(hes:Q7 (Qq (Qc o) 0 ds xs env) ys=es)(h4:allK k es)(hp:es.flatten.all Q1=AE)(hdt:Q8 es.flatten=AE)(hg:Qv ⟨l⟩ o (Qq (Qc o) 0 ds xs env)=AC AE)(hd:o.dst=AC d)(hN:Nat.blt d N=AE)(hc:QW cat (AI xs)=AC (0,lo,hi))(g:DK prog N m bs cat l ds env n K B Hs X r (xs++[.q k es])):DK prog N m bs cat l ds env n K B Hs X (o::r) xs:=DK.wa (λX=>vH (YZ E ho hnn hsz hk hes h4 hp hdt) Wp (Qh hg) hd hN S8) g hc hd
theorem qS(hq:N1 o=AC (T,nn,ys))(E:ElemTy prog T e k)(ho:o.op=.buildSlice T nn (Jl 0 ys).toArray)(hnn:AI ys=nn)(hsz:Nat.ble (nn*k) 16777216=AE)(hk:(ys.all λx=>QT (CS (Qq (Qc o) 0 ds xs env) x))=AE)(hes:Q7 (Qq (Qc o) 0 ds xs env) ys=es)(h4:allK k es)(hp:es.flatten.all Q1=AE)(hdt:Q8 es.flatten=AE)(hg:Qv ll.toArray o (Qq (Qc o) 0 ds xs env)=AC AE)(hd:o.dst=AC d)(hN:Nat.blt d N=AE)(hm:Nat.blt (AI xs) m=AE)(g:DS prog N m ll ds env H K r (xs++[.q k es])):DS prog N m ll ds env H K (o::r) xs:=DS.wo (vH (YZ E ho hnn hsz hk hes h4 hp hdt) Wp (Qh hg) hd hN S8) g hd hm
end
section
variable {N m n d f:Nat} {o:AM} {l r ll:AA AM} {ds:AA Nat} {env:Env} {H X Hc:Qb} {bs:AA Nat} {cat:IV} {K:AA AM->Env->Qb->Prop} {B:AA (Nat×AB Ci)} {Hs:AA Qb} {xs args argsc:AA A} {π:AA Nat} {lo hi c:Nat}
theorem qV{β γ:Type}{F:AB β}{F':β->AB γ}{r0:γ}{w:β->A}{Hr:β->Qb}{xv:β->A}(h:F.bind F'=AC r0)(hC:Kp prog F f argsc Hc w Hr)(hop:IQ Fo o (Qq (Qc o) 0 ds xs env)=AC (d,f,args))(hπ:Zp argsc args Hc H=AC π)(hargs:args=Jg (Cu π (AI H)) argsc)(hH:π.map (λp=>H[p]?)=(Hc.map (Q4 (Cu π (AI H)))).map AC)(hn:Lu π=AE)(hx:∀v,Iv (YM (Cu π (AI H)) (w v))=.mk (xv v))(hX:∀v,QQ H π ((Hr v).map (Q4 (Cu π (AI H))))=H)(hg:Qv ll.toArray o (Qq (Qc o) 0 ds xs env)=AC AE)(hd:o.dst=AC d)(hN:Nat.blt d N=AE)(hm:Nat.blt (AI xs) m=AE)(g:∀v,F=AC v->F' v=AC r0->DS prog N m ll ds env H K r (xs++[xv v])):DS prog N m ll ds env H K (o::r) xs:=
  Bd h λv a h=>DS.wo (iF Y5 (F':=λv=>F' v) π (by rw[a];exact h) hC.c hop (λv' a' _=>by
    cases a.symm.trans a';have e1:=hx v;rw[Nb]at e1;injection e1 with e1
    rw[hX v, <- e1];exact Wp) hargs hH (Sh hn) hg hN S8) (g v a h) hd hm
end
theorem ME{H:Qb}{b o f g:Nat}{d:AA A}(h:Dn H (.p b (o+(f+g))) d):Dn H (.p b (o+f+g)) d:=by
  rw[Nat.add_assoc];exact h
section
variable {N m n d f:Nat} {o:AM} {l r ll:AA AM} {ds:AA Nat} {env:Env} {H X Hc:Qb} {K:AA AM->Env->Qb->Prop} {xs args argsc:AA A} {π:AA Nat}
end
theorem R1h{P:AK}{d:Nat}{fn:Func}{env:Env}{H:Qb}{β:Type}{e r:β}{w:β->A}{Hc:β->Qb}{s:Nat}(h:AC e=AC r)(f:fn.results= #[.tmp s])(g:Le d env H [(s,w e)] (Hc e)):YI P d fn (RQ w Hc r) .ret env H:=by
  cases h;exact R1 s f g
theorem R2h{P:AK}{f:Nat}{fn:Func}{env:Env}{H:Qb}{β:Type}{e r:β}{w:β->A}{Hc:β->Qb}{s t:Nat}{v d:A}(h:AC e=AC r)(m:fn.results= #[.tmp s,.tmp t])(j:w e=.t [v,d])(hn:Nat.beq t s=AD)(g:Le f env H [(s,v),(t,d)] (Hc e)):YI P f fn (RQ w Hc r) .ret env H:=by
  cases h;have:=R2 (P:=P) s t m hn g;unfold RQ;rw[j];exact this
def Nz(env:Env)(H':Qb):Env->AB (Nat×Nat)
  |[]=>AF
  |(s,.s j _ _ _)::r=>match N0 env s with
    |.mk (.s i _ _ _)=>match QW H' i,Nat.beq i j with
      |some .dead,AD=>AC (s,i)
      |_,_=>Nz env H' r
    |_=>Nz env H' r
  |_::r=>Nz env H' r
theorem pO{h0 s i o' n k:Nat}{x:Ci}{env env':Env}{H H':Qb}(hq:Nz env H' env'=AC (s,i))(hs:lk env s=.s i o' n k)(hH:H[i]?=AC x)(hh:Nat.ble h0 (AI H)=AE)(g:Le h0 (up env s (.s (AI H) o' n k)) (H.set i .dead++[x]) env' H'):Le h0 env H env' H':=En (Qm0 hs hH hh) g
structure Hx (id m c nb:Nat) (hs:List Bool) (rq ms:List (List Nat)) (pl:List (List (Nat×Nat))):Prop where
  t:True
theorem hx(id m c nb:Nat)(hs:AA Bool)(rq ms:AA (AA Nat))(pl:AA (AA (Nat×Nat))):Hx id m c nb hs rq ms pl:=⟨trivial⟩
def S5(st:Nat):Nat->AA (AA (Nat×Nat))->AA (Nat×Nat×Nat)
  |_,[]=>[]
  |i,q::r=>(q.filter λp=>Nat.beq p.1 st).map (λp=>(i,p))++S5 st (i+1) r
def S4(pl:AA (AA (Nat×Nat))):Nat->AA (Nat×Nat×Nat)
  |0=>[]
  |K+1=>S4 pl K++S5 K 0 pl
theorem uv{st:Nat}:∀{pl:AA (AA (Nat×Nat))} {b i:Nat} {p:Nat×Nat},p∈pl.getD i []->p.1=st->(b+i,p)∈S5 st b pl
  |[],b,i,p,h,_=>by simp at h
  |q::r,b,0,p,h,e=>List.mem_append_left _ (Xe.2 ⟨p,Xd.2 ⟨by simpa using h,by rw[e];exact VI _⟩,Z⟩)
  |q::r,b,i+1,p,h,e=>List.mem_append_right _ (by
    have:=uv (st:=st) (pl:=r) (b:=b+1) (i:=i) (p:=p) (by simpa using h) e
    rwa [show b+1+i=b+(i+1)by omega]at this)
theorem uw{pl:AA (AA (Nat×Nat))}{i:Nat}{p:Nat×Nat}(h:p∈pl.getD i []):∀{K:Nat},p.1<K->(i,p)∈S4 pl K
  |0,hK=>absurd hK (Nat.not_lt_zero _)
  |K+1,hK=>by
    rcases VE p.1 K with z|z
    · exact List.mem_append_left _ (uw h z)
    · refine List.mem_append_right _ ?_
      have:=uv (b:=0) h (show p.1=K by omega)
      rwa [Xx]at this
def JV:A->Bool
  |.any=>AE
  |_=>AD
def Hh:AA AM->AA A->Bool
  |o::l,x::xs=>(match o.dst with
    |none=>JV x
    |some _=>AE)&&Hh l xs
  |_,_=>AE
theorem uW:∀{l:AA AM} {xs:AA A},Hh l xs=AE->∀(j:Nat) (o:AM),l[j]?=AC o->o.dst=AF->j<AI xs->xs[j]?=AC .any
  |[],_,_,j,o,h,_,_=>by simp at h
  |_::_,[],_,j,o,_,_,h=>absurd h (Nat.not_lt_zero _)
  |o'::l,x::xs,h,0,o,h1,h2,_=>by
    simp only[Hh,XX]at h;cases h1;rw[h2]at h;cases x with
    |any=>rfl
    |_=>exact absurd h.1 (by simp[JV])
  |o'::l,x::xs,h,j+1,o,h1,h2,h3=>by
    simp only[Hh,XX]at h;exact uW h.2 j o (by simpa using h1) h2 (by simpa using h3)
inductive FO where
  |mk (l:List (Option Qb))
def Fd:AA (AB Qb)->Nat->Qb->FO
  |[],_,_=>.mk []
  |_::r,0,X=>.mk (AC X::r)
  |a::r,n+1,X=>match Fd r n X with
    |.mk l=>.mk (a::l)
theorem tZ:∀{l:AA (AB Qb)} {n:Nat} {X:Qb} {l':AA (AB Qb)},Fd l n X=.mk l'->l'=l.set n (AC X)
  |[],_,_,_,h=>by cases h;rfl
  |_::r,0,X,_,h=>by cases h;rfl
  |a::r,n+1,X,l',h=>by
    unfold Fd at h;split at h;rename_i q e;cases h;rw[List.set_cons_succ,tZ e]
theorem nA:∀{l:AA A} {n:Nat} {x:A} {l':AA A},HD l n x=.mk l'->l'=l.set n x
  |[],_,_,_,h=>by cases h;rfl
  |_::r,0,x,_,h=>by cases h;rfl
  |a::r,n+1,x,l',h=>by
    unfold HD at h;split at h;rename_i q e;cases h;rw[List.set_cons_succ,nA e]
def L2:AA (AB Qb)->AB (AA Qb)
  |[]=>AC []
  |none::_=>AF
  |some X::r=>match L2 r with
    |some l=>AC (X::l)
    |none=>AF
theorem nN:∀{l:AA (AB Qb)} {l':AA Qb},L2 l=AC l'->AI l'=AI l/\ ∀(j:Nat) (X:Qb),l[j]?=AC (AC X)->l'[j]?=AC X
  |[],_,h=>by cases h;exact⟨Z,λj X q=>by simp at q⟩
  |none::_,_,h=>by cases h
  |some X::r,l',h=>by
    unfold L2 at h;split at h
    · rename_i q e
      cases h;obtain⟨a,b⟩:=nN e;refine⟨by simp[a],λj Y q=>?_⟩;cases j with
      |zero=>simpa using q
      |succ j=>simpa using b j Y (by simpa using q)
    · cases h
def DX(P:AK)(N:Nat)(l:AA AM)(ds:AA Nat)(env:Env)(hB hE:Nat)(K:AA A->AA Qb->Prop)(T:AA (Nat×Nat×Nat))(xs:AA A)(Hs:AA (AB Qb)):Prop:=∃(xsF:AA A) (HsF:AA Qb),AI xsF=AI xs/\(∀(j:Nat) (x:A),xs[j]?=AC x->x=.any\/xsF[j]?=AC x)/\AI HsF=AI Hs/\(∀(j:Nat) (X:Qb),Hs[j]?=AC (AC X)->HsF[j]?=AC X)/\(∀t∈T,Y0 P N l ds xsF env hB hE t.1 (HsF.getD t.2.1 []) (HsF.getD t.2.2 []))/\(∀(j:Nat) (o:AM),l[j]?=AC o->o.dst=AF->j<AI xs->xsF[j]?=AC .any)/\K xsF HsF
section
variable {P:AK} {N:Nat} {l:AA AM} {ds:AA Nat} {env e':Env} {hB hE:Nat} {K:AA A->AA Qb->Prop} {T:AA (Nat×Nat×Nat)} {xs xs':AA A} {Hs Hs':AA (AB Qb)} {i p q d:Nat} {o:AM} {X X':Qb} {x:A}
theorem DX.done{HsF:AA Qb}(hH:L2 Hs=AC HsF)(hu:Hh l xs=AE)(k:K xs HsF):DX P N l ds env hB hE K [] xs Hs:=
  ⟨xs,HsF,Z,λ_ _ h=>.inr h,(nN hH).1,(nN hH).2,(λ_ h=>nomatch h),uW hu,k⟩
theorem SQ.part{af ds:AA Nat}{xs xsF:AA A}{env0:Env}(h:∀(j:Nat) (x:A),xs[j]?=AC x->x=.any\/xsF[j]?=AC x):SQ af ds xsF env0 (Qq af 0 ds xs env0):=λs=>by
  rcases jB (af:=af) (env0:=env0) (s:=s) ds xs [] 0 with⟨j,y,q1,q2,q3,q4⟩|q|q
  · rw[Vj]at q3
    rcases h j y q3 with z|z
    · subst z;exact .inr (.inl q4)
    · rw[Xx]at q1;exact .inl ⟨j,y,q1,q2,z,q4⟩
  · exact .inr (.inl q)
  · exact .inr (.inr q)
theorem DX.hs(f:Hs[p]?=AC (AC X))(g:Hs[q]?=AC AF/\Fd Hs q X'=.mk Hs'\/Hs[q]?=AC (AC X')/\Hs'=Hs):AI Hs'=AI Hs/\Hs'[p]?=AC (AC X)/\Hs'[q]?=AC (AC X')/\ ∀(j:Nat) (Y:Qb),Hs[j]?=AC (AC Y)->Hs'[j]?=AC (AC Y):=by
  rcases g with⟨a,b⟩|⟨a,rfl⟩
  · have e:=tZ b
    subst e;have hl:=(XM.1 a).1;have d:∀(j:Nat) (Y:Qb),Hs[j]?=AC (AC Y)->(Hs.set q (AC X'))[j]?=AC (AC Y):=λj Y h=>by
      rw[XQ (λz=>by rw[z,h]at a;cases a)];exact h
    exact⟨by simp,d p X f,by rw[Xa hl],d⟩
  · exact⟨Z,f,a,λ_ _ h=>h⟩
theorem DX.wo(ho:l[i]?=AC o)(G:o.dst=AC d)(M:Hs[p]?=AC (AC X))(h:WO P (AI X) N l.toArray [o] (Qq (Qc o) 0 ds xs env) X (YE (up (Qq (Qc o) 0 ds xs env) d x) X'))(hn:JV x=AD)(hx:xs[i]?=AC .any/\HD xs i x=.mk xs'\/xs[i]?=AC x/\xs'=xs)(O:Hs[q]?=AC AF/\Fd Hs q X'=.mk Hs'\/Hs[q]?=AC (AC X')/\Hs'=Hs)(hdd:YU hB hE X X'=AE)(k:DX P N l ds env hB hE K T xs' Hs'):DX P N l ds env hB hE K ((i,p,q)::T) xs Hs:=by
  obtain⟨f,HsF,l1,F,l2,m,V,un,kk⟩:=k;obtain⟨R,H,h3,Q⟩:=DX.hs M O;have B:AI xs'=AI xs/\xs'[i]?=AC x/\ ∀(j:Nat) (y:A),xs[j]?=AC y->y=.any\/xs'[j]?=AC y:=by
    rcases hx with⟨a,b⟩|⟨a,rfl⟩
    · have e:=nA b
      subst e;have hl:=(XM.1 a).1;refine⟨by simp,by rw[Xa hl],λj y g=>?_⟩;by_cases z:j=i
      · subst z;rw[a]at g;cases g;exact .inl Z
      · exact .inr (by rw[XQ (λw=>z w.symm)];exact g)
    · exact⟨Z,a,λ_ _ h=>.inr h⟩
  obtain⟨x1,x2,L⟩:=B;have W:f[i]?=AC x:=by
    rcases F i x x2 with z|z
    · subst z;cases hn
    · exact z
  have E:∀(j:Nat) (y:A),xs[j]?=AC y->y=.any\/f[j]?=AC y:=λj y g=>by
    rcases L j y g with z|z
    · exact .inl z
    · exact F j y z
  refine⟨f,HsF,l1.trans x1,E,l2.trans R,λj Y hY=>m j Y (Q j Y hY),λt J=>?_,λj o' a b c=>un j o' a b (by omega),kk⟩;rcases X9.1 J with z|z
  · subst z
    have a:=m p X H;have b:=m q X' h3;show Y0 P N l ds f env hB hE i (HsF.getD p []) (HsF.getD q []);rw[VO,VO,a,b];exact .woE o _ d x ho G W (SQ.part E) hdd h
  · exact V t z
theorem DX.un(m:l[i]?=AC o)(g:o.dst=AF)(O:Hs[p]?=AC (AC X))(h:WO P (AI X) N l.toArray [o] (Qq (Qc o) 0 ds xs env) X (YE (Qq (Qc o) 0 ds xs env) X'))(hx:xs[i]?=AC .any)(y:Hs[q]?=AC AF/\Fd Hs q X'=.mk Hs'\/Hs[q]?=AC (AC X')/\Hs'=Hs)(hdd:YU hB hE X X'=AE)(k:DX P N l ds env hB hE K T xs Hs'):DX P N l ds env hB hE K ((i,p,q)::T) xs Hs:=by
  obtain⟨d,HsF,E,x,F,f,J,un,kk⟩:=k;obtain⟨H,B,M,G⟩:=DX.hs O y;have hl:=(XM.1 hx).1;refine⟨d,HsF,E,x,F.trans H,λj Y hY=>f j Y (G j Y hY),λt L=>?_,un,kk⟩;rcases X9.1 L with z|z
  · subst z
    have a:=f p X B;have b:=f q X' M;show Y0 P N l ds d env hB hE i (HsF.getD p []) (HsF.getD q []);rw[VO,VO,a,b];exact .unitE o _ m g (un i o m g hl) hdd (SQ.part x) h
  · exact J t z
theorem DX.al{t g:Nat}{F:AA A}(M:l[i]?=AC o)(J:o.dst=AC d)(hg:o.guard=AF)(W:Hs[p]?=AC (AC X))(L:(Nat.ble hB g&&Nat.blt g hE)=AE)(hz:OV P o t F)(m:MD X[g]?=AE)(f:Lc (X.set g (.c t F))=.mk X')(hN:Nat.blt d N=AE)(hx:xs[i]?=AC .any/\HD xs i (.p g 0)=.mk xs'\/xs[i]?=AC (.p g 0)/\xs'=xs)(hq:Hs[q]?=AC AF/\Fd Hs q X'=.mk Hs'\/Hs[q]?=AC (AC X')/\Hs'=Hs)(k:DX P N l ds env hB hE K T xs' Hs'):DX P N l ds env hB hE K ((i,p,q)::T) xs Hs:=by
  obtain⟨x,HsF,l1,H,l2,G,ob,un,kk⟩:=k;obtain⟨h1,O,R,h4⟩:=DX.hs W hq;have E:AI xs'=AI xs/\xs'[i]?=AC (.p g 0)/\ ∀(j:Nat) (y:A),xs[j]?=AC y->y=.any\/xs'[j]?=AC y:=by
    rcases hx with⟨a,b⟩|⟨a,rfl⟩
    · have e:=nA b
      subst e;have hl:=(XM.1 a).1;refine⟨by simp,by rw[Xa hl],λj y B=>?_⟩;by_cases z:j=i
      · subst z;rw[a]at B;cases B;exact .inl Z
      · exact .inr (by rw[XQ (λw=>z w.symm)];exact B)
    · exact⟨Z,a,λ_ _ h=>.inr h⟩
  obtain⟨x1,x2,V⟩:=E;have xF:x[i]?=AC (.p g 0):=by
    rcases H i _ x2 with z|z
    · cases z
    · exact z
  refine⟨x,HsF,l1.trans x1,λj y B=>?_,l2.trans h1,λj Y hY=>G j Y (h4 j Y hY),λt Q=>?_,λj o' a b c=>un j o' a b (by omega),kk⟩
  · rcases V j y B with z|z
    · exact .inl z
    · exact H j y z
  rcases X9.1 Q with z|z
  · subst z
    have a:=G p X O;have b:=G q X' R;show Y0 P N l ds x env hB hE i (HsF.getD p []) (HsF.getD q []);rw[VO,VO,a,b];rw[Tz]at f;injection f with f
    exact .alloc o d _ g F M J hg xF L m f hz hN
  · exact ob t z
end
theorem t7{P:AK}{N:Nat}{l:AA AM}{ds:AA Nat}{xs:AA A}{env0:Env}{hB hE:Nat}:∀(ss:AA (AA (Qb×Qb))) (b:Nat),(∀(i:Nat) (s:AA (Qb×Qb)),ss[i]?=AC s->∀p∈s,Y0 P N l ds xs env0 hB hE (b+i) p.1 p.2)->FP P N l ds xs env0 hB hE b ss
  |[],b,_=>.nil
  |s::r,b,h=>.cons (λp hp=>by have:=h 0 s Z p hp;rwa [Xy]at this) (t7 r (b+1) λi s' hs p hp=>by
    have:=h (i+1) s' (by simpa using hs) p hp
    rwa [show b+(i+1)=b+1+i by omega]at this)
section
variable {h0 N m c nb id:Nat} {l r:AA AM} {env:Env} {H Hk:Qb} {Q:Qx} {hs:AA Bool} {rq ms:AA (AA Nat)} {pl:AA (AA (Nat×Nat))}
def KX(h0 N m K0:Nat)(l:AA AM)(ds:AA Nat)(env:Env)(hE:Nat)(Q:Qx)(xs:AA A)(Hs:AA Qb):Prop:=Hs.all (λX=>Nat.ble hE (AI X))=AE/\WO prog h0 N l.toArray (l.drop m) (IT ds xs env) (Hs.getD K0 []) Q
structure BX (n:Nat) (p:Prop):Prop where
  h:p
theorem BX.s{n:Nat}{α β:Type}{x:AB α}{f:α->AB β}{v:β}{p:Prop}(h:x.bind f=AC v)(g:∀a,x=AC a->f a=AC v->BX n p):BX (n+1) p:=⟨Bd h λa b c=>(g a b c).h⟩
theorem BX.z{p:Prop}(g:p):BX 0 p:=⟨g⟩
theorem xb(hk:Hx id m c nb hs rq ms pl)(O:HC l m N (Ji m 0 l) hs rq ms pl=AE)(E:(pl.all λq=>q.all λp=>Nat.blt p.1 (AI ms))=AE)(t:Nat.beq (AI pl) m=AE)(f:Nat.ble h0 (AI H)=AE)(G:Nat.blt 0 (AI ms)=AE)
    (h:BX nb (DX prog N l (Ji m 0 l) env (AI H) (AI H+c) (KX h0 N m (AI ms-1) l (Ji m 0 l) env (AI H+c) Q) (S4 pl (AI ms)) (List.replicate m .any) (AC (H++List.replicate c .dead)::List.replicate (AI ms-1) AF))):
    TC prog h0 N (.region id l.toArray AE) env H Q:=by
  obtain⟨M,Hs,B,R,j,P,L,un,all,kk⟩:=h.h;rw[List.length_replicate]at B;have F:0<AI ms:=by simpa using G
  have j:AI Hs=AI ms:=by rw[j,X3,List.length_replicate];omega
  refine UI m c (Ji m 0 l) hs rq ms pl M Hs _ FY O (by rw[B];exact VI _) (by rw[j];exact VI _) f all (P 0 _ Z) Z (t7 _ 0 λi s hs p g=>?_) t kk;rw[Xx];rw[Xo]at hs;obtain⟨q,y,rfl⟩:=Option.map_eq_some_iff.1 hs;obtain⟨w,x,rfl⟩:=Xe.1 g;have d:w∈pl.getD i []:=by rw[VO,y];exact x
  have J:w.1<AI ms:=by
    have:=Xs.1 (Xs.1 E q (VK y)) w x;simpa using this
  exact L (i,w) (uw d J)
end
section
variable {h0 N m hB hE i p q d:Nat} {l r:AA AM} {ds:AA Nat} {env e' E':Env} {K:AA A->AA Qb->Prop} {T:AA (Nat×Nat×Nat)} {xs xs':AA A} {Hs Hs':AA (AB Qb)} {o:AM} {X X' Hk H':Qb} {x:A} {Q:Qx}
theorem xd(ho:l[i]?=AC o)(hX:Hs[p]?=AC (AC X))(hd:o.dst=AC d)(hr:Z0 FQ (AI X) N l.toArray 1 [o] (Qq (Qc o) 0 ds xs env) X=AC ([],e',X'))(he:e'=up (Qq (Qc o) 0 ds xs env) d x)(hn:JV x=AD)(hx:xs[i]?=AC .any/\HD xs i x=.mk xs'\/xs[i]?=AC x/\xs'=xs)(hq:Hs[q]?=AC AF/\Fd Hs q X'=.mk Hs'\/Hs[q]?=AC (AC X')/\Hs'=Hs)(hdd:YU hB hE X X'=AE)(k:DX prog N l ds env hB hE K T xs' Hs'):DX prog N l ds env hB hE K ((i,p,q)::T) xs Hs:=DX.wo ho hd hX (AU F_ 1 hr (by rw[he];exact Wp)) hn hx hq hdd k
theorem xe(ho:l[i]?=AC o)(hX:Hs[p]?=AC (AC X))(hd:o.dst=AF)(hr:Z0 FQ (AI X) N l.toArray 1 [o] (Qq (Qc o) 0 ds xs env) X=AC ([],e',X'))(he:e'=Qq (Qc o) 0 ds xs env)(hx:xs[i]?=AC .any)(hq:Hs[q]?=AC AF/\Fd Hs q X'=.mk Hs'\/Hs[q]?=AC (AC X')/\Hs'=Hs)(hdd:YU hB hE X X'=AE)(k:DX prog N l ds env hB hE K T xs Hs'):DX prog N l ds env hB hE K ((i,p,q)::T) xs Hs:=DX.un ho hd hX (AU F_ 1 hr (by rw[he];exact Wp)) hx hq hdd k
def iT:AA (Nat×A)->Nat->AB A
  |[],_=>AF
  |(s,a)::r,t=>match Nat.beq s t with
    |true=>AC a
    |false=>iT r t
theorem r9:∀{l:AA (Nat×A)} {t:Nat} {a:A},iT l t=AC a->(t,a)∈l
  |(s,b)::r,t,a,h=>by
    unfold iT at h;split at h
    · rename_i e
      cases h;rw[XR e];exact X7 ..
    · exact X8 _ (r9 h)
def L0:Nat->AA AM->Nat
  |0,_=>0
  |_,[]=>0
  |n+1,o::l=>match o.op with
    |.alloc _=>L0 n l+1
    |_=>L0 n l
theorem xi{t f:Nat}{B:AA A}{v:A}(G:l[i]?=AC o)(H:Hs[p]?=AC (AC X))(m:o.op=.alloc t)(hg:o.guard=AF)(E:o.dst=AC d)(y:iT FQ.al t=AC v)(h:QU v=B)(M:hB+L0 i l=f)(F:(Nat.ble hB f&&Nat.blt f hE)=AE)(g:MD X[f]?=AE)(x:Lc (X.set f (.c t B))=.mk X')(O:Nat.blt d N=AE)(hx:xs[i]?=AC .any/\HD xs i (.p f 0)=.mk xs'\/xs[i]?=AC (.p f 0)/\xs'=xs)(J:Hs[q]?=AC AF/\Fd Hs q X'=.mk Hs'\/Hs[q]?=AC (AC X')/\Hs'=Hs)(k:DX prog N l ds env hB hE K T xs' Hs'):DX prog N l ds env hB hE K ((i,p,q)::T) xs Hs:=by
  obtain⟨⟨z,P,L⟩,hk,j⟩:=F_.al _ (r9 y);exact DX.al G E hg H F (OV.alloc P L m hk h (by rw[<- h];exact j)) g x O hx J k
theorem Ng{α:Type}{L:AA α}{e:α->AA A}{v:α}{j:Int}{t k et:Nat}{kk:IntKind}(hF:CN L j=AC v)(ho:l[i]?=AC o)(hX:Hs[p]?=AC (AC X))(hop:Lb o (Qq (Qc o) 0 ds xs env)=AC (d,t,k,L.map e,kk,j))(ht:JE Fo.sl t=AC (et,k))(hg:Qv l.toArray o (Qq (Qc o) 0 ds xs env)=AC AE)(hd:o.dst=AC d)(hN:Nat.blt d N=AE)(hx:xs[i]?=AC .any/\HD xs i (.rp (e v))=.mk xs'\/xs[i]?=AC (.rp (e v))/\xs'=xs)(hq:Hs[q]?=AC AF/\Fd Hs q X=.mk Hs'\/Hs[q]?=AC (AC X)/\Hs'=Hs)(k1:DX prog N l ds env hB hE K T xs' Hs'):DX prog N l ds env hB hE K ((i,p,q)::T) xs Hs:=DX.wo ho hd hX (aW Y5 hF hop Wp ht hg hN) rfl hx hq (jt X) k1
theorem Nh{β:Type}{F:AB β}{v:β}{w:β->A}{Hr:β->Qb}{f:Nat}{args argsc:AA A}{Hc:Qb}{π:AA Nat}(hF:F=AC v)(hC:Kp prog F f argsc Hc w Hr)(ho:l[i]?=AC o)(hX:Hs[p]?=AC (AC X))(hop:IQ Fo o (Qq (Qc o) 0 ds xs env)=AC (d,f,args))(hπ:Zp argsc args Hc X=AC π)(hargs:args=Jg (Cu π (AI X)) argsc)(hH:π.map (λp=>X[p]?)=(Hc.map (Q4 (Cu π (AI X)))).map AC)(hn2:Lu π=AE)(hxv:Iv (YM (Cu π (AI X)) (w v))=.mk x)(hXv:Lc (QQ X π ((Hr v).map (Q4 (Cu π (AI X)))))=.mk X')(hg:Qv l.toArray o (Qq (Qc o) 0 ds xs env)=AC AE)(hd:o.dst=AC d)(hN:Nat.blt d N=AE)(hn:JV x=AD)(hx:xs[i]?=AC .any/\HD xs i x=.mk xs'\/xs[i]?=AC x/\xs'=xs)(hq:Hs[q]?=AC AF/\Fd Hs q X'=.mk Hs'\/Hs[q]?=AC (AC X')/\Hs'=Hs)(hdd:YU hB hE X X'=AE)(k:DX prog N l ds env hB hE K T xs' Hs'):DX prog N l ds env hB hE K ((i,p,q)::T) xs Hs:=
  DX.wo ho hd hX (iF Y5 (F':=λu=>AC u) π (by rw[hF];rfl:F.bind (λu=>AC u)=AC v) hC.c hop (λv' a' _=>by
    cases hF.symm.trans a';rw[Nb]at hxv;rw[Tz]at hXv;injection hxv with hxv
    injection hXv with hXv
    rw[<- hxv, <- hXv];exact Wp) hargs hH (Sh hn2) hg hN S8) hn hx hq hdd k
theorem iC(ho:l[i]?=AC o)(hX:Hs[p]?=AC (AC X))(hv:CY prog o (Qq (Qc o) 0 ds xs env) X x)(hg:Qv l.toArray o (Qq (Qc o) 0 ds xs env)=AC AE)(hd:o.dst=AC d)(hN:Nat.blt d N=AE)(hn:JV x=AD)(hx:xs[i]?=AC .any/\HD xs i x=.mk xs'\/xs[i]?=AC x/\xs'=xs)(hq:Hs[q]?=AC AF/\Fd Hs q X=.mk Hs'\/Hs[q]?=AC (AC X)/\Hs'=Hs)(k1:DX prog N l ds env hB hE K T xs' Hs'):DX prog N l ds env hB hE K ((i,p,q)::T) xs Hs:=DX.wo ho hd hX (vV hv Wp (Qh hg) hd hN) hn hx hq (jt X) k1
theorem jy{α:Type}{L:AA α}{v:α}{j:Int}{t k M b B:Nat}{kk:IntKind}{y z:Operand}(R:CN L j=AC v)(H:l[i]?=AC o)(O:Hs[p]?=AC (AC X))(m:o.op=.indexAddr t y z)(g:CS (Qq (Qc o) 0 ds xs env) y=.o b B k)(h:CS (Qq (Qc o) 0 ds xs env) z=.i kk j)(Q:AI L=B)(E:JE Fo.sl t=AC (M,k))(hg:Qv l.toArray o (Qq (Qc o) 0 ds xs env)=AC AE)(F:o.dst=AC d)(P:Nat.blt d N=AE)(f:A.p b (j.toNat*k)=x)(hx:xs[i]?=AC .any/\HD xs i x=.mk xs'\/xs[i]?=AC x/\xs'=xs)(J:Hs[q]?=AC AF/\Fd Hs q X=.mk Hs'\/Hs[q]?=AC (AC X)/\Hs'=Hs)(G:DX prog N l ds env hB hE K T xs' Hs'):DX prog N l ds env hB hE K ((i,p,q)::T) xs Hs:=by
  subst f;exact iC H O (Qw R Q (Y5.sl _ (Yk E)).1 (Y5.sl _ (Yk E)).2 m g h) hg F P Z hx J G
theorem xg{cs:AA A}{y:Operand}{pp:A}{t nn:Nat}(ho:l[i]?=AC o)(hX:Hs[p]?=AC (AC X))(hop:o.op=.load t y)(ha:L3 FQ.ty.agg t=AC (AD,nn))(hxx:CS (Qq (Qc o) 0 ds xs env) y=pp)(hp:Dn X pp (x::cs))(hg:Qv l.toArray o (Qq (Qc o) 0 ds xs env)=AC AE)(hd:o.dst=AC d)(hN:Nat.blt d N=AE)(hn:JV x=AD)(hx:xs[i]?=AC .any/\HD xs i x=.mk xs'\/xs[i]?=AC x/\xs'=xs)(hq:Hs[q]?=AC AF/\Fd Hs q X=.mk Hs'\/Hs[q]?=AC (AC X)/\Hs'=Hs)(k1:DX prog N l ds env hB hE K T xs' Hs'):DX prog N l ds env hB hE K ((i,p,q)::T) xs Hs:=iC ho hX (Ey hop (F_.ty.agg _ (MC ha)).1 hxx hp) hg hd hN hn hx hq k1
theorem DXk{α β:Type}{m:DecidableEq α}{j:α->A}{ev:β->A}{L:AA (α×β)}{kk:α}{z0 v:β}{T' i0:Nat}{y z:Operand}(O:AC (@Qd _ _ m L kk z0)=AC v)(F:l[i]?=AC o)(J:Hs[p]?=AC (AC X))(h:o.op=.lookup T' y z AE)(E:LookT prog T' j ev z0)(g:CS (Qq (Qc o) 0 ds xs env) y=.map i0)(hH:X[i0]?=AC (.map (Qi j ev L)))(H:CS (Qq (Qc o) 0 ds xs env) z=j kk)(hg:Qv l.toArray o (Qq (Qc o) 0 ds xs env)=AC AE)(t:o.dst=AC d)(R:Nat.blt d N=AE)(f:A.t [ev v,.b (GN L kk)]=x)(hx:xs[i]?=AC .any/\HD xs i x=.mk xs'\/xs[i]?=AC x/\xs'=xs)(M:Hs[q]?=AC AF/\Fd Hs q X=.mk Hs'\/Hs[q]?=AC (AC X)/\Hs'=Hs)(B:DX prog N l ds env hB hE K T xs' Hs'):DX prog N l ds env hB hE K ((i,p,q)::T) xs Hs:=by
  subst f;obtain⟨W,Y,z,P,V,Q,G⟩:=E.c;exact iC F J (wR P O V Q G h g hH H) hg t R Z hx M B
theorem xh{K0:Nat}{HsF:AA Qb}(hH:L2 Hs=AC HsF)(h:Hh l xs=AE)(d:HsF.all (λX=>Nat.ble hE (AI X))=AE)(j:l.drop m=r)(hk:HsF.getD K0 []=Hk)(f:dE (IT ds xs env) Hk=AC (E',H'))(g:WO prog h0 N l.toArray r E' H' Q):DX prog N l ds env hB hE (KX h0 N m K0 l ds env hE Q) [] xs Hs:=by
  subst j hk;exact DX.done hH h ⟨d,FE f g⟩
theorem c_(h:DX prog N l ds env hB hE K T xs Hs):DX prog N l ds env hB hE K T xs Hs:=h
theorem l6{n:Nat}{p:Prop}(h:BX n p):BX n p:=h
end
end Go.Sw
