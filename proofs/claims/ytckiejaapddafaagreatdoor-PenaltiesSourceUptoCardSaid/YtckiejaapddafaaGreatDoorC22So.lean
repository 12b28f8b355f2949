/- Each penalty comes from a ruling in force or a report. -/
import Derived.Test.YtckiejaapddafaaGreatDoorQ22So
set_option linter.unusedVariables false
set_option linter.unusedSimpArgs false
namespace Go.Sw
theorem Qi7{f:Fact}(h:validS f=true)(k:f.Kind=10):(f.Ruling.Kind=3->1<=f.Ruling.Amount/\f.Ruling.Amount<=1099511627776)/\(f.Ruling.Kind=4->1<=f.Ruling.Amount/\f.Ruling.Amount<=64)/\(f.Ruling.Kind=5->f.Ruling.Amount=0):=by
 obtain⟨_,b,_⟩:=QdQ h;unfold contR at b;rw[k]at b;have d:(true&&(nb f.Ruling.Case 1 1048576&&(nb f.Ruling.Instance 1 2&&(nb f.Ruling.Kind 1 5&&(bif (f.Ruling.Kind==1)||(f.Ruling.Kind==2)then nb f.Ruling.Bib 0 0&&(nb f.Ruling.Position 0 0&&(nb f.Ruling.Amount 0 0&&true))else bif f.Ruling.Kind==3 then nb f.Ruling.Bib 1 9999&&(nb f.Ruling.Position 0 255&&(nb f.Ruling.Amount 1 1099511627776&&true))else bif f.Ruling.Kind==4 then nb f.Ruling.Bib 1 9999&&(nb f.Ruling.Position 0 255&&(nb f.Ruling.Amount 1 64&&true))else nb f.Ruling.Bib 1 9999&&(nb f.Ruling.Position 0 255&&(nb f.Ruling.Amount 0 0&&true)))))))=true:=b;simp only[XZ]at d;obtain⟨_,_,_,_,a⟩:=d;refine⟨λq=>?_,λq=>?_,λq=>?_⟩
 .rw[q]at a;have:(nb f.Ruling.Bib 1 9999&&(nb f.Ruling.Position 0 255&&(nb f.Ruling.Amount 1 1099511627776&&true)))=true:=a;simp only[XZ,QbT]at this;exact this.2.2.1
 .rw[q]at a;have:(nb f.Ruling.Bib 1 9999&&(nb f.Ruling.Position 0 255&&(nb f.Ruling.Amount 1 64&&true)))=true:=a;simp only[XZ,QbT]at this;exact this.2.2.1
 .rw[q]at a;have:(nb f.Ruling.Bib 1 9999&&(nb f.Ruling.Position 0 255&&(nb f.Ruling.Amount 0 0&&true)))=true:=a;simp only[XZ,QbT]at this;omega
theorem Qjv{l:List Fact}{x:KeyT}(d:x∈keysOf l){g:Ruling}(hg:x.2.1=some g):∃f∈l,validS f=true/\f.Kind=10/\f.Ruling=g:=by
 unfold keysOf filesS at d;rw[List.map_map]at d;obtain⟨k,_,rfl⟩:=Xe.1 d;have h:forceF (fileOf (canonS l) k)=some g:=hg;unfold forceF at h;cases q:suspF (fileOf (canonS l) k)with
 |true=>rw[q]at h;cases h
 |false=>
  rw[q,Vs,Option.map_eq_some_iff]at h;obtain⟨f,j,i⟩:=h;have e:=Qgs ((VF.1 (List.mem_of_head? j)).symm);obtain⟨a,b⟩:=((Qbm l).2 f).1 e.1;exact⟨f,a,b,e.2.1,i⟩
theorem QeV(c:Course):∀K:List KeyT,((K.filterMap (givenK c)).map (·.number)).Sublist (K.map (·.1))
 |[]=>List.Sublist.slnil
 |x::K=>by
  rw[List.filterMap_cons,Vl];cases h:givenK c x with
  |none=>exact(QeV c K).cons _
  |some y=>
   simp only[Vl];rw[Qgn h];exact(QeV c K).cons_cons _
theorem QjM(e:Int)(c:Course)(l:List Fact)(b:Int):((casesG e c l b).map (·.number)).Pairwise (· < ·):=by
 unfold casesG;cases(e != 0)with
 |true=>exact List.Pairwise.nil
 |false=>
  unfold casesOf;exact(QcY l).inc.sublist ((List.filter_sublist.map _).trans (QeV c _))
def repQ(c:Course)(b:Int)(y:Ud)(r:Report):Bool:=(r.Case==y.number)&&((r.Bib==b)&&((r.Position==y.penalty.Position)&&(decide (0<=r.Offence)&&decide (r.Offence<(c.Offences.length:Int)))))
def repM(c:Course)(y:Ud)(r:Report):Bool:=match idx c.Offences r.Offence with|some o=>(o.Time==y.penalty.Time)&&((o.Laps==y.penalty.Laps)&&(o.Out==y.penalty.Out))|none=>false
def repG(c:Course)(b:Int)(y:Ud)(a:Bool)(r:Report):Bool:=bif repQ c b y r then a||repM c y r else a
theorem QhX(c:Course)(b:Int)(y:Ud):∀(l:List Report) (a:Bool),l.foldl (repG c b y) a=(a||l.any λr=>repQ c b y r&&repM c y r)
 |[],a=>by simp
 |r::l,a=>by
  rw[XG,QhX c b y l,List.any_cons];unfold repG;cases repQ c b y r<;>simp[Bool.or_assoc]
theorem Qk0{c:Course}{k:Int}{r:Option Report}{y:Ud}(h:viaR c k r=some y):∃r',r=some r'/\(r'.Case=k->repQ c y.bib y r'=true)/\repM c y r'=true:=by
 have d:=QeC h;cases r with
 |none=>cases h
 |some r=>
  simp only[viaR]at h;cases q:(decide (r.Offence<0)||decide ((c.Offences.length:Int)<=r.Offence))with
  |true=>rw[q]at h;cases h
  |false=>
   rw[q,Vs,Option.map_eq_some_iff]at h;obtain⟨o,a,rfl⟩:=h;simp only[Bool.or_eq_false_iff,decide_eq_false_iff_not]at q;refine⟨r,rfl,λb=>?_,?_⟩
   .unfold repQ;rw[b,Ys (by omega),Ys (by omega)];simp
   .unfold repM;rw[a];simp
theorem law_PenaltiesSource(c:Course)(l:List Fact)(bib:Int)(hc:Course.wf c)(hl:l.length<=1048576/\ ∀f∈l,Fact.wf f)(hb:Qm .i64 bib):∃n,F_dr n c l bib=some true:=by
 obtain⟨b,pb,fb⟩:=Qnu c hc;refine Ev.ex ?_;unfold F_dr;refine Ea (Ez Qpf) ?_;simp only[Xg,Vs];refine Ea (Qnc l pb) ?_;cases h6:(b&&decide ((l.length:Int)<=14))with
 |false=>exact Qa _
 |true=>
  rw[XZ,Vt]at h6;obtain⟨_,he⟩:=fb h6.1;have ac:l.length<=14:=by have:=h6.2;omega
  simp only[Xg,Vs];refine Ea (Qng _ c l bib (by omega) he) ?_;rw[QiK];simp only[X4,bne_self_eq_false,Vs];refine Ea (Qfw l (by omega)) ?_;have rl:((keysOf l).filterMap λx=>x.2.2.head?).length<=100:=XY (List.length_filterMap_le ..) (by have:=QaO l;omega);have gl:=QjL (courseE c) c l bib;have z:=QjM (courseE c) c l bib;have N:∀y∈casesG (courseE c) c l bib,∃x∈keysOf l,givenK c x=some y/\y.bib=bib:=by
   intro y u;unfold casesG at u;cases E:(courseE c != 0)with
   |true=>rw[E]at u;cases u
   |false=>
    rw[E]at u;obtain⟨h1,h2⟩:=Xd.1 u;obtain⟨x,s,d⟩:=List.mem_filterMap.1 h1;exact⟨x,s,d,by simpa using h2⟩
  generalize casesG (courseE c) c l bib=G at gl z N;refine Ea (v:=Ctl.cont ()) ?_ (Qa _);refine(Qa5 G (λ_=>false) (λi=>(i:Int)) (Ctl.done false) (Ctl.cont ()) (by omega) rfl (λi y m t=>?_) (λi y m t=>by cases t) ?_).eq (by rw[show G.any (λ_=>false)=false from List.any_eq_false.2 λx _=>Bool.false_ne_true];rfl)
  .have j1:idx (G.map (·.number)) (i:Int)=some y.number:=YZ (by rw[Xp,m.get];rfl);have j2:idx (G.map (·.penalty)) (i:Int)=some y.penalty:=YZ (by rw[Xp,m.get];rfl);have ag:=m.lt';obtain⟨x,s,d,h⟩:=N y m.mem;have H:=Qgn d;have V:=Qic s H.symm;unfold F_hr;simp only[X4,m.lt,Vr,j1,j2,XM,m.nx];refine Ea (v:=Ctl.cont ()) ?_ (Qa _);refine Ea (v:=false) ?_ ?_
   .cases hi:decide (0<(i:Int))with
    |false=>exact Qa _
    |true=>
     have af:0<i:=by have:=Vx hi;omega
     have w1:IntKind.i64.wrap ((i:Int)-1)=((i-1:Nat):Int):=by rw[Yi (by omega) (by omega)];omega
     have hp:(G.map (·.number))[i-1]?=some ((G.map (·.number))[i-1]'(by rw[X4];omega)):=XN (by rw[X4];omega);have:=VG.1 z (i-1) i (by rw[X4];omega) (by rw[X4];omega) (by omega);have P:(G.map (·.number))[i]'(by rw[X4];omega)=y.number:=by
      rw[List.getElem_map,(XO.1 m.get).2]
     rw[P]at this;simp only[Vr,w1,YZ hp,XM];rw[YJ (by omega)];exact Qa _
   simp only[Vs];refine Ea (QiE l y.number (by omega)) ?_;rw[V];have J:viaR c x.1 x.2.2.head? =some y->Ev (λn=>((iter (F_hg n c bib (G.map (·.number),G.map (·.penalty)) ((keysOf l).filterMap λx=>x.2.2.head?) (i:Int) y.penalty) n (false,0):Option Bool).bind λB=>(bif (!B)then some (.done (.done (.done false)))else some (.cont ())))) (Ctl.cont ():Ctl Unit (Ctl Int (Ctl Unit Bool))):=by
    intro W;obtain⟨r,q,aa,X⟩:=Qk0 W;have T:r∈(keysOf l).filterMap λx=>x.2.2.head? :=List.mem_filterMap.2 ⟨x,s,q⟩;have ab:=(QcY l).rep x s r q;have k:(((keysOf l).filterMap λx=>x.2.2.head?).any λr=>repQ c bib y r&&repM c y r)=true:=by
     refine Xu.2 ⟨r,T,?_⟩;rw[<- h,aa ab,X];rfl
    generalize((keysOf l).filterMap λx=>x.2.2.head?)=R at rl k;refine Ea (v:=true) ?_ (Qa _);have e:R.foldl (repG c bib y) false=true:=by rw[QhX,k];rfl
    rw[<- e];refine Yt R (repG c bib y) false (λa i=>(a,(i:Int))) (λa=>a) (by omega) rfl (λj r a q _=>?_) ?_
    .unfold F_hg;simp only[q.lt,Vr,q.ix,j1,XM,q.nx];refine Ea (v:=repQ c bib y r) (Ei λ_=>Ei λ_=>Ei λ_=>Ei λ_=>Qa _) ?_;refine Ea (v:=repG c bib y a r) ?_ (Qa _);unfold repG;cases t:repQ c bib y r with
     |false=>exact Qa _
     |true=>
      simp only[Vr];unfold repQ at t;simp only[XZ,Vt]at t;obtain⟨_,_,_,z1,z2⟩:=t;have:idx c.Offences r.Offence=some (c.Offences[r.Offence.toNat]'(by omega)):=by
       unfold idx;rw[Ys z1,Vr,XN]
      unfold repM;rw[this];simp only[XM];exact Eu λ_=>Ei λ_=>Ei λ_=>Qa _
    .unfold F_hg;simp only[Qbj,Vs];exact Qa _
   cases p:x.2.1 with
   |none=>
    have W:viaR c x.1 x.2.2.head? =some y:=by unfold givenK at d;rw[p]at d;exact d
    refine Ea (v:=false) (Qa _) (JC (Ea (v:=false) (Qa _) (JC (J W))))
   |some g=>
    simp only[Vr];obtain⟨f,ae,O,Y,Q⟩:=Qjv s p;obtain⟨a3,a4,a5⟩:=Qi7 O Y;rw[Q]at a3 a4 a5;unfold givenK at d;rw[p]at d;simp only at d;refine Ea (v:=(g.Kind==3)||((g.Kind==4)||(g.Kind==5))) (Eu λ_=>Eu λ_=>Qa _) ?_;by_cases M:g.Kind=5
    .have h5:=a5 M;simp only[M]at d;have:some ({number:=x.1,bib:=g.Bib,penalty:={Position:=g.Position,Time:=0,Laps:=0,Out:=true}}:Ud)=some y:=by
      unfold rulP at d;rw[M]at d;exact d
     obtain rfl:=X2 this;simp only at h;rw[M,h5,h];simp only[bne_self_eq_false];exact QfR (Ea (v:=false) (Qa _) (Qa _))
    by_cases L:g.Kind=4
    .have h4:=a4 L;simp only[L]at d;have:some ({number:=x.1,bib:=g.Bib,penalty:={Position:=g.Position,Time:=0,Laps:=g.Amount,Out:=false}}:Ud)=some y:=by
      unfold rulP at d;rw[L]at d;exact d
     obtain rfl:=X2 this;simp only at h;have w:IntKind.i64.wrap (0+g.Amount)=g.Amount:=by rw[Yi (by omega) (by omega)];omega
     rw[L,h];simp only[w,bne_self_eq_false];exact QfR (Ea (v:=false) (Qa _) (Qa _))
    by_cases F:g.Kind=3
    .have h3:=a3 F;simp only[F]at d;have:some ({number:=x.1,bib:=g.Bib,penalty:={Position:=g.Position,Time:=g.Amount,Laps:=0,Out:=false}}:Ud)=some y:=by
      unfold rulP at d;rw[F]at d;exact d
     obtain rfl:=X2 this;simp only at h;have w:IntKind.i64.wrap (g.Amount+0)=g.Amount:=by rw[Yi (by omega) (by omega)];omega
     rw[F,h];simp only[w,bne_self_eq_false];exact QfR (Ea (v:=false) (Qa _) (Qa _))
    simp only[VB.2 M,VB.2 L,VB.2 F,Bool.or_self,Vs]at d⊢;refine Ea (v:=g.Kind==2) (Qa _) ?_;cases k2:(g.Kind==2)with
    |true=>rw[k2]at d;cases d
    |false=>
     rw[k2]at d;exact JC (J d)
  .unfold F_hr;simp only[X4,Qbj,Vs];exact Qa _
end Go.Sw
