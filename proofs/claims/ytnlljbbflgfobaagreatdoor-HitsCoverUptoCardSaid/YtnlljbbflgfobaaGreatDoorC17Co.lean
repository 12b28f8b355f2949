/- Hits cover the reads that are used. -/
import Derived.Test.YtnlljbbflgfobaaGreatDoorQ17Co
set_option linter.unusedVariables false
set_option linter.unusedSimpArgs false
namespace Go.Sw
def usedB(c:Course)(l:List Fact)(f:Fact):Bool:=selB 2 f&&useB c (l.filter (selB 6)) f
def usedR(c:Course)(l:List Fact):List Read:=(l.filter (usedB c l)).map (·.Read)
theorem Qd4(c:Course)(l:List Fact)(p:hits_place)(t:Int):inS c l p t↔ ∃r∈usedR c l,plc r=p/\r.Local=t:=by
 unfold inS usedR usedB
 constructor
 ·rintro⟨f,f1,f2,f3,f4,f5⟩
  exact⟨f.Read,List.mem_map.2 ⟨f,List.mem_filter.2 ⟨f1,by rw[f2,f3];rfl⟩,rfl⟩,f4,f5⟩
 ·rintro⟨r,hr,h1,h2⟩
  obtain⟨f,hf,rfl⟩:=List.mem_map.1 hr
  obtain⟨f1,f2⟩:=List.mem_filter.1 hf
  simp only[Bool.and_eq_true]at f2
  exact⟨f,f1,f2.1,f2.2,h1,h2⟩
theorem Qfl{c:Course}{l:List Fact}{r:Read}(h:r∈usedR c l):ReadOk r/\r.Mat<(c.Mats.length:Int):=by
 unfold usedR usedB at h
 obtain⟨f,hf,rfl⟩:=List.mem_map.1 h
 obtain⟨f1,f2⟩:=List.mem_filter.1 hf
 simp only[Bool.and_eq_true]at f2
 refine⟨QdE f2.1,?_⟩
 have:=f2.2
 unfold useB at this
 simp only[Bool.and_eq_true,decide_eq_true_eq]at this
 exact this.1
theorem Qln(c:Course)(l:List Fact)(hl:l.length<=1000):Ev (fun n=>iter (F_fc n c l) n ([],0)) (usedR c l):=by
 unfold usedR
 refine Ev.iter (fun i=>(((l.take i).filter (usedB c l)).map (·.Read),(i:Int))) l.length rfl (fun i hi=>?_) ?_
 ·have ha:=Yx (x:=l[i]) (show l.length<=4611686018427387904 by omega) (List.getElem?_eq_getElem hi)
  generalize l[i]=x at ha
  have hlen:((l.take i).filter (usedB c l)).length<=i:=Nat.le_trans (List.length_filter_le _ _) (by rw[List.length_take];omega)
  unfold F_fc
  simp only[ha.lt,cond_true,ha.ix,Option.bind_some,ha.nx]
  rw[ha.take,List.filter_append,List.map_append]
  refine Ev.bind (v:=usedB c l x) ?_ ?_
  ·have e:usedB c l x=((x.Kind==2)&&(validS x&&(decide (x.Read.Mat<(c.Mats.length:Int))&& !silentS l x.Read))):=by
    show(((x.Kind==2)&&validS x)&&(decide (x.Read.Mat<(c.Mats.length:Int))&& !silentS l x.Read))=_
    rw[Bool.and_assoc]
   rw[e]
   cases(x.Kind==2)with
   |false=>exact Qa _
   |true=>
    simp only[cond_true,Bool.true_and]
    refine Ev.bind (QbS x) ?_
    cases validS x with
    |false=>exact Qa _
    |true=>
     simp only[cond_true,Bool.true_and]
     exact Ev.and (d:= !silentS l x.Read) fun _=>Ev.bind (QiK l x.Read hl) (Qa _)
  ·cases hx:usedB c l x with
   |false=>
    simp only[cond_false,Option.bind_some]
    rw[List.filter_cons_of_neg (by simp[hx]),List.filter_nil,List.map_nil,List.append_nil]
    exact Qa _
   |true=>
    simp only[cond_true]
    rw[List.filter_cons_of_pos hx,List.filter_nil,List.map_cons,List.map_nil,QbD _ _ (by rw[List.length_map];omega)]
    exact Qa _
 ·unfold F_fc
  simp only[Qbn,cond_false,List.take_length]
  exact Qa _
theorem QmA{c:Course}{S:hits_place->Int->Prop}{x:List Hit}(ok:HitsOk c S x)(hW:0<=c.Faults.Window){h:Hit}(hh:h∈x):¬ltH c.Faults.Window h h:=by
 have:=((ok.mem h).1 hh).le
 unfold ltH ltPl
 omega
theorem QaC(h:Hit)(r:Read):coverB h r=true↔plH h=plc r/\h.First<=r.Local/\r.Local<=h.Last:=by
 unfold coverB plH plc
 simp only[Bool.and_eq_true,beq_iff_eq,decide_eq_true_eq,hits_place.mk.injEq]
 constructor
 ·rintro⟨h1,h2,h3,h4⟩;exact⟨⟨h3,h1,h2⟩,h4⟩
 ·rintro⟨⟨h3,h1,h2⟩,h4⟩;exact⟨h1,h2,h3,h4⟩
theorem Qho(c:Course)(l:List Fact)(hW:0<=c.Faults.Window/\c.Faults.Window<=4294967296):checkH c (hitsL c l)=true:=by
 have ok:=Qia c l hW.1
 generalize hitsL c l=x at ok
 have bd:∀h∈x,(0<=h.Mat/\h.Mat<(c.Mats.length:Int))/\(0<=h.Epoch/\h.Epoch<=255)/\(0<=h.Chip/\h.Chip<=1048576)/\(-1099511627776<=h.First/\h.First<=1099511627776)/\(-1099511627776<=h.Last/\h.Last<=1099511627776)/\h.First<=h.Last:=by
  intro h hh
  have ih:=(ok.mem h).1 hh
  obtain⟨r,r1,r2,r3⟩:=(Qd4 c l _ _).1 ih.fa
  obtain⟨s,s1,s2,s3⟩:=(Qd4 c l _ _).1 ih.lb
  obtain⟨q1,q2⟩:=Qfl r1
  obtain⟨q3,q4⟩:=Qfl s1
  unfold plc plH at r2
  rw[hits_place.mk.injEq]at r2
  obtain⟨e1,e2,e3⟩:=r2
  have:=q1.mat;have:=q1.epoch;have:=q1.chip;have:=q1.loc;have:=q3.loc
  refine⟨by omega,by omega,by omega,by omega,by omega,ih.le⟩
 unfold checkH
 rw[Qdf]
 intro j _ hj
 have hj':j<x.length:=by omega
 unfold okAt
 rw[List.getElem?_eq_getElem hj']
 have hb:=bd _ (List.getElem_mem hj')
 have hw:wrongH c x[j]=false:=by
  unfold wrongH
  obtain⟨b1,b2,b3,b4,b5,b6⟩:=hb
  rw[Yg (by omega),Yg (by omega),(QbW _ _ _).2 b2,(QbW _ _ _).2 b3,(QbW _ _ _).2 b4,(QbW _ _ _).2 b5,Yg (by omega)]
  rfl
 simp only[hw,Bool.not_false,Bool.true_and]
 by_cases h0:j=0
 ·simp[h0]
 ·have hg:x[j-1]?=some x[j-1]:=List.getElem?_eq_getElem (by omega)
  rw[hg]
  have hp:=List.pairwise_iff_getElem.1 ok.ord (j-1) j (by omega) hj' (by omega)
  have hb2:=bd _ (List.getElem_mem (show j-1<x.length by omega))
  rw[Bool.or_eq_true]
  right
  show folB c.Faults.Window x[j-1] x[j]=true
  unfold folB
  rcases hp with hp|⟨hp1,hp2⟩
  ·rw[Q5 ((Yd _ _).2 hp)];rfl
  ·rw[Q5 ((QhC _ _).2 hp1),QU (by omega) (by omega),Q5 (show c.Faults.Window<x[j].First-x[j-1].Last by omega)]
   simp
theorem QhA{c:Course}{S:hits_place->Int->Prop}{x:List Hit}(ok:HitsOk c S x)(hW:0<=c.Faults.Window){r:Read}(hr:S (plc r) r.Local):
  x.foldl (fun(a:Int) h=>bif coverB h r then IntKind.i64.wrap (a+1)else a) 0=1:=by
 obtain⟨h,hh,h1,h2,h3⟩:=ok.cov _ _ hr
 have hc:coverB h r=true:=(QaC h r).2 ⟨h1,h2,h3⟩
 have one:∀g∈x,coverB g r=true->g=h:=by
  intro g hg hgc
  obtain⟨g1,g2,g3⟩:=(QaC g r).1 hgc
  have i1:=(ok.mem g).1 hg
  have i2:=(ok.mem h).1 hh
  rw[g1]at i1
  rw[h1]at i2
  obtain⟨e1,e2⟩:=i1.one i2 g2 g3 h2 h3
  have e3:plH g=plH h:=g1.trans h1.symm
  unfold plH at e3
  rw[hits_place.mk.injEq]at e3
  cases g;cases h;simp_all
 obtain⟨a,b,e⟩:=List.append_of_mem hh
 have hp:=ok.ord
 rw[e,List.pairwise_append]at hp
 obtain⟨_,hp2,hp3⟩:=hp
 rw[List.pairwise_cons]at hp2
 have hno:=QmA ok hW hh
 have na:∀g∈a,coverB g r=false:=by
  intro g hg
  cases q:coverB g r with
  |false=>rfl
  |true=>
   have:=one g (by rw[e];simp[hg]) q
   exact absurd (this▸hp3 g hg h (by simp)) hno
 have nb':∀g∈b,coverB g r=false:=by
  intro g hg
  cases q:coverB g r with
  |false=>rfl
  |true=>
   have:=one g (by rw[e];simp[hg]) q
   exact absurd (this▸hp2.1 g hg) hno
 have skip:∀(m:List Hit) (z:Int),(∀g∈m,coverB g r=false)->m.foldl (fun(a:Int) h=>bif coverB h r then IntKind.i64.wrap (a+1)else a) z=z:=by
  intro m
  induction m with
  |nil=>intro z _;rfl
  |cons g m ih=>
   intro z hm
   rw[List.foldl_cons,hm g (by simp),cond_false]
   exact ih z fun g' hg'=>hm g' (by simp[hg'])
 rw[e,List.foldl_append,skip a 0 na,List.foldl_cons,hc,cond_true,skip b _ nb']
 rfl
section
variable (U:List Read) (h:Hit) (W:Int)
def nxT(at':Int):Int:=U.foldl (fun a r=>bif coverB h r&&decide (r.Local<=at'+W)then(if a<r.Local then r.Local else a)else a) at'
theorem Qmv(at':Int):at'<=nxT U h W at'/\(nxT U h W at'=at'\/ ∃r∈U,coverB h r=true/\r.Local=nxT U h W at')/\ ∀r∈U,coverB h r=true->r.Local<=at'+W->r.Local<=nxT U h W at':=by
 have gen:∀(V:List Read) (a:Int),let z:=V.foldl (fun a r=>bif coverB h r&&decide (r.Local<=at'+W)then(if a<r.Local then r.Local else a)else a) a
   a<=z/\(z=a\/ ∃r∈V,coverB h r=true/\r.Local=z)/\ ∀r∈V,coverB h r=true->r.Local<=at'+W->r.Local<=z:=by
  intro V
  induction V with
  |nil=>intro a;exact⟨Int.le_refl _,.inl rfl,fun r hr=>by simp at hr⟩
  |cons r V ih=>
   intro a
   simp only[List.foldl_cons]
   cases hq:coverB h r&&decide (r.Local<=at'+W)with
   |false=>
    simp only[cond_false]
    obtain⟨i1,i2,i3⟩:=ih a
    refine⟨i1,i2.imp id fun⟨s,s1,s2⟩=>⟨s,by simp[s1],s2⟩,fun s hs hc hle=>?_⟩
    rcases List.mem_cons.1 hs with rfl|hs
    ·rw[hc,Q5 hle]at hq;cases hq
    ·exact i3 s hs hc hle
   |true=>
    simp only[cond_true]
    simp only[Bool.and_eq_true,decide_eq_true_eq]at hq
    obtain⟨i1,i2,i3⟩:=ih (if a<r.Local then r.Local else a)
    have hmx:a<=(if a<r.Local then r.Local else a)/\r.Local<=(if a<r.Local then r.Local else a):=by split<;>omega
    refine⟨by omega,?_,fun s hs hc hle=>?_⟩
    ·rcases i2 with i2|⟨s,s1,s2⟩
     ·rw[i2]
      by_cases hlt:a<r.Local
      ·rw[if_pos hlt];exact .inr ⟨r,by simp,hq.1,rfl⟩
      ·rw[if_neg hlt];exact .inl rfl
     ·exact .inr ⟨s,by simp[s1],s2⟩
    ·rcases List.mem_cons.1 hs with rfl|hs
     ·omega
     ·exact i3 s hs hc hle
 exact gen U at'
def atT:Nat->Int
 |0=>h.First
 |k+1=>nxT U h W (atT k)
def cntT(at':Int):Nat:=U.countP fun r=>coverB h r&&decide (at'<r.Local)
end
theorem QgF{α:Type}{p q:α->Bool}:∀{l:List α},(∀x∈l,p x=true->q x=true)->(∃x∈l,q x=true/\p x=false)->l.countP p<l.countP q
 |[],_,h=>by obtain⟨x,hx,_⟩:=h;simp at hx
 |a::l,hi,h=>by
  have hle:l.countP p<=l.countP q:=List.countP_mono_left fun x hx=>hi x (by simp[hx])
  obtain⟨x,hx,h1,h2⟩:=h
  rcases List.mem_cons.1 hx with rfl|hx
  ·rw[List.countP_cons_of_neg (by simp[h2]),List.countP_cons_of_pos h1];omega
  ·have ih:=QgF (fun y hy=>hi y (by simp[hy])) ⟨x,hx,h1,h2⟩
   cases hp:p a with
   |true=>rw[List.countP_cons_of_pos hp,List.countP_cons_of_pos (hi a (by simp) hp)];omega
   |false=>
    rw[List.countP_cons_of_neg (by simp[hp])]
    cases hq:q a with
    |true=>rw[List.countP_cons_of_pos hq];omega
    |false=>rw[List.countP_cons_of_neg (by simp[hq])];exact ih
theorem Qkt{U:List Read}{h:Hit}{W:Int}(hW:0<=W)(hi:IsHit W (fun t=>∃r∈U,plc r=plH h/\r.Local=t) h.First h.Last):∀k:Nat,
  (h.First<=atT U h W k/\atT U h W k<=h.Last/\ ∃r∈U,plc r=plH h/\r.Local=atT U h W k)/\(atT U h W k=h.Last\/cntT U h (atT U h W k)+k<=U.length):=by
 intro k
 induction k with
 |zero=>exact⟨⟨Int.le_refl _,hi.le,hi.fa⟩,.inr (by rw[Nat.add_zero];exact List.countP_le_length)⟩
 |succ k ih=>
  obtain⟨⟨i1,i2,i3⟩,i4⟩:=ih
  obtain⟨n1,n2,n3⟩:=Qmv U h W (atT U h W k)
  have e:atT U h W (k+1)=nxT U h W (atT U h W k):=rfl
  rw[e]
  generalize atT U h W k=a at*
  have hb:nxT U h W a<=h.Last/\ ∃r∈U,plc r=plH h/\r.Local=nxT U h W a:=by
   rcases n2 with n2|⟨r,r1,r2,r3⟩
   ·rw[n2];exact⟨i2,i3⟩
   ·obtain⟨c1,c2,c3⟩:=(QaC h r).1 r2
    exact⟨by omega,r,r1,c1.symm,r3⟩
  refine⟨⟨by omega,hb⟩,?_⟩
  by_cases hl:a=h.Last
  ·left;omega
  ·right
   have hlt:a<h.Last:=by omega
   obtain⟨t,⟨r,r1,r2,rfl⟩,t2,t3⟩:=hi.su a i3 i1 hlt
   have hrl:r.Local<=h.Last:=by
    by_cases z:h.Last<r.Local
    ·have:=hi.en r.Local ⟨r,r1,r2,rfl⟩ z;omega
    ·omega
   have hcv:coverB h r=true:=(QaC h r).2 ⟨r2.symm,by omega,hrl⟩
   have hge:=n3 r r1 hcv t3
   rcases i4 with i4|i4
   ·exact absurd i4 hl
   ·have:cntT U h (nxT U h W a)<cntT U h a:=by
     unfold cntT
     refine QgF (fun s _ hs=>?_) ?_
     ·simp only[Bool.and_eq_true,decide_eq_true_eq]at hs⊢
      exact⟨hs.1,by omega⟩
     ·rcases n2 with n2|⟨s,s1,s2,s3⟩
      ·omega
      ·exact⟨s,s1,by rw[s2,Q5 (show a<s.Local by omega)];rfl,by rw[s3,Yg (show¬nxT U h W a<nxT U h W a by omega)];simp⟩
    omega
theorem Qlx{U:List Read}{h:Hit}{W:Int}(hW:0<=W)(hi:IsHit W (fun t=>∃r∈U,plc r=plH h/\r.Local=t) h.First h.Last):atT U h W U.length=h.Last:=by
 obtain⟨⟨i1,i2,i3⟩,i4⟩:=Qkt hW hi U.length
 rcases i4 with i4|i4
 ·exact i4
 ·by_cases z:atT U h W U.length<h.Last
  ·exfalso
   obtain⟨r,r1,r2,r3⟩:=hi.lb
   have:0<cntT U h (atT U h W U.length):=by
    unfold cntT
    rw[List.countP_pos_iff]
    exact⟨r,r1,by rw[(QaC h r).2 ⟨r2.symm,by omega,by omega⟩,Q5 (show atT U h W U.length<r.Local by omega)];rfl⟩
   omega
  ·omega
theorem Qkb{c:Course}{U:List Read}{h:Hit}(hW:0<=c.Faults.Window/\c.Faults.Window<=4294967296)(hU:U.length<=1000)(hB: -1099511627776<=h.First/\h.Last<=1099511627776)
  (hi:IsHit c.Faults.Window (fun t=>∃r∈U,plc r=plH h/\r.Local=t) h.First h.Last):Ev (fun n=>iter (F_cx n c U h) n (h.First,false,0)) (h.Last,true):=by
 have hne:0<U.length:=by
  obtain⟨r,r1,_⟩:=hi.fa
  exact List.length_pos_of_mem r1
 have hany:U.any (fun r=>coverB h r&&(r.Local==h.First))=true:=by
  obtain⟨r,r1,r2,r3⟩:=hi.fa
  exact List.any_eq_true.2 ⟨r,r1,by rw[(QaC h r).2 ⟨r2.symm,by omega,by have:=hi.le;omega⟩,r3];simp⟩
 have inner:∀(m:Bool) (a:Int) (i:Int),-1099511627776<=a->a<=1099511627776->Ev (fun n=>iter (F_cy n c U h (a,m,i)) n (m,a,0)) (true,nxT U h c.Faults.Window a):=by
  intro m a i ha1 ha2
  have hw:IntKind.i64.wrap (a+c.Faults.Window)=a+c.Faults.Window:=QU (by omega) (by omega)
  have:=Y6 (step:=fun n=>F_cy n c U h (a,m,i)) U (fun(s:Bool×Int) r=>bif coverB h r then(s.1||(r.Local==h.First),bif decide (r.Local<=a+c.Faults.Window)then(if s.2<r.Local then r.Local else s.2)else s.2)else s) (m,a) (fun s i=>(s.1,s.2,(i:Int))) (fun s=>s) (by omega) rfl (fun i r s ha _=>?_) ?_
  ·refine this.eq ?_
   have gen:∀(V:List Read) (s:Bool×Int),V.foldl (fun(s:Bool×Int) r=>bif coverB h r then(s.1||(r.Local==h.First),bif decide (r.Local<=a+c.Faults.Window)then(if s.2<r.Local then r.Local else s.2)else s.2)else s) s
     =(s.1||V.any (fun r=>coverB h r&&(r.Local==h.First)),V.foldl (fun a' r=>bif coverB h r&&decide (r.Local<=a+c.Faults.Window)then(if a'<r.Local then r.Local else a')else a') s.2):=by
    intro V
    induction V with
    |nil=>intro s;simp
    |cons r V ih=>
     intro s
     rw[List.foldl_cons,ih]
     rw[List.any_cons,List.foldl_cons]
     cases coverB h r with
     |false=>simp
     |true=>simp[Bool.or_assoc]
   rw[gen U (m,a),hany]
   simp[nxT]
  ·unfold F_cy
   simp only[ha.lt,cond_true,ha.ix,Option.bind_some,ha.nx,hw]
   refine Ev.bind (Qe5 h r) ?_
   cases coverB h r with
   |false=>exact Qa _
   |true=>
    simp only[cond_true]
    refine Ev.bind (v:=(s.1||(r.Local==h.First),bif decide (r.Local<=a+c.Faults.Window)then(if s.2<r.Local then r.Local else s.2)else s.2)) (Ev.bind (YB fun _=>Qa _) ?_) (Qa _)
    cases decide (r.Local<=a+c.Faults.Window)<;>exact Qa _
  ·unfold F_cy
   simp only[Qbn,cond_false]
   exact Qa _
 have:=Ev.iter (step:=fun n=>F_cx n c U h) (s0:=(h.First,false,0)) (fun k=>(atT U h c.Faults.Window k, !(k==0),(k:Int))) U.length (b:=(h.Last,true)) rfl (fun k hk=>?_) ?_
 ·exact this
 ·have ha:=Yx (x:=U[k]) (show U.length<=4611686018427387904 by omega) (List.getElem?_eq_getElem hk)
  obtain⟨⟨i1,i2,_⟩,_⟩:=Qkt hW.1 hi k
  unfold F_cx
  simp only[ha.lt,cond_true,ha.nx]
  refine Ev.bind (inner _ _ _ (by omega) (by omega)) ((Qa _).eq ?_)
  simp[atT]
 ·unfold F_cx
  simp only[Qbn,cond_false]
  rw[Qlx hW.1 hi]
  have:(U.length==0)=false:=by rw[beq_eq_false_iff_ne];omega
  rw[this]
  exact Qa _
theorem law_HitsCover(c:Course)(l:List Fact)(hc:Course.wf c)(hl:l.length<=1048576/\ ∀f∈l,Fact.wf f):∃n,F_dp n c l=some true:=by
 obtain⟨b,pb,fb⟩:=Qko c hc
 refine Ev.ex ?_
 unfold F_dp
 refine Ev.bind (Ev.const Ql5) ?_
 simp only[Bool.not_true,cond_false]
 cases hb:b with
 |false=>
  refine Ev.bind (v:=true) (Ev.bind pb ?_) (Qa _)
  rw[hb];exact Qa _
 |true=>
 cases h14:decide ((14:Int)<(l.length:Int))with
 |true=>
  refine Ev.bind (v:=true) (Ev.bind pb ?_) (Qa _)
  rw[hb];exact Qa _
 |false=>
 have h14':l.length<=14:=by have:=of_decide_eq_false h14;omega
 obtain⟨_,p1⟩:=fb hb
 refine Ev.bind (v:=false) (Ev.bind pb ?_) ?_
 ·rw[hb];exact Qa _
 simp only[cond_false]
 refine Ev.bind (QmJ c l (by omega) p1) (Ev.bind p1 ?_)
 unfold allF
 cases h0:(courseE c != 0)with
 |true=>exact Qa _
 |false=>
 have hE:courseE c=0:=by simpa[bne]using h0
 have hW:=Qiq hE
 have ok:=Qia c l hW.1
 have hlen:=Qgi c l (by omega)
 have hchk:=Qho c l hW
 simp only[cond_false]
 refine Ev.bind (QiI c (hitsL c l) hlen p1) ?_
 rw[h0,hchk]
 simp only[cond_false,cond_true,bne_self_eq_false]
 refine Ev.bind (Qln c l (by omega)) ?_
 have hU:(usedR c l).length<=14:=by unfold usedR;rw[List.length_map];exact Nat.le_trans (List.length_filter_le _ _) h14'
 have hS:∀p t,inS c l p t↔ ∃r∈usedR c l,plc r=p/\r.Local=t:=Qd4 c l
 have hUok:∀r∈usedR c l,ReadOk r:=fun r hr=>(Qfl hr).1
 generalize usedR c l=U at*
 generalize hitsL c l=x at*
 refine Ev.bind (v:=(Ctl.cont ():Ctl Unit Bool)) ?_ ?_
 ·refine Ev.iter (fun i=>(i:Int)) U.length rfl (fun i hi=>?_) ?_
  ·have ha:=Yx (x:=U[i]) (show U.length<=4611686018427387904 by omega) (List.getElem?_eq_getElem hi)
   generalize U[i]=r at ha
   unfold F_fo
   simp only[ha.lt,cond_true,ha.ix,Option.bind_some,ha.nx]
   refine Ev.bind (v:=(1:Int)) ?_ (Qa _)
   refine(Y6 (step:=fun n=>F_fh n x r) x (fun(a:Int) h=>bif coverB h r then IntKind.i64.wrap (a+1)else a) 0 (fun a i=>(a,(i:Int))) (fun a=>a) (by omega) rfl (fun j g a hg _=>?_) ?_).eq (QhA ok hW.1 ((hS _ _).2 ⟨r,ha.mem,rfl,rfl⟩))
   ·unfold F_fh
    simp only[hg.lt,cond_true,hg.ix,Option.bind_some,hg.nx]
    refine Ev.bind (Qe5 g r) ?_
    cases coverB g r<;>exact Qa _
   ·unfold F_fh
    simp only[Qbn,cond_false]
    exact Qa _
  ·unfold F_fo
   simp only[Qbn,cond_false]
   exact Qa _
 ·simp only
  refine Ev.bind (v:=(Ctl.cont ():Ctl Unit Bool)) ?_ (Qa _)
  refine Ev.iter (fun i=>(i:Int)) x.length rfl (fun i hi=>?_) ?_
  ·have ha:=Yx (x:=x[i]) (show x.length<=4611686018427387904 by omega) (List.getElem?_eq_getElem hi)
   generalize x[i]=h at ha
   have ih:=(ok.mem h).1 ha.mem
   have ih':=ih.congr (hS (plH h))
   obtain⟨r,r1,_,r3⟩:=ih'.fa
   obtain⟨s,s1,_,s3⟩:=ih'.lb
   have b1:=(hUok r r1).loc
   have b2:=(hUok s s1).loc
   unfold F_fm
   simp only[ha.lt,cond_true,ha.ix,Option.bind_some,ha.nx]
   refine Ev.bind (Qkb hW (by omega) ⟨by omega,by omega⟩ ih') ?_
   simp only[Bool.not_true,cond_false,bne_self_eq_false,Option.bind_some]
   exact Qa _
  ·unfold F_fm
   simp only[Qbn,cond_false]
   exact Qa _
end Go.Sw
