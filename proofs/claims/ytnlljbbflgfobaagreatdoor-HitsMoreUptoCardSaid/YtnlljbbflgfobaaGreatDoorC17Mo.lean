/- What a further read or a silence changes. -/
import Derived.Test.YtnlljbbflgfobaaGreatDoorQ17Mo
set_option linter.unusedVariables false
set_option linter.unusedSimpArgs false
namespace Go.Sw
theorem Qcg{α:Type}[DecidableEq α]:∀{l m:List α},l.Nodup->(∀a∈l,a∈m)->l.length<=m.length
 |[],m,_,_=>by simp
 |a::l,m,hn,h=>by
  rw[List.nodup_cons]at hn
  have hm:=h a (by simp)
  have:=Qcg (l:=l) (m:=m.erase a) hn.2 fun b hb=>by
   have hne:b≠a:=by rintro rfl;exact hn.1 hb
   exact(List.mem_erase_of_ne hne).2 (h b (by simp[hb]))
  rw[List.length_erase_of_mem hm]at this
  have:=List.length_pos_of_mem hm
  simp only[List.length_cons];omega
def stH(h:Hit):hits_place×Int:=(plH h,h.First)
section
variable {c:Course}{S:hits_place->Int->Prop}{x:List Hit}
theorem QcF(ok:HitsOk c S x)(p:hits_place)(a:Int):(p,a)∈x.map stH↔S p a/\ ∀s,S p s->s<a->s<a-c.Faults.Window:=by
 rw[List.mem_map]
 constructor
 ·rintro⟨h,hh,e⟩
  have ih:=(ok.mem h).1 hh
  unfold stH at e
  rw[Prod.mk.injEq]at e
  obtain⟨rfl,rfl⟩:=e
  exact⟨ih.fa,ih.st⟩
 ·rintro⟨h1,h2⟩
  obtain⟨h,hh,rfl,h4,h5⟩:=ok.cov p a h1
  have ih:=(ok.mem h).1 hh
  refine⟨h,hh,?_⟩
  unfold stH
  rw[Prod.mk.injEq]
  refine⟨rfl,?_⟩
  by_cases z:h.First<a
  ·obtain⟨t,t1,t2,t3,t4⟩:=ih.pr a h1 z h5
   have:=h2 t t1 t2;omega
  ·omega
theorem QmG(ok:HitsOk c S x){g h:Hit}(hg:g∈x)(hh:h∈x)(e:plH g=plH h){t:Int}(h1:g.First<=t)(h2:t<=g.Last)(h3:h.First<=t)(h4:t<=h.Last):g=h:=by
 have i1:=(ok.mem g).1 hg
 have i2:=(ok.mem h).1 hh
 rw[e]at i1
 obtain⟨e1,e2⟩:=i1.one i2 h1 h2 h3 h4
 unfold plH at e
 rw[hits_place.mk.injEq]at e
 cases g;cases h;simp_all
theorem Qd7(ok:HitsOk c S x)(hW:0<=c.Faults.Window):x.Nodup:=by
 have h2:x.Pairwise fun a b=>ltH c.Faults.Window a b/\a∈x:=by
  have:=List.Pairwise.and_mem.1 ok.ord
  exact this.imp fun {a b} q=>⟨q.2.2,q.1⟩
 refine h2.imp fun {a b} q e=>?_
 subst e
 exact QmC ok hW q.2 q.1
theorem Qf1(ok:HitsOk c S x)(hW:0<=c.Faults.Window):(x.map stH).Nodup:=by
 refine List.pairwise_map.2 ?_
 have:=List.Pairwise.and_mem.1 (Qd7 ok hW)
 refine this.imp fun {a b} q e=>?_
 obtain⟨ha,hb,hne⟩:=q
 unfold stH at e
 rw[Prod.mk.injEq]at e
 have i1:=((ok.mem a).1 ha).le
 have i2:=((ok.mem b).1 hb).le
 exact hne (QmG ok ha hb e.1 (Int.le_refl _) i1 (by omega) (by omega))
end
theorem QjP{c:Course}{S T:hits_place->Int->Prop}{x y:List Hit}(hW:0<=c.Faults.Window)(hx:HitsOk c S x)(hy:HitsOk c T y){p0:hits_place}{t0:Int}(h:∀p t,T p t↔S p t\/(p=p0/\t=t0)):
  y.length<=x.length+1/\x.length<=y.length+1:=by
 have n1:=Qf1 hx hW
 have n2:=Qf1 hy hW
 constructor
 ·have:=Qcg (l:=y.map stH) (m:=(p0,t0)::x.map stH) n2 fun a ha=>by
   obtain⟨p,t⟩:=a
   obtain⟨h1,h2⟩:=(QcF hy p t).1 ha
   rcases(h p t).1 h1 with h1|⟨rfl,rfl⟩
   ·exact List.mem_cons_of_mem _ ((QcF hx p t).2 ⟨h1,fun s hs=>h2 s ((h p s).2 (.inl hs))⟩)
   ·exact List.mem_cons_self
  simpa using this
 ·by_cases hl:∃z∈x.map stH,z∉y.map stH
  ·obtain⟨z,hz1,hz2⟩:=hl
   have lost:∀p t,(p,t)∈x.map stH->(p,t)∉y.map stH->p=p0/\t0<t/\t-c.Faults.Window<=t0:=by
    intro p t h1 h2
    obtain⟨a1,a2⟩:=(QcF hx p t).1 h1
    have:¬ ∀s,T p s->s<t->s<t-c.Faults.Window:=fun q=>h2 ((QcF hy p t).2 ⟨(h p t).2 (.inl a1),q⟩)
    refine Classical.byContradiction fun hcon=>this fun s hs hlt=>?_
    rcases(h p s).1 hs with hs|⟨rfl,rfl⟩
    ·exact a2 s hs hlt
    ·have:¬(t-c.Faults.Window<=s):=fun q=>hcon ⟨rfl,hlt,q⟩
     omega
   have:=Qcg (l:=x.map stH) (m:=z::y.map stH) n1 fun a ha=>by
    by_cases hay:a∈y.map stH
    ·exact List.mem_cons_of_mem _ hay
    ·obtain⟨p,t⟩:=a
     obtain⟨p',t'⟩:=z
     obtain⟨rfl,l2,l3⟩:=lost p t ha hay
     obtain⟨rfl,m2,m3⟩:=lost p' t' hz1 hz2
     have a1:=(QcF hx _ t).1 ha
     have a2:=(QcF hx _ t').1 hz1
     have:t=t':=by
      rcases Int.lt_trichotomy t t' with q|q|q
      ·have:=a2.2 t a1.1 q;omega
      ·exact q
      ·have:=a1.2 t' a2.1 q;omega
     rw[this];exact List.mem_cons_self
   simpa using this
  ·have:=Qcg (l:=x.map stH) (m:=y.map stH) n1 fun a ha=>Classical.byContradiction fun q=>hl ⟨a,ha,q⟩
   simp at this;omega
theorem QdJ(k:Int)(l:List Fact)(f:Fact):(l++[f]).filter (selB k)=l.filter (selB k)++(bif selB k f then[f]else[]):=by
 rw[List.filter_append]
 cases h:selB k f with
 |false=>rw[List.filter_cons_of_neg (by simp[h])];rfl
 |true=>rw[List.filter_cons_of_pos h];rfl
theorem Qj1{c:Course}{l:List Fact}{f:Fact}(hk:f.Kind=2):(∀p t,inS c (l++[f]) p t↔inS c l p t)\/ ∀p t,inS c (l++[f]) p t↔inS c l p t\/(p=plc f.Read/\t=f.Read.Local):=by
 have h6:selB 6 f=false:=by unfold selB;rw[hk];rfl
 have hq:(l++[f]).filter (selB 6)=l.filter (selB 6):=by rw[QdJ,h6];simp
 cases hu:selB 2 f&&useB c (l.filter (selB 6)) f with
 |false=>
  left
  intro p t
  unfold inS
  rw[hq]
  constructor
  ·rintro⟨g,g1,g2,g3,g4⟩
   rcases List.mem_append.1 g1 with g1|g1
   ·exact⟨g,g1,g2,g3,g4⟩
   ·simp only[List.mem_singleton]at g1
    subst g1
    rw[g2,g3]at hu;cases hu
  ·rintro⟨g,g1,g2⟩
   exact⟨g,by simp[g1],g2⟩
 |true=>
  right
  simp only[Bool.and_eq_true]at hu
  intro p t
  unfold inS
  rw[hq]
  constructor
  ·rintro⟨g,g1,g2,g3,g4,g5⟩
   rcases List.mem_append.1 g1 with g1|g1
   ·exact .inl ⟨g,g1,g2,g3,g4,g5⟩
   ·simp only[List.mem_singleton]at g1
    subst g1
    exact .inr ⟨g4.symm,g5.symm⟩
  ·rintro(⟨g,g1,g2⟩|⟨rfl,rfl⟩)
   ·exact⟨g,by simp[g1],g2⟩
   ·exact⟨f,by simp,hu.1,hu.2,rfl,rfl⟩
def silF(h:Hit):Fact:={z_Fact with No:=1,Kind:=6,Silence:={Mat:=h.Mat,Epoch:=h.Epoch,Lo:=h.First,Hi:=h.Last:Silence}:Fact}
theorem Qis{h:Hit}(h1:0<=h.Mat/\h.Mat<=39)(h2:0<=h.Epoch/\h.Epoch<=255)(h3: -1099511627776<=h.First/\h.First<=1099511627776)(h4: -1099511627776<=h.Last/\h.Last<=1099511627776)(h5:h.First<=h.Last):validS (silF h)=true:=by
 rw[Qbz,QgI]
 have e1:headS (silF h)=true:=by rfl
 have e2:contR (silF h)=(decide (h.First<=h.Last)&&(nb h.Mat 0 39&&(nb h.Epoch 0 255&&(nb h.First (-1099511627776) 1099511627776&&(nb h.Last (-1099511627776) 1099511627776&&true))))):=by rfl
 have e3:onlyS (silF h)=silF h:=by rfl
 rw[e1,e2,e3,Yu h5,(QdY _ _ _).2 h1,(QdY _ _ _).2 h2,(QdY _ _ _).2 h3,(QdY _ _ _).2 h4]
 simp
def silP(h:Hit)(p:hits_place):Prop:=p.mat=h.Mat/\p.epoch=h.Epoch
theorem Qlk{c:Course}{l:List Fact}{h:Hit}(hv:validS (silF h)=true)(p:hits_place)(t:Int):inS c (l++[silF h]) p t↔inS c l p t/\ ¬(silP h p/\h.First<=t/\t<=h.Last):=by
 have h6:selB 6 (silF h)=true:=by unfold selB;rw[hv];rfl
 have h2:selB 2 (silF h)=false:=by unfold selB;rfl
 have hq:(l++[silF h]).filter (selB 6)=l.filter (selB 6)++[silF h]:=by rw[QdJ,h6];rfl
 have hu:∀f,useB c (l.filter (selB 6)++[silF h]) f=true↔useB c (l.filter (selB 6)) f=true/\ ¬(silP h (plc f.Read)/\h.First<=f.Read.Local/\f.Read.Local<=h.Last):=by
  intro f
  unfold useB
  rw[List.any_append]
  have e:[silF h].any (silB f.Read)=true↔(silP h (plc f.Read)/\h.First<=f.Read.Local/\f.Read.Local<=h.Last):=by
   have e0:[silF h].any (silB f.Read)=((h.Mat==f.Read.Mat)&&((h.Epoch==f.Read.Epoch)&&(decide (h.First<=f.Read.Local)&&decide (f.Read.Local<=h.Last)))):=by
    simp[silB,silF]
   rw[e0]
   unfold silP plc
   simp only[Bool.and_eq_true,beq_iff_eq,decide_eq_true_eq]
   constructor
   ·rintro⟨a,b,d⟩;exact⟨⟨a.symm,b.symm⟩,d⟩
   ·rintro⟨⟨a,b⟩,d⟩;exact⟨a.symm,b.symm,d⟩
  rw[<- e]
  cases decide (f.Read.Mat<(c.Mats.length:Int))<;>cases(l.filter (selB 6)).any (silB f.Read)<;>cases[silF h].any (silB f.Read)<;>simp
 unfold inS
 rw[hq]
 constructor
 ·rintro⟨g,g1,g2,g3,rfl,rfl⟩
  obtain⟨g4,g5⟩:=(hu g).1 g3
  rcases List.mem_append.1 g1 with g1|g1
  ·exact⟨⟨g,g1,g2,g4,rfl,rfl⟩,g5⟩
  ·simp only[List.mem_singleton]at g1
   subst g1
   rw[h2]at g2;cases g2
 ·rintro⟨⟨g,g1,g2,g3,rfl,rfl⟩,g5⟩
  exact⟨g,by simp[g1],g2,(hu g).2 ⟨g3,g5⟩,rfl,rfl⟩
def apartB(h y:Hit):Bool:=(y.Mat != h.Mat)||((y.Epoch != h.Epoch)||(decide (y.Last<h.First)||decide (h.Last<y.First)))
theorem Qjx{c:Course}{S T:hits_place->Int->Prop}{x:List Hit}(hW:0<=c.Faults.Window)(ok:HitsOk c S x){k:Nat}(hk:k<x.length)(hT:∀p t,T p t↔S p t/\ ¬(silP x[k] p/\x[k].First<=t/\t<=x[k].Last))
  (ha:∀j (hj:j<x.length),j≠k->apartB x[k] x[j]=true):HitsOk c T (x.eraseIdx k):=by
 have hn:=Qd7 ok hW
 have hmem:∀g,g∈x.eraseIdx k↔g∈x/\g≠x[k]:=by
  intro g
  rw[List.mem_eraseIdx_iff_getElem]
  constructor
  ·rintro⟨j,hj,hne,rfl⟩
   refine⟨List.getElem_mem hj,fun e=>hne ?_⟩
   have hp:=List.pairwise_iff_getElem.1 hn
   rcases Nat.lt_trichotomy j k with q|q|q
   ·exact absurd e (hp j k hj hk q)
   ·exact q
   ·exact absurd e.symm (hp k j hk hj q)
  ·rintro⟨h1,h2⟩
   obtain⟨j,hj,rfl⟩:=List.getElem_of_mem h1
   exact⟨j,hj,fun e=>h2 (by subst e;rfl),rfl⟩
 have hap:∀g∈x,g≠x[k]->apartB x[k] g=true:=by
  intro g hg hne
  obtain⟨j,hj,rfl⟩:=List.getElem_of_mem hg
  exact ha j hj fun e=>hne (by subst e;rfl)
 have hin:x[k]∈x:=List.getElem_mem hk
 generalize x[k]=h at*
 have sp:silP h (plH h):=⟨rfl,rfl⟩
 have apart:∀g,apartB h g=true->silP h (plH g)->g.Last<h.First\/h.Last<g.First:=by
  intro g hg hs
  unfold apartB at hg
  obtain⟨s1,s2⟩:=hs
  have e1:(g.Mat != h.Mat)=false:=by rw[show g.Mat=h.Mat from s1];simp
  have e2:(g.Epoch != h.Epoch)=false:=by rw[show g.Epoch=h.Epoch from s2];simp
  rw[e1,e2]at hg
  simpa using hg
 have keep:∀g∈x,g≠h->IsHit c.Faults.Window (T (plH g)) g.First g.Last:=by
  intro g hg hne
  have ig:=(ok.mem g).1 hg
  by_cases hs:silP h (plH g)
  ·have hd:=apart g (hap g hg hne) hs
   have up:∀t,S (plH g) t->g.First<=t->t<=g.Last->T (plH g) t:=fun t ht h1 h2=>(hT _ _).2 ⟨ht,fun q=>by omega⟩
   have dn:∀t,T (plH g) t->S (plH g) t:=fun t ht=>((hT _ _).1 ht).1
   refine⟨up _ ig.fa (Int.le_refl _) ig.le,up _ ig.lb ig.le (Int.le_refl _),ig.le,fun s q=>ig.st s (dn s q),fun s q=>ig.en s (dn s q),fun s q h1 h2=>?_,fun s q h1 h2=>?_⟩
   ·obtain⟨t,t1,t2,t3⟩:=ig.su s (dn s q) h1 h2
    have:t<=g.Last:=by
     by_cases z:g.Last<t
     ·have:=ig.en t t1 z;omega
     ·omega
    exact⟨t,up t t1 (by omega) this,t2,t3⟩
   ·obtain⟨t,t1,t2,t3,t4⟩:=ig.pr s (dn s q) h1 h2
    exact⟨t,up t t1 t4 (by omega),t2,t3,t4⟩
  ·exact ig.congr fun t=>by rw[hT];exact⟨fun q=>⟨q,fun z=>hs z.1⟩,fun q=>q.1⟩
 have other:∀g∈x,∀t,T (plH g) t->g.First<=t->t<=g.Last->g≠h:=by
  rintro g hg t ht h1 h2 rfl
  exact((hT _ _).1 ht).2 ⟨sp,h1,h2⟩
 constructor
 ·intro g
  rw[hmem]
  constructor
  ·rintro⟨h1,h2⟩;exact keep g h1 h2
  ·intro ig
   obtain⟨y,hy,y1,y2,y3⟩:=ok.cov _ _ ((hT _ _).1 ig.fa).1
   have hne:=other y hy g.First (by rw[y1];exact ig.fa) y2 y3
   have iy:=keep y hy hne
   rw[y1]at iy
   obtain⟨e1,e2⟩:=iy.one ig y2 y3 (Int.le_refl _) ig.le
   have:y=g:=by
    unfold plH at y1
    rw[hits_place.mk.injEq]at y1
    cases y;cases g;simp_all
   exact this▸⟨hy,hne⟩
 ·exact ok.ord.sublist (List.eraseIdx_sublist _ _)
 ·intro p t ht
  obtain⟨y,hy,rfl,y2,y3⟩:=ok.cov p t ((hT _ _).1 ht).1
  exact⟨y,(hmem y).2 ⟨hy,other y hy t ht y2 y3⟩,rfl,y2,y3⟩
theorem law_HitsMore(c:Course)(l:List Fact)(f:Fact)(at':Int)(hc:Course.wf c)(hl:l.length<=1048576/\ ∀f∈l,Fact.wf f)(hf:Fact.wf f)(hat:Qh .u8 at'):∃n,F_da n c l f at'=some true:=by
 obtain⟨b,pb,fb⟩:=Qkr c hc
 refine Ev.ex ?_
 unfold F_da
 refine Ev.bind (Ev.const Ql8) ?_
 simp only[Bool.not_true,cond_false]
 cases hb:b with
 |false=>
  refine Ev.bind (v:=true) (Ev.bind pb ?_) (Qa _)
  rw[hb];exact Qa _
 |true=>
 cases h14:decide ((14:Int)<=(l.length:Int))with
 |true=>
  refine Ev.bind (v:=true) (Ev.bind pb ?_) (Qa _)
  rw[hb];exact Qa _
 |false=>
 have h14':l.length<=13:=by have:=of_decide_eq_false h14;omega
 obtain⟨_,p1⟩:=fb hb
 refine Ev.bind (v:=false) (Ev.bind pb ?_) ?_
 ·rw[hb];exact Qa _
 simp only[cond_false]
 have hlen:∀m:List Fact,m.length<=1000->(allF (courseE c) c m).length<=1000000:=by
  intro m hm
  unfold allF
  cases(courseE c != 0)with
  |true=>simp
  |false=>exact Qgm c m hm
 refine Ev.bind (QhA c l (by omega) p1) ?_
 have hx:=hlen l (by omega)
 have happ:∀g:Fact,(app ([]:List Fact) l)=some l/\app l [g]=some (l++[g]):=fun g=>⟨by rw[Qcm _ _ (by simp;omega)];rfl,Qcm _ _ (by simp;omega)⟩
 refine Ev.bind (v:=(Ctl.cont ():Ctl Unit Bool)) ?_ ?_
 ·cases hk:(f.Kind==2)with
  |false=>exact Qa _
  |true=>
   have hk':f.Kind=2:=by simpa using hk
   simp only[cond_true]
   rw[(happ f).1]
   simp only[Option.bind_some]
   rw[(happ f).2]
   simp only[Option.bind_some]
   refine Ev.bind (QhA c (l++[f]) (by simp;omega) p1) ?_
   have hy:=hlen (l++[f]) (by simp;omega)
   have hd:(allF (courseE c) c (l++[f])).length<=(allF (courseE c) c l).length+1/\(allF (courseE c) c l).length<=(allF (courseE c) c (l++[f])).length+1:=by
    unfold allF
    cases h0:(courseE c != 0)with
    |true=>simp
    |false=>
     have hE:courseE c=0:=by simpa[bne]using h0
     have hW:=(QeJ hE).1
     simp only[cond_false]
     have ok1:=Qdw c l hW
     have ok2:=Qdw c (l++[f]) hW
     rcases Qj1 (c:=c) (l:=l) hk' with h|h
     ·rw[Qgl hW ok2 ok1 h];omega
     ·exact QjP hW ok1 ok2 h
   generalize allF (courseE c) c (l++[f])=y at*
   generalize allF (courseE c) c l=x at*
   rw[Q0 (by omega) (by omega),Yy (by omega),Yy (by omega)]
   exact Qa _
 ·simp only
  cases hz:(((allF (courseE c) c l).length:Int)==0)with
  |true=>exact Qa _
  |false=>
  have hpos:0<(allF (courseE c) c l).length:=by rw[beq_eq_false_iff_ne]at hz;omega
  simp only[cond_false]
  have hE:courseE c=0:=by
   refine Classical.byContradiction fun q=>?_
   unfold allF at hpos
   have:(courseE c != 0)=true:=by simpa[bne]using q
   rw[this]at hpos
   simp at hpos
  have hWW:=QeJ hE
  have hW:=hWW.1
  have eall:∀m,allF (courseE c) c m=hitsL c m:=fun m=>by unfold allF;rw[hE];rfl
  simp only[eall]at hx hlen hz hpos⊢
  have hat':IntKind.i64.wrap at'=at'/\0<=at':=by
   have:0<=at'/\at'<=255:=by
    have:=hat
    have h0:IntKind.u8.min=0:=by decide
    have h1:IntKind.u8.max=255:=by decide
    unfold Qh at this
    rw[h0,h1]at this
    exact this
   exact⟨Q0 (by omega) (by omega),this.1⟩
  have h3:0<=Int.tmod at' ((hitsL c l).length:Int):=Int.tmod_nonneg _ hat'.2
  have h4:Int.tmod at' ((hitsL c l).length:Int)<(hitsL c l).length:=Int.tmod_lt_of_pos _ (by omega)
  have hnz:nz ((hitsL c l).length:Int)=some ():=by unfold nz;rw[hz];rfl
  rw[hnz,hat'.1]
  simp only[Option.bind_some]
  obtain⟨k,hkk⟩:∃k:Nat,Int.tmod at' ((hitsL c l).length:Int)=(k:Int):=⟨(Int.tmod at' ((hitsL c l).length:Int)).toNat,by omega⟩
  rw[hkk]at h4
  have hk:k<(hitsL c l).length:=by omega
  have ok:=Qdw c l hW
  have hS:=Qj0 c l
  have hread:=fun r hr=> @Qk5 c l r hr
  rw[hkk,Qbd (List.getElem?_eq_getElem hk)]
  simp only[Option.bind_some]
  have hval:validS (silF (hitsL c l)[k])=true:=by
   have ih:=(ok.mem _).1 (List.getElem_mem hk)
   obtain⟨r,r1,r2,r3⟩:=(hS _ _).1 ih.fa
   obtain⟨s,s1,s2,s3⟩:=(hS _ _).1 ih.lb
   have q1:=(hread r r1).1
   have q2:=(hread s s1).1
   unfold plc plH at r2
   rw[hits_place.mk.injEq]at r2
   obtain⟨e1,e2,e3⟩:=r2
   have:=q1.mat;have:=q1.epoch;have:=q1.loc;have:=q2.loc
   exact Qis (by omega) (by omega) (by omega) (by omega) ih.le
  have hlast:(∀j (hj:j<(hitsL c l).length),j≠k->apartB (hitsL c l)[k] (hitsL c l)[j]=true)->hitsL c (l++[silF (hitsL c l)[k]])=(hitsL c l).eraseIdx k:=by
   intro ha
   exact Qgl hW (Qdw c _ hW) (Qjx hW ok hk (fun p t=>Qlk hval p t) ha) fun p t=>Iff.rfl
  have hny:=hlen (l++[silF (hitsL c l)[k]]) (by simp;omega)
  have hev:=QhA (e:=courseE c) c (l++[silF (hitsL c l)[k]]) (by simp;omega) p1
  rw[eall]at hev
  generalize hxe:hitsL c l=x at*
  let cnd:Nat->Bool:=fun j=>(j==k)||(match x[j]? with|some y=>apartB x[k] y|none=>true)
  refine Ev.bind (v:=(bif chkFrom cnd x.length 0 then Ctl.cont (x.eraseIdx k)else Ctl.done true:Ctl (List Hit) Bool)) ?_ ?_
  ·have:=QcB (step:=fun n=>F_aq n at' x x[k]) (s0:=([],(0:Int))) (fun i=>((x.take i).eraseIdx k,(i:Int))) x.length (fun i=>(bif chkFrom cnd (x.length-i) i then Ctl.cont (x.eraseIdx k)else Ctl.done true:Ctl (List Hit) Bool)) (by simp) (fun i hi=>?_) ?_
   ·exact this
   ·have ha:=YW (x:=x[i]) (show x.length<=4611686018427387904 by omega) (List.getElem?_eq_getElem hi)
    have e1:x.length-i=(x.length-(i+1))+1:=by omega
    have hch:chkFrom cnd (x.length-i) i=(cnd i&&chkFrom cnd (x.length-(i+1)) (i+1)):=by rw[e1];rfl
    rw[hch]
    have hlt:(x.take i).length=i:=by rw[List.length_take];omega
    by_cases hik:i=k
    ·left
     have hc1:cnd i=true:=by show((i==k)||_)=true;rw[hik];simp
     refine⟨?_,by rw[hc1,Bool.true_and]⟩
     unfold F_aq
     simp only[ha.lt,cond_true,ha.ix,Option.bind_some,ha.nx]
     have hbt:(((i:Nat):Int)==(k:Int))=true:=by rw[hik];exact beq_self_eq_true _
     rw[hat'.1,hkk,hbt]
     simp only[cond_true,Option.bind_some]
     refine(Qa _).eq ?_
     rw[<- hik,ha.take,List.eraseIdx_append_of_length_le (by omega),hlt,Nat.sub_self,List.eraseIdx_of_length_le (by omega)]
     simp
    ·have hbk:(((i:Nat):Int)==(k:Int))=false:=by rw[beq_eq_false_iff_ne];omega
     have hbk2:(i==k)=false:=by rw[beq_eq_false_iff_ne];exact hik
     have hc1:cnd i=apartB x[k] x[i]:=by show((i==k)||_)=_;rw[hbk2,ha.get];rfl
     have hb:∀{B:Type} (K:Bool->Option B),((bif (x[i].Mat != x[k].Mat)then some true else(bif (x[i].Epoch != x[k].Epoch)then some true else(bif decide (x[i].Last<x[k].First)then some true else some (decide (x[k].Last<x[i].First))))):Option Bool).bind K=K (apartB x[k] x[i]):=by
      intro B K
      unfold apartB
      cases(x[i].Mat != x[k].Mat)<;>cases(x[i].Epoch != x[k].Epoch)<;>cases decide (x[i].Last<x[k].First)<;>rfl
     have step:Ev (fun n=>F_aq n at' x x[k] ((x.take i).eraseIdx k,(i:Int))) (bif apartB x[k] x[i]then .cont ((x.take i).eraseIdx k++[x[i]],((i+1:Nat):Int))else .done (.done true)):=by
      unfold F_aq
      simp only[ha.lt,cond_true,ha.ix,Option.bind_some,ha.nx]
      rw[hat'.1,hkk,hbk]
      simp only[cond_false]
      rw[hb]
      cases apartB x[k] x[i]with
      |false=>exact Qa _
      |true=>
       simp only[cond_true]
       rw[QbD _ _ (by
        have:=(List.eraseIdx_sublist (x.take i) k).length_le
        omega)]
       exact Qa _
     rw[hc1]
     cases hap:apartB x[k] x[i]with
     |false=>rw[hap]at step;exact .inr (step.eq (by simp))
     |true=>
      rw[hap]at step
      left
      refine⟨step.eq ?_,by rw[Bool.true_and]⟩
      simp only[cond_true]
      congr 2
      rw[ha.take]
      by_cases hki:k<i
      ·rw[List.eraseIdx_append_of_lt_length (by omega)]
      ·rw[List.eraseIdx_append_of_length_le (by omega),List.eraseIdx_of_length_le (by omega),hlt]
       have:k-i=(k-i-1)+1:=by omega
       rw[this];simp
   ·rw[Nat.sub_self]
    unfold F_aq
    simp only[Qdn,cond_false,List.take_length]
    exact Qa _
  ·cases hch:chkFrom cnd x.length 0 with
   |false=>exact Qa _
   |true=>
    simp only[cond_true]
    rw[(happ z_Fact).1]
    simp only[Option.bind_some]
    have e:app l [{z_Fact with No:=1,Kind:=6,Silence:={x[k]with Lo:=x[k].First,Hi:=x[k].Last:Silence}:Fact}]=some (l++[silF x[k]]):=(happ _).2
    rw[e]
    simp only[Option.bind_some]
    refine Ev.bind hev (Ev.bind (Qke _ _ hny) ?_)
    rw[hlast fun j hj hne=>?_,decide_eq_true rfl]
    ·exact Qa _
    ·have:=(Qdc _ _).1 hch j (Nat.zero_le _) (by omega)
     have h2:((j==k)||(match x[j]? with|some y=>apartB x[k] y|none=>true))=true:=this
     rw[show(j==k)=false by rw[beq_eq_false_iff_ne];exact hne,List.getElem?_eq_getElem hj]at h2
     exact h2
end Go.Sw
