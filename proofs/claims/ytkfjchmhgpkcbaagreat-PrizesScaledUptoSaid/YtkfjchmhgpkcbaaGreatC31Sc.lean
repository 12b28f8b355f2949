/- PrizesScaled: a greater amount of a prize changes nothing but the payments for its rank. -/
import Derived.Test.YtkfjchmhgpkcbaaGreatQ31Sc
set_option linter.unusedVariables false
set_option linter.unusedSimpArgs false
namespace Go.Sw
theorem Qmg:F_gd 300=some true:=by kernel_rfl
theorem QlP(a:Int):0<=Q1 .i64 a 1023/\Q1 .i64 a 1023<=1023:=by
 unfold Q1
 have h:(BitVec.ofInt IntKind.i64.bits a&&& BitVec.ofInt IntKind.i64.bits 1023).toNat<=1023:=by
  rw[BitVec.toNat_and]
  exact Nat.and_le_right
 rw[Yf (by omega) (by omega)]
 omega
theorem tmodN{a:Int}{L:Nat}(h0:0<=a)(hL:0<L):∃j,j<L/\Int.tmod a (L:Int)=(j:Int):=by
 have h1:=Int.tmod_nonneg (L:Int) h0
 have h2:=Int.tmod_lt_of_pos a (show(0:Int)<(L:Int)by omega)
 exact⟨(Int.tmod a (L:Int)).toNat,by omega,by omega⟩
theorem QiY{c:Course}{l:List Prize}(w:CourseOk c)(h:l.length=c.Prizes.length):CourseOk {c with Prizes:=l}:=
 ⟨w.name,w.mats,w.matsN,w.legs,w.dist,w.distN,w.cut,w.wave,w.waveN,w.off,w.offN,w.cat,w.catN,by have:=w.prize;show l.length<=_;omega⟩
theorem QmO{c:Course}{l:List Prize}(w:FewL c)(h:l.length=c.Prizes.length):FewL {c with Prizes:=l}:=
 ⟨by have:=w.lens;unfold lensC at*;show c.Mats.length+c.Legs.length+c.Distances.length+c.Waves.length+c.Offences.length+c.Categories.length+l.length<=200;omega,w.name,w.dist,w.ties⟩
structure RelV (wr:Int->Int) (b0:Int->Prop) (m1 m2:MapI):Prop where
 keys:m1.map Prod.fst=m2.map Prod.fst
 get:∀b,Qo m2 b 0=Qo m1 b 0\/(b0 b/\Qo m2 b 0=wr (Qo m1 b 0))
theorem RelV.set{wr:Int->Int}{b0:Int->Prop}{m1 m2:MapI}(h:RelV wr b0 m1 m2)(k a1 a2:Int)(ha:a2=a1\/(b0 k/\a2=wr a1)):RelV wr b0 (QS m1 k a1) (QS m2 k a2):=by
 refine⟨?_,fun b=>?_⟩
 ·have e1:=QaZ m1 k a1
  have e2:=QaZ m2 k a2
  have hk:=h.keys
  show(QS m1 k a1).map (·.1)=(QS m2 k a2).map (·.1)
  rw[e1,e2]
  have hk':m1.map (·.1)=m2.map (·.1):=hk
  rw[hk']
 ·rw[Qbe,Qbe]
  by_cases e:b=k
  ·subst e
   simp only[if_true]
   exact ha
  ·simp only[e,if_false]
   exact h.get b
theorem QhT{wr:Int->Int}{b0:Int->Prop}(d k:Int):∀(l:List Prize) (m1 m2:MapI),RelV wr b0 m1 m2->RelV wr b0 (l.foldl (amtS d k) m1) (l.foldl (amtS d k) m2)
 |[],m1,m2,h=>h
 |p::l,m1,m2,h=>by
  refine QhT d k l _ _ ?_
  unfold amtS
  cases(p.Distance==d)&&(p.Category==k)with
  |false=>exact h
  |true=>exact h.set _ _ _ (.inl rfl)
theorem QdP{wr:Int->Int}{b0:Int->Prop}(m:MapI):RelV wr b0 m m:=⟨rfl,fun _=>.inl rfl⟩
theorem QlQ(c:Course)(d k:Int){j:Nat}(hj:j<c.Prizes.length)(wr:Int->Int):
  RelV wr (fun r=>r=(c.Prizes[j]).Rank) (amtF c d k) (amtF {c with Prizes:=c.Prizes.set j {c.Prizes[j]with Amount:=wr (c.Prizes[j]).Amount}} d k):=by
 unfold amtF
 have e1:c.Prizes=c.Prizes.take j++c.Prizes[j]::c.Prizes.drop (j+1):=by rw[<- List.drop_eq_getElem_cons hj,List.take_append_drop]
 have e2:({c with Prizes:=c.Prizes.set j {c.Prizes[j]with Amount:=wr (c.Prizes[j]).Amount}}:Course).Prizes=c.Prizes.take j++{c.Prizes[j]with Amount:=wr (c.Prizes[j]).Amount}::c.Prizes.drop (j+1):=by
  show c.Prizes.set j _=_
  rw[List.set_eq_take_append_cons_drop,if_pos hj]
 rw[e2]
 conv=>arg 3;rw[e1]
 rw[List.foldl_append,List.foldl_append,List.foldl_cons,List.foldl_cons]
 refine QhT d k _ _ _ ?_
 unfold amtS
 simp only
 cases((c.Prizes[j]).Distance==d)&&((c.Prizes[j]).Category==k)with
 |false=>exact QdP _
 |true=>exact(QdP _).set _ _ _ (.inr ⟨rfl,rfl⟩)
theorem Qga{m1 m2:MapI}(h:m1.map Prod.fst=m2.map Prod.fst):keysS m1=keysS m2:=by unfold keysS;rw[h]
theorem QhS{wr:Int->Int}(all:List Rank)(rk:Int)(g1 g2:Int->Int)(hg:∀k,g2 k=g1 k\/(k=rk/\g2 k=wr (g1 k))):∀(ks:List Int) (s1 s2:List Int×MapI),s1.1=s2.1->
  RelV wr (fun b=>(candP all rk).head?.map (·.Bib)=some b) s1.2 s2.2->
  ((ks.map fun k=>(k,g1 k)).foldl (divS all) s1).1=((ks.map fun k=>(k,g2 k)).foldl (divS all) s2).1/\
   RelV wr (fun b=>(candP all rk).head?.map (·.Bib)=some b) ((ks.map fun k=>(k,g1 k)).foldl (divS all) s1).2 ((ks.map fun k=>(k,g2 k)).foldl (divS all) s2).2
 |[],s1,s2,h1,h2=>⟨h1,h2⟩
 |k::ks,s1,s2,h1,h2=>by
  simp only[List.map_cons,List.foldl_cons]
  refine QhS all rk g1 g2 hg ks _ _ ?_ ?_
  ·unfold divS
   cases hc:candP all k with
   |nil=>exact h1
   |cons r t=>
    simp only
    cases t.isEmpty&&(r.Kind==1)with
    |true=>exact h1
    |false=>simp only[cond_false,h1]
  ·unfold divS
   cases hc:candP all k with
   |nil=>exact h2
   |cons r t=>
    simp only
    cases t.isEmpty&&(r.Kind==1)with
    |false=>exact h2
    |true=>
     refine h2.set _ _ _ ?_
     rcases hg k with q|⟨rfl,q⟩
     ·exact .inl q
     ·exact .inr ⟨by rw[hc];rfl,q⟩
theorem Qhj(all:List Rank)(s:List Int×MapI)(x:Int×Int)(h:(s.2.map Prod.fst).Nodup):((divS all s x).2.map Prod.fst).Nodup:=by
 unfold divS
 cases candP all x.1 with
 |nil=>exact h
 |cons r t=>
  simp only
  cases t.isEmpty&&(r.Kind==1)with
  |false=>exact h
  |true=>exact Qg3 _ _ h
theorem Qe6(all:List Rank):∀(l:List (Int×Int)) (s:List Int×MapI),(s.2.map Prod.fst).Nodup->((l.foldl (divS all) s).2.map Prod.fst).Nodup
 |[],s,h=>h
 |x::l,s,h=>Qe6 all l _ (Qhj all s x h)
theorem Qf9{m:MapI}(h:(m.map Prod.fst).Nodup):(keysS m).Nodup:=((Ys ltI _).nodup_iff).2 h
theorem QgD(p:Nat->Bool):∀k,(∀i j,i<k->j<k->p i=true->p j=true->i=j)->cntR p k<=1
 |0,_=>by simp[cntR]
 |k+1,h=>by
  rw[Qc1]
  have ih:=QgD p k fun i j hi hj=>h i j (by omega) (by omega)
  cases q:p k with
  |false=>simpa using ih
  |true=>
   have:cntR p k=0:=by
    unfold cntR
    rw[List.length_eq_zero_iff,List.filter_eq_nil_iff]
    intro i hi hp
    have hik:i<k:=by simpa using hi
    have:=h i k (by omega) (by omega) hp q
    omega
   rw[this];simp
theorem Qgr(l:List Int)(hl:l.length<=1048576):Ev (fun n=>F_z n l l) true:=by
 unfold F_z
 simp only[bne_self_eq_false,cond_false]
 refine Ev.bind (v:=Ctl.cont ()) (Ev.iter (fun i=>(i:Int)) l.length rfl (fun i hi=>?_) ?_) (Qa _)
 ·have ha:=atN hl hi
  unfold F_io
  simp only[ha.lt,cond_true,ha.ix,Option.bind_some,ha.nx,bne_self_eq_false,cond_false]
  exact Qa _
 ·unfold F_io
  simp only[Ja,cond_false]
  exact Qa _
theorem law_PrizesScaled(c:Course)(f:Field)(d k which more:Int)(hc:Course.wf c)(hf:Field.wf f)(h3:Qt .i64 d)(h4:Qt .i64 k)(h5:Qt .i64 which)(h6:Qt .i64 more):∃n,F_fy n c f d k which more=some true:=by
 have w:=QgT hc
 have q:=Qhu hc
 obtain⟨t1,t2⟩:=Qlm hc
 obtain⟨b1,p1,q1⟩:=QiI c w q t1 t2
 obtain⟨b2,p2,q2⟩:=few25 f hf
 refine Ev.ex ?_
 unfold F_fy
 refine Ev.bind (Ev.const Qmg) ?_
 simp only[Bool.not_true,cond_false]
 refine Ev.bind (v:= !b1||(!b2||((c.Prizes.length:Int)==0))) (Ev.bind p1 (Ql fun _=>Ev.bind p2 (Ql fun _=>Qa _))) ?_
 refine Qm2 (fun _=>Qa _) fun hb=>?_
 simp only[Bool.or_eq_false_iff,Bool.not_eq_false']at hb
 obtain⟨hb1,hb2,hb3⟩:=hb
 have fl:=q1 hb1
 have ff:=q2 hb2
 have hlen:=w.prize
 have h0:0<c.Prizes.length:=by
  rcases Nat.eq_zero_or_pos c.Prizes.length with z|z
  ·rw[z]at hb3;simp at hb3
  ·exact z
 have happ:app ([]:List Prize) c.Prizes=some c.Prizes:=by rw[Qid _ _ (by simp;omega)];rfl
 have hnz:nz (c.Prizes.length:Int)=some ():=by
  unfold nz
  have:((c.Prizes.length:Int)==0)=false:=hb3
  rw[this];rfl
 obtain⟨j,hj,ej⟩:=tmodN (QlP which).1 h0
 have hix:idx c.Prizes (j:Int)=some c.Prizes[j]:=QQ (List.getElem?_eq_getElem hj)
 simp only[happ,Option.bind_some,hnz,ej,hix,QjF _ _ hj]
 let wr:Int->Int:=fun a=>IntKind.i64.wrap (a+Q1 .i64 more 1023)
 let c2:Course:={c with Prizes:=c.Prizes.set j {c.Prizes[j]with Amount:=wr (c.Prizes[j]).Amount}}
 have hset:(c.Prizes.set j {c.Prizes[j]with Amount:=wr (c.Prizes[j]).Amount}).length=c.Prizes.length:=List.length_set
 obtain⟨e1,he1⟩:=Qcw c w q fl t1 t2
 obtain⟨e2,he2⟩:=Qcw c2 (QiY w hset) ⟨q.len,q.wf⟩ (QmO fl hset) t1 t2
 have hp2:c2.Prizes.length<=1048576:=by show(c.Prizes.set j _).length<=_;rw[List.length_set];exact hlen
 refine Ev.bind (Qef c f d k e1 he1 ff hlen) ?_
 refine Ev.bind (Qef c2 f d k e2 he2 ff hp2) ?_
 refine Ev.bind (Qh4 c f d k e1 he1 ff hlen) ?_
 refine Ev.bind (Qh4 c2 f d k e2 he2 ff hp2) ?_
 unfold certV openV
 cases hk1:(checkV e1 c f d k != 0)with
 |true=>
  simp only[cond_true]
  refine Ev.bind (v:=true) ?_ (Qa _)
  rw[hk1]
  exact Qa _
 |false=>
 cases hk2:(checkV e2 c2 f d k != 0)with
 |true=>
  simp only[cond_true,cond_false]
  refine Ev.bind (v:=true) ?_ (Qa _)
  rw[hk2]
  exact Qa _
 |false=>
 simp only[cond_false,bne_self_eq_false,Option.bind_some]
 have r1:=QlQ c d k hj wr
 obtain⟨r2,r3⟩:=QhS (wr:=wr) (allP f) (c.Prizes[j]).Rank (fun x=>Qo (amtF c d k) x 0) (fun x=>Qo (amtF c2 d k) x 0) r1.get (keysS (amtF c d k)) ([],[]) ([],[]) rfl (QdP _)
 have ek:keysS (amtF c2 d k)=keysS (amtF c d k):=(Qga r1.keys).symm
 have eo:(divF (allP f) (amtF c2 d k)).1=(divF (allP f) (amtF c d k)).1:=by
  unfold divF ordP
  rw[ek]
  exact r2.symm
 have er:RelV wr (fun b=>(candP (allP f) (c.Prizes[j]).Rank).head?.map (·.Bib)=some b) (divF (allP f) (amtF c d k)).2 (divF (allP f) (amtF c2 d k)).2:=by
  unfold divF ordP
  rw[ek]
  exact r3
 have hno:((divF (allP f) (amtF c d k)).2.map Prod.fst).Nodup:=Qe6 (allP f) (ordP (amtF c d k)) ([],[]) List.nodup_nil
 have hl1:=Qel c d k
 have hl2:=QgA (allP f) (amtF c d k)
 rw[eo]
 generalize(divF (allP f) (amtF c d k)).1=op at*
 generalize(divF (allP f) (amtF c d k)).2=m1 at*
 generalize(divF (allP f) (amtF c2 d k)).2=m2 at*
 have eks:keysS m2=keysS m1:=(Qga er.keys).symm
 have hkn:=Qf9 hno
 have hkl:=QcZ m1
 have pay1:∀i (hi:i<(keysS m1).length),(payP m1)[i]?=some {Bib:=(keysS m1)[i],Amount:=Qo m1 (keysS m1)[i] 0}:=by
  intro i hi
  unfold payP ordP
  rw[List.getElem?_map,List.getElem?_map,List.getElem?_eq_getElem hi];rfl
 have pay2:∀i (hi:i<(keysS m1).length),(payP m2)[i]?=some {Bib:=(keysS m1)[i],Amount:=Qo m2 (keysS m1)[i] 0}:=by
  intro i hi
  unfold payP ordP
  rw[eks,List.getElem?_map,List.getElem?_map,List.getElem?_eq_getElem hi];rfl
 have len1:(payP m1).length=(keysS m1).length:=by simp[payP,ordP]
 have len2:(payP m2).length=(keysS m1).length:=by simp[payP,ordP,eks]
 refine Ev.bind (v:=false) ?_ ?_
 ·rw[len1,len2]
  simp only[bne_self_eq_false,cond_false]
  exact Ev.bind (Qgr op (by omega)) (Qa _)
 ·simp only[cond_false]
  let pch:Nat->Bool:=fun i=>match(keysS m1)[i]? with|some b=>Qo m2 b 0 != Qo m1 b 0|none=>false
  have hpch:∀i (hi:i<(keysS m1).length),pch i=(Qo m2 (keysS m1)[i] 0 != Qo m1 (keysS m1)[i] 0):=by
   intro i hi
   show(match(keysS m1)[i]? with|some b=>Qo m2 b 0 != Qo m1 b 0|none=>false)=_
   rw[List.getElem?_eq_getElem hi]
  have hone:cntR pch (keysS m1).length<=1:=by
   refine QgD _ _ fun i i' hi hi' g g'=>?_
   rw[hpch i hi]at g
   rw[hpch i' hi']at g'
   rcases er.get (keysS m1)[i]with z|⟨z,_⟩
   ·rw[z]at g;simp at g
   ·rcases er.get (keysS m1)[i']with z'|⟨z',_⟩
    ·rw[z']at g';simp at g'
    ·have e:(keysS m1)[i]=(keysS m1)[i']:=Option.some.inj (z.symm.trans z')
     exact(List.getElem_inj hkn).1 e
  refine Ev.bind (v:=Ctl.cont ((cntR pch (keysS m1).length:Nat):Int)) ?_ ((Qa _).eq (YB (by omega)))
  refine Ev.iter (fun i=>(((cntR pch i:Nat):Int),(i:Int))) (keysS m1).length (by simp[cntR]) (fun i hi=>?_) ?_
  ·have hc:=Qic pch i
   unfold F_ii
   simp only[len1,ltN hi,cond_true,QQ (pay1 i hi),QQ (pay2 i hi),Option.bind_some,bne_self_eq_false,cond_false,Y6 (show i<=1048576 by omega),Qc1,hpch i hi]
   refine Ev.bind (v:=false) ?_ ?_
   ·rcases er.get (keysS m1)[i]with z|⟨_,z⟩
    ·rw[z]
     simp only[bne_self_eq_false,cond_false]
     exact Qa _
    ·rw[z]
     cases(wr (Qo m1 (keysS m1)[i] 0) != Qo m1 (keysS m1)[i] 0)with
     |false=>exact Qa _
     |true=>exact(Qa _).eq (by simp[wr])
   ·simp only[cond_false]
    refine Ev.bind (v:=((cntR pch i+(bif Qo m2 (keysS m1)[i] 0 != Qo m1 (keysS m1)[i] 0 then 1 else 0):Nat):Int)) ?_ (Qa _)
    cases Qo m2 (keysS m1)[i] 0 != Qo m1 (keysS m1)[i] 0 with
    |false=>exact Qa _
    |true=>exact(Qa _).eq (Y6 (by omega))
  ·unfold F_ii
   simp only[len1,geN (Nat.le_refl _),cond_false]
   exact Qa _
end Go.Sw
