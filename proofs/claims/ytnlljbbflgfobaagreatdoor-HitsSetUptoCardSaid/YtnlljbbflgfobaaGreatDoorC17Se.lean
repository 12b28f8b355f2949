/- Neither order nor repetition nor other facts have an effect on hits. -/
import Derived.Test.YtnlljbbflgfobaaGreatDoorQ17Se
set_option linter.unusedVariables false
set_option linter.unusedSimpArgs false
namespace Go.Sw
theorem QjG{α:Type}{R:α->α->Prop}:∀{x y:List α},x.Pairwise R->y.Pairwise R->(∀a,a∈x↔a∈y)->(∀a∈x,∀b∈x,R a b->¬R b a)->x=y
 |[],[],_,_,_,_=>rfl
 |[],b::y,_,_,h,_=>by have:=(h b).2 (by simp);simp at this
 |a::x,[],_,_,h,_=>by have:=(h a).1 (by simp);simp at this
 |a::x,b::y,hx,hy,h,hr=>by
  rw[List.pairwise_cons]at hx hy
  have e:a=b:=by
   have h1:=(h a).1 (by simp)
   have h2:=(h b).2 (by simp)
   rcases List.mem_cons.1 h1 with h1|h1
   ·exact h1
   ·rcases List.mem_cons.1 h2 with h2|h2
    ·exact h2.symm
    ·exact absurd (hx.1 b h2) (hr b (by simp[h2]) a (by simp) (hy.1 a h1))
  subst e
  have hx':a∉x:=fun q=>hr a (by simp) a (by simp) (hx.1 a q) (hx.1 a q)
  have hy':a∉y:=fun q=>hr a (by simp) a (by simp) (hy.1 a q) (hy.1 a q)
  have:x=y:=by
   refine QjG hx.2 hy.2 (fun c=>?_) (fun c hc d hd=>hr c (by simp[hc]) d (by simp[hd]))
   have:=h c
   simp only[List.mem_cons]at this
   constructor
   ·intro hc
    rcases this.1 (.inr hc)with q|q
    ·exact absurd (q▸hc) hx'
    ·exact q
   ·intro hc
    rcases this.2 (.inr hc)with q|q
    ·exact absurd (q▸hc) hy'
    ·exact q
  rw[this]
theorem Qgm{c:Course}{S T:hits_place->Int->Prop}{x y:List Hit}(hW:0<=c.Faults.Window)(hx:HitsOk c S x)(hy:HitsOk c T y)(h:∀p t,S p t↔T p t):x=y:=by
 have e:S=T:=funext fun p=>funext fun t=>propext (h p t)
 subst e
 refine QjG hx.ord hy.ord (fun a=>(hx.mem a).trans (hy.mem a).symm) fun a ha b hb h1 h2=>?_
 have i1:=((hx.mem a).1 ha).le
 have i2:=((hx.mem b).1 hb).le
 have sym:plH a=plH b->(plH a).chip=(plH b).chip/\(plH a).mat=(plH b).mat/\(plH a).epoch=(plH b).epoch:=fun q=>by rw[q];exact⟨rfl,rfl,rfl⟩
 unfold ltH ltPl at h1 h2
 rcases h1 with h1|⟨h1,h1'⟩<;>rcases h2 with h2|⟨h2,h2'⟩
 ·omega
 ·have:=sym h2.symm;omega
 ·have:=sym h1;omega
 ·omega
theorem QeW{c:Course}{l m:List Fact}(h:∀f,validS f=true->(f.Kind=2\/f.Kind=6)->(f∈l↔f∈m))(p:hits_place)(t:Int):inS c l p t↔inS c m p t:=by
 have hu:∀f,useB c (l.filter (selB 6)) f=useB c (m.filter (selB 6)) f:=by
  intro f
  unfold useB
  congr 2
  rw[Bool.eq_iff_iff,List.any_eq_true,List.any_eq_true]
  have hs:∀g,g∈l.filter (selB 6)↔g∈m.filter (selB 6):=by
   intro g
   rw[List.mem_filter,List.mem_filter]
   constructor
   ·rintro⟨g1,g2⟩
    have g3:=g2
    unfold selB at g3
    simp only[Bool.and_eq_true,beq_iff_eq]at g3
    exact⟨(h g g3.2 (.inr g3.1)).1 g1,g2⟩
   ·rintro⟨g1,g2⟩
    have g3:=g2
    unfold selB at g3
    simp only[Bool.and_eq_true,beq_iff_eq]at g3
    exact⟨(h g g3.2 (.inr g3.1)).2 g1,g2⟩
  constructor
  ·rintro⟨g,g1,g2⟩;exact⟨g,(hs g).1 g1,g2⟩
  ·rintro⟨g,g1,g2⟩;exact⟨g,(hs g).2 g1,g2⟩
 unfold inS
 constructor
 ·rintro⟨f,f1,f2,f3,f4⟩
  have g3:=f2
  unfold selB at g3
  simp only[Bool.and_eq_true,beq_iff_eq]at g3
  exact⟨f,(h f g3.2 (.inl g3.1)).1 f1,f2,by rw[<- hu];exact f3,f4⟩
 ·rintro⟨f,f1,f2,f3,f4⟩
  have g3:=f2
  unfold selB at g3
  simp only[Bool.and_eq_true,beq_iff_eq]at g3
  exact⟨f,(h f g3.2 (.inl g3.1)).2 f1,f2,by rw[hu];exact f3,f4⟩
theorem Qek(a b:List Hit)(ha:a.length<=1000000):Ev (fun n=>F_s n a b) (decide (a=b)):=by
 unfold F_s
 exact QlJ a b (fun n=>F_fr n a b) (by omega) fun n s=>rfl
def ofH(chip:Int)(h:Hit):Bool:=h.Chip==chip
theorem ev_Of{e:Int}(c:Course)(l:List Fact)(chip:Int)(hl:l.length<=1000)(he:Ev (fun n=>F_r n c) e):Ev (fun n=>F_t n c l chip) ((allF e c l).filter (ofH chip)):=by
 unfold F_t
 refine Ev.bind (QfI c l hl he) (Ev.bind (v:=_) ?_ (Qa _))
 have hx:(allF e c l).length<=1000000:=by
  unfold allF
  cases(e != 0)with
  |true=>simp
  |false=>exact Qd5 c l hl
 generalize allF e c l=x at hx
 have e:(x.filter (ofH chip))=(x.filter fun s=> !!ofH chip s):=by simp
 rw[e]
 unfold F_dc F_ep
 refine Qje x (fun s=> !ofH chip s) (by omega) (Ev.first x _ (by omega) (fun i y ha=>?_) ?_) (fun l i j y z hll ha hy hx hij=>?_) (fun l i=>?_)
 ·unfold F_fp F_ad ofH
  simp only[ha.lt,cond_true,ha.ix,Option.bind_some,ha.nx,bne]
  cases(y.Chip==chip)<;>exact Qa _
 ·unfold F_fp
  simp only[Qb3,cond_false]
  exact Qa _
 ·unfold F_fi F_ad ofH
  simp only[ha.lt,cond_true,ha.ix,Option.bind_some,ha.nx,QaQ hy,bne]
  have hlt:=ha.lt'
  have hi:=(List.getElem?_eq_some_iff.1 hy).1
  have hw:IntKind.i64.wrap ((i:Int)+1)=((i+1:Nat):Int):=YW (by omega)
  simp only[QjC l y hi,Option.bind_some,hw]
  cases(y.Chip==chip)<;>exact Qa _
 ·unfold F_fi
  simp only[Qb3,cond_false]
  exact Qa _
def otherB(f:Fact):Bool:=validS f&&((f.Kind==2)||(f.Kind==6))
def ownB(chip:Int)(f:Fact):Bool:=otherB f&&((f.Kind==6)||(f.Read.Chip==chip))
theorem QiF(chip:Int)(l:List Fact)(hl:l.length<=1000):Ev (fun n=>iter (F_ey n chip l) n ([],[],0)) (l.filter otherB,l.filter (ownB chip)):=by
 refine Ev.iter (fun i=>((l.take i).filter otherB,(l.take i).filter (ownB chip),(i:Int))) l.length rfl (fun i hi=>?_) ?_
 ·have ha:=YJ (x:=l[i]) (show l.length<=4611686018427387904 by omega) (List.getElem?_eq_getElem hi)
  generalize l[i]=x at ha
  have hlen:((l.take i).filter otherB).length<=i:=Nat.le_trans (List.length_filter_le _ _) (by rw[List.length_take];omega)
  have hlen2:((l.take i).filter (ownB chip)).length<=i:=Nat.le_trans (List.length_filter_le _ _) (by rw[List.length_take];omega)
  unfold F_ey
  simp only[ha.lt,cond_true,ha.ix,Option.bind_some,ha.nx]
  rw[ha.take,List.filter_append,List.filter_append]
  refine Ev.bind (v:=otherB x) ?_ ?_
  ·unfold otherB
   refine Ev.bind (QbV x) ?_
   cases validS x with
   |false=>exact Qa _
   |true=>exact Qan fun _=>Qa _
  ·cases hx:otherB x with
   |false=>
    have hx2:ownB chip x=false:=by unfold ownB;rw[hx];rfl
    simp only[cond_false,Option.bind_some]
    rw[List.filter_cons_of_neg (by simp[hx]),List.filter_nil,List.append_nil,List.filter_cons_of_neg (by simp[hx2]),List.filter_nil,List.append_nil]
    exact Qa _
   |true=>
    have hx2:ownB chip x=((x.Kind==6)||(x.Read.Chip==chip)):=by unfold ownB;rw[hx];rfl
    simp only[cond_true]
    rw[List.filter_cons_of_pos hx,List.filter_nil,QaR _ _ (by omega),Option.bind_some]
    refine Ev.bind (v:=((l.take i).filter otherB++[x],(l.take i).filter (ownB chip)++[x].filter (ownB chip))) (Ev.bind (Qan (d:=x.Read.Chip==chip) fun _=>Qa _) ?_) (Qa _)
    rw[<- hx2]
    cases hy:ownB chip x with
    |false=>
     rw[List.filter_cons_of_neg (by simp[hy]),List.filter_nil,List.append_nil]
     exact Qa _
    |true=>
     rw[List.filter_cons_of_pos hy,List.filter_nil,cond_true,QaR _ _ (by omega)]
     exact Qa _
 ·unfold F_ey
  simp only[Qb3,cond_false,List.take_length]
  exact Qa _
theorem Qls(chip:Int)(x:List Hit)(hx:x.length<=1000000):Ev (fun n=>iter (F_ez n chip x) n ([],0)) (x.filter (ofH chip)):=by
 refine Ev.iter (fun i=>((x.take i).filter (ofH chip),(i:Int))) x.length rfl (fun i hi=>?_) ?_
 ·have ha:=YJ (x:=x[i]) (show x.length<=4611686018427387904 by omega) (List.getElem?_eq_getElem hi)
  generalize x[i]=y at ha
  have hlen:((x.take i).filter (ofH chip)).length<=i:=Nat.le_trans (List.length_filter_le _ _) (by rw[List.length_take];omega)
  unfold F_ez
  simp only[ha.lt,cond_true,ha.ix,Option.bind_some,ha.nx]
  rw[ha.take,List.filter_append]
  cases hy:ofH chip y with
  |false=>
   rw[List.filter_cons_of_neg (by simp[hy]),List.filter_nil,List.append_nil]
   unfold ofH at hy
   rw[hy]
   exact Qa _
  |true=>
   rw[List.filter_cons_of_pos hy,List.filter_nil]
   unfold ofH at hy
   rw[hy,cond_true,QaR _ _ (by omega)]
   exact Qa _
 ·unfold F_ez
  simp only[Qb3,cond_false,List.take_length]
  exact Qa _
theorem Qj4{c:Course}{l:List Fact}(chip:Int)(hW:0<=c.Faults.Window):HitsOk c (inS c (l.filter (ownB chip))) ((hitsL c l).filter (ofH chip)):=by
 have ok:=Qdy c l hW
 have hS:∀p t,inS c (l.filter (ownB chip)) p t↔inS c l p t/\p.chip=chip:=by
  intro p t
  have hq:∀f,useB c ((l.filter (ownB chip)).filter (selB 6)) f=useB c (l.filter (selB 6)) f:=by
   intro f
   have:(l.filter (ownB chip)).filter (selB 6)=l.filter (selB 6):=by
    rw[List.filter_filter]
    refine List.filter_congr fun g _=>?_
    unfold selB ownB otherB
    cases hk:(g.Kind==6)with
    |false=>simp
    |true=>cases validS g<;>simp
   rw[this]
  unfold inS
  constructor
  ·rintro⟨f,f1,f2,f3,rfl,f5⟩
   obtain⟨g1,g2⟩:=List.mem_filter.1 f1
   refine⟨⟨f,g1,f2,by rw[<- hq];exact f3,rfl,f5⟩,?_⟩
   unfold ownB at g2
   unfold selB at f2
   simp only[Bool.and_eq_true,Bool.or_eq_true,beq_iff_eq]at g2 f2
   rcases g2.2 with z|z
   ·have:=f2.1;omega
   ·exact z
  ·rintro⟨⟨f,f1,f2,f3,rfl,f5⟩,hc⟩
   refine⟨f,List.mem_filter.2 ⟨f1,?_⟩,f2,by rw[hq];exact f3,rfl,f5⟩
   have hc':f.Read.Chip=chip:=hc
   unfold selB at f2
   simp only[Bool.and_eq_true,beq_iff_eq]at f2
   unfold ownB otherB
   rw[f2.2,f2.1,hc']
   simp
 constructor
 ·intro h
  rw[List.mem_filter,ok.mem h]
  unfold ofH
  rw[beq_iff_eq]
  constructor
  ·rintro⟨h1,h2⟩
   exact h1.congr fun t=>by rw[hS];exact⟨fun q=>⟨q,h2⟩,fun q=>q.1⟩
  ·intro h1
   have h2:h.Chip=chip:=((hS _ _).1 h1.fa).2
   exact⟨h1.congr fun t=>by rw[hS];exact⟨fun q=>q.1,fun q=>⟨q,h2⟩⟩,h2⟩
 ·exact ok.ord.filter _
 ·intro p t ht
  obtain⟨h1,h2⟩:=(hS _ _).1 ht
  obtain⟨h,g1,g2,g3⟩:=ok.cov p t h1
  refine⟨h,List.mem_filter.2 ⟨g1,?_⟩,g2,g3⟩
  unfold ofH
  have:h.Chip=p.chip:=by rw[<- g2];rfl
  rw[this,h2];simp
theorem law_HitsSet(c:Course)(l:List Fact)(turn chip:Int)(hc:Course.wf c)(hl:l.length<=1048576/\ ∀f∈l,Fact.wf f)(ht:Qg .u8 turn)(hch:Qg .i64 chip):∃n,F_dp n c l turn chip=some true:=by
 obtain⟨b,pb,fb⟩:=Qkt c hc
 refine Ev.ex ?_
 unfold F_dp
 refine Ev.bind (Ev.const Ql8) ?_
 simp only[Bool.not_true,cond_false]
 cases hb:b with
 |false=>
  refine Ev.bind (v:=true) (Ev.bind pb ?_) (Qa _)
  rw[hb];exact Qa _
 |true=>
 cases h14:decide ((14:Int)<(l.length:Int))with
 |true=>
  refine Ev.bind (v:=true) (Ev.bind pb ?_) (Qa _)
  rw[hb];exact Qa _
 |false=>
 have h14':l.length<=14:=by have:=of_decide_eq_false h14;omega
 obtain⟨_,p1⟩:=fb hb
 refine Ev.bind (v:=(l.length:Int)==0) (Ev.bind pb ?_) ?_
 ·rw[hb];exact Qa _
 cases hz:((l.length:Int)==0)with
 |true=>exact Qa _
 |false=>
 have hpos:0<l.length:=by rw[beq_eq_false_iff_ne]at hz;omega
 simp only[cond_false]
 have hturn:IntKind.i64.wrap turn=turn/\0<=turn:=by
  have:0<=turn/\turn<=255:=by
   have:=ht
   have h0:IntKind.u8.min=0:=by decide
   have h1:IntKind.u8.max=255:=by decide
   unfold Qg at this
   rw[h0,h1]at this
   exact this
  exact⟨Q4 (by omega) (by omega),this.1⟩
 rw[hturn.1]
 have h3:0<=Int.tmod turn (l.length:Int):=Int.tmod_nonneg _ hturn.2
 have h4:Int.tmod turn (l.length:Int)<l.length:=Int.tmod_lt_of_pos _ (by omega)
 generalize Int.tmod turn (l.length:Int)=i at h3 h4
 obtain⟨k,rfl⟩:∃k:Nat,i=(k:Int):=⟨i.toNat,by omega⟩
 have hk:k<l.length:=by omega
 have hnz:nz (l.length:Int)=some ():=by unfold nz;rw[hz];rfl
 rw[hnz]
 simp only[Option.bind_some]
 rw[QjA l (by omega)]
 simp only[Option.bind_some]
 rw[QbG _ _ (by simp;omega)]
 simp only[Option.bind_some]
 rw[Qjy l (by omega)]
 simp only[Option.bind_some]
 rw[QbG _ _ (by simp;omega)]
 simp only[Option.bind_some]
 rw[QaQ (List.getElem?_eq_getElem hk)]
 simp only[Option.bind_some]
 rw[QbG _ _ (by simp;omega)]
 simp only[Option.bind_some,List.nil_append]
 have hm:∀f,f∈l.drop k++l.take k++[l[k]]↔f∈l:=by
  intro f
  simp only[List.mem_append,List.mem_singleton]
  constructor
  ·rintro((h|h)|h)
   ·exact List.mem_of_mem_drop h
   ·exact List.mem_of_mem_take h
   ·rw[h];exact List.getElem_mem hk
  ·intro h
   rw[<- List.take_append_drop k l,List.mem_append]at h
   rcases h with h|h
   ·exact .inl (.inr h)
   ·exact .inl (.inl h)
 have hml:(l.drop k++l.take k++[l[k]]).length<=15:=by simp;omega
 generalize l.drop k++l.take k++[l[k]]=m at hm hml
 refine Ev.bind (QiF chip m (by omega)) (Ev.bind (QfI c l (by omega) p1) ?_)
 have hxl:(allF (courseE c) c l).length<=1000000:=by
  unfold allF
  cases(courseE c != 0)with
  |true=>simp
  |false=>exact Qd5 c l (by omega)
 have hfl:(m.filter otherB).length<=15:=Nat.le_trans (List.length_filter_le _ _) hml
 have hgl:(m.filter (ownB chip)).length<=15:=Nat.le_trans (List.length_filter_le _ _) hml
 have e1:allF (courseE c) c l=allF (courseE c) c (m.filter otherB):=by
  unfold allF
  cases h0:(courseE c != 0)with
  |true=>rfl
  |false=>
   have hE:courseE c=0:=by simpa[bne]using h0
   have hW:=(QeI hE).1
   simp only[cond_false]
   refine Qgm hW (Qdy c l hW) (Qdy c _ hW) (QeW fun f hv hk'=>?_)
   rw[List.mem_filter,hm]
   refine⟨fun q=>⟨q,?_⟩,fun q=>q.1⟩
   unfold otherB
   rcases hk' with z|z<;>rw[hv,z]<;>rfl
 have e2:(allF (courseE c) c l).filter (ofH chip)=allF (courseE c) c (m.filter (ownB chip)):=by
  unfold allF
  cases h0:(courseE c != 0)with
  |true=>rfl
  |false=>
   have hE:courseE c=0:=by simpa[bne]using h0
   have hW:=(QeI hE).1
   simp only[cond_false]
   refine Qgm hW (Qj4 chip hW) (Qdy c _ hW) (QeW fun f hv hk'=>?_)
   rw[List.mem_filter,List.mem_filter,hm]
 refine Ev.bind (Qls chip _ hxl) ?_
 refine Ev.bind (v:=true) (Ev.bind (QfI c (m.filter otherB) (by omega) p1) (Ev.bind (Qek _ _ hxl) ?_)) (Qa _)
 rw[<- e1,decide_eq_true rfl]
 refine Qfi (Ev.bind (ev_Of c l chip (by omega) p1) (Ev.bind (Qek _ _ (Nat.le_trans (List.length_filter_le _ _) hxl)) ?_))
 rw[decide_eq_true rfl]
 refine Qfi (Ev.bind (QfI c (m.filter (ownB chip)) (by omega) p1) (Ev.bind (Qek _ _ (Nat.le_trans (List.length_filter_le _ _) hxl)) ?_))
 rw[e2,decide_eq_true rfl]
 exact Qa _
end Go.Sw
