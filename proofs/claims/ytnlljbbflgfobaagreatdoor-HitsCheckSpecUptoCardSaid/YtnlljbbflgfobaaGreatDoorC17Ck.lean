/- Check agrees with the reference. -/
import Derived.Test.YtnlljbbflgfobaaGreatDoorQ17Ck
set_option linter.unusedVariables false
set_option linter.unusedSimpArgs false
namespace Go.Sw
def wrongH(c:Course)(h:Hit):Bool:=decide (h.Mat<0)||(decide ((c.Mats.length:Int)<=h.Mat)||(!nb h.Epoch 0 255||(!nb h.Chip 0 1048576||(!nb h.First (-1099511627776) 1099511627776||(!nb h.Last (-1099511627776) 1099511627776||decide (h.Last<h.First))))))
def folB(W:Int)(a b:Hit):Bool:=decide (cmpPl (plH a) (plH b)<0)||(decide (cmpPl (plH a) (plH b)=0)&&decide (W<IntKind.i64.wrap (b.First-a.Last)))
def okAt(c:Course)(x:List Hit)(i:Nat):Bool:=match x[i]? with
 |none=>true
 |some h=> !wrongH c h&&((i==0)||(match x[i-1]? with
  |none=>true
  |some p=>folB c.Faults.Window p h))
def chkFrom(ok:Nat->Bool):Nat->Nat->Bool
 |0,_=>true
 |d+1,i=>ok i&&chkFrom ok d (i+1)
def checkH(c:Course)(x:List Hit):Bool:=chkFrom (okAt c x) x.length 0
theorem Qcn(c:Course)(x:List Hit)(hx:x.length<=1000000)(step:Nat->Int->Option (Ctl Int (Ctl Unit Int)))
  (hs:∀i h,At x i h->(∀p,0<i->x[i-1]?=some p->Ev (fun n=>step n (i:Int)) (bif wrongH c h then Ctl.done (Ctl.done 170)else bif folB c.Faults.Window p h then Ctl.cont ((i+1:Nat):Int)else Ctl.done (Ctl.done 170)))/\(i=0->Ev (fun n=>step n (i:Int)) (bif wrongH c h then .done (.done 170)else .cont ((i+1:Nat):Int))))
  (hd:Ev (fun n=>step n (x.length:Int)) (.done (.cont ()))):Ev (fun n=>iter (step n) n 0) (bif checkH c x then Ctl.cont ()else Ctl.done 170):=by
 have:=QcG (step:=step) (s0:=(0:Int)) (fun i=>(i:Int)) x.length (fun i=>(bif chkFrom (okAt c x) (x.length-i) i then Ctl.cont ()else Ctl.done 170:Ctl Unit Int)) rfl (fun i hi=>?_) ?_
 ·exact this
 ·have ha:=Jf (x:=x[i]) (show x.length<=4611686018427387904 by omega) (List.getElem?_eq_getElem hi)
  generalize x[i]=h at ha
  obtain⟨h1,h2⟩:=hs i h ha
  have e1:x.length-i=(x.length-(i+1))+1:=by omega
  have hok:okAt c x i=(!wrongH c h&&((i==0)||(match x[i-1]? with|none=>true|some p=>folB c.Faults.Window p h))):=by
   unfold okAt;rw[ha.get]
  have hch:chkFrom (okAt c x) (x.length-i) i=(okAt c x i&&chkFrom (okAt c x) (x.length-(i+1)) (i+1)):=by rw[e1];rfl
  rw[hch,hok]
  by_cases h0:i=0
  ·have h3:=h2 h0
   cases hw:wrongH c h with
   |true=>rw[hw]at h3;exact .inr (h3.eq (by simp))
   |false=>rw[hw]at h3;exact .inl ⟨h3,by simp[h0]⟩
  ·have hg:x[i-1]?=some x[i-1]:=List.getElem?_eq_getElem (by omega)
   have h3:=h1 _ (by omega) hg
   rw[hg]
   have hb:(i==0)=false:=by simpa using h0
   rw[hb]
   cases hw:wrongH c h with
   |true=>rw[hw]at h3;exact .inr (h3.eq (by simp))
   |false=>
    rw[hw]at h3
    cases hf:folB c.Faults.Window x[i-1] h with
    |true=>rw[hf]at h3;exact .inl ⟨h3,by simp[hf]⟩
    |false=>rw[hf]at h3;exact .inr (h3.eq (by simp[hf]))
 ·rw[Nat.sub_self];exact hd
theorem Qgi(p q:hits_place):Ev (fun n=>F_ah n p q) (cmpPl p q):=by
 refine⟨4,fun n hn=>?_⟩
 obtain⟨k,rfl⟩:∃k,n=k+4:=⟨n-4,by omega⟩
 exact congrFun (congrFun (QfU k) p) q
theorem Qks(n:Nat)(v:Int):F_ac n v=some (nb v (-1099511627776) 1099511627776):=by
 unfold F_ac
 by_cases h1:(-1099511627776)<=v
 ·rw[QO h1]
  simp only[cond_true,Option.bind_some,Option.some.injEq]
  rw[Bool.eq_iff_iff,Qi8,decide_eq_true_eq];omega
 ·rw[QS h1]
  simp only[cond_false,Option.bind_some,Option.some.injEq]
  symm
  rw[Bool.eq_false_iff]
  intro z;rw[Qi8]at z;omega
theorem Qh9{e:Int}(c:Course)(x:List Hit)(hx:x.length<=1000000)(he:Ev (fun n=>F_ad n c) e):Ev (fun n=>F_aa n c x) (bif e != 0 then e else bif checkH c x then 0 else 170):=by
 unfold F_aa
 refine Ev.bind he ?_
 cases(e != 0)with
 |true=>exact Qa _
 |false=>
  simp only[cond_false]
  refine Ev.bind (Qcn c x hx _ (fun i h ha=>?_) ?_) ?_
  ·have wr:Ev (fun n=>((bif decide (h.Mat<0)then some true else(bif decide ((c.Mats.length:Int)<=h.Mat)then some true else(bif decide (h.Epoch<0)then some true else(bif decide (255<h.Epoch)then some true else(bif decide (h.Chip<0)then some true else(bif decide (1048576<h.Chip)then some true else(F_ac n h.First).bind fun r188=>(bif (!r188)then some true else(F_ac n h.Last).bind fun r190=>(bif (!r190)then some true else some (decide (h.Last<h.First)))))))))):Option Bool)) (wrongH c h):=by
    have e:wrongH c h=(decide (h.Mat<0)||(decide ((c.Mats.length:Int)<=h.Mat)||(decide (h.Epoch<0)||(decide (255<h.Epoch)||(decide (h.Chip<0)||(decide (1048576<h.Chip)||(!nb h.First (-1099511627776) 1099511627776||(!nb h.Last (-1099511627776) 1099511627776||decide (h.Last<h.First))))))))):=by
     unfold wrongH
     have n1:∀v lo hi:Int,(!nb v lo hi)=(decide (v<lo)||decide (hi<v)):=fun v lo hi=>by unfold nb;simp
     rw[n1 h.Epoch,n1 h.Chip,Bool.or_assoc,Bool.or_assoc]
    rw[e]
    refine Qp fun _=>Qp fun _=>Qp fun _=>Qp fun _=>Qp fun _=>Qp fun _=>?_
    simp only[Qks,Option.bind_some]
    exact Qp fun _=>Qp fun _=>Qa _
   refine⟨fun p hi hp=>?_,fun hi=>?_⟩
   ·have hi0:((i:Int)==0)=false:=by rw[beq_eq_false_iff_ne];omega
    have him:IntKind.i64.wrap ((i:Int)-1)=((i-1:Nat):Int):=by
     have:=ha.lt'
     rw[Ya (by omega) (by omega)];omega
    unfold F_gp
    simp only[ha.lt,cond_true,ha.ix,Option.bind_some,ha.nx,hi0,cond_false,him,QaP hp]
    cases hw:wrongH c h with
    |true=>
     refine Ev.bind (v:=(Ctl.done (Ctl.done (Ctl.done 170)):Ctl Unit (Ctl Int (Ctl Unit Int)))) (Ev.bind wr ?_) (Qa _)
     rw[hw];exact Qa _
    |false=>
     refine Ev.bind (v:=(bif folB c.Faults.Window p h then Ctl.cont ()else Ctl.done (Ctl.done (Ctl.done 170)):Ctl Unit (Ctl Int (Ctl Unit Int)))) (Ev.bind wr ?_) ?_
     ·rw[hw]
      simp only[cond_false]
      refine Ev.bind (Qgi _ _) ?_
      show Ev (fun n=>((bif decide (0<cmpPl (plH p) (plH h))then some (decide (0<cmpPl (plH p) (plH h)))else(bif (cmpPl (plH p) (plH h)==0)then some (decide ((IntKind.i64.wrap (h.First-p.Last))<=c.Faults.Window))else some false)):Option Bool).bind fun b198=>((bif b198 then some (Ctl.done (Ctl.done (Ctl.done 170)))else some (Ctl.cont ())):Option (Ctl Unit (Ctl Int (Ctl Unit Int))))) _
      unfold folB
      rcases Int.lt_trichotomy (cmpPl (plH p) (plH h)) 0 with q|q|q
      ·rw[QS (show¬0<cmpPl (plH p) (plH h)by omega),QO q,show(cmpPl (plH p) (plH h)==0)=false by rw[beq_eq_false_iff_ne];omega]
       exact Qa _
      ·rw[q]
       by_cases z:c.Faults.Window<IntKind.i64.wrap (h.First-p.Last)
       ·rw[QO z,QS (show¬IntKind.i64.wrap (h.First-p.Last)<=c.Faults.Window by omega)]
        exact Qa _
       ·rw[QS z,QO (show IntKind.i64.wrap (h.First-p.Last)<=c.Faults.Window by omega)]
        exact Qa _
      ·rw[QO q,QS (show¬cmpPl (plH p) (plH h)<0 by omega),QS (show¬cmpPl (plH p) (plH h)=0 by omega)]
       exact Qa _
     ·cases folB c.Faults.Window p h<;>exact Qa _
   ·subst hi
    unfold F_gp
    have h0:(((0:Nat):Int)==0)=true:=rfl
    simp only[ha.lt,cond_true,ha.ix,Option.bind_some,ha.nx,h0]
    refine Ev.bind (v:=(bif wrongH c h then Ctl.done (Ctl.done (Ctl.done 170))else Ctl.cont ():Ctl Unit (Ctl Int (Ctl Unit Int)))) (Ev.bind wr ?_) ?_
    ·cases wrongH c h<;>exact Qa _
    ·cases wrongH c h<;>exact Qa _
  ·unfold F_gp
   simp only[Qaj,cond_false]
   exact Qa _
  ·cases checkH c x<;>exact Qa _
theorem Qku(n:Nat)(a b:Hit)(W:Int):F_bp n a b W=some (folB W a b):=by
 unfold F_bp folB bne
 have hl:=QjH (plH a) (plH b)
 have hz:=Qg6 (plH a) (plH b)
 have hz':plH a=plH b↔a.Chip=b.Chip/\a.Mat=b.Mat/\a.Epoch=b.Epoch:=by
  unfold plH
  simp only[hits_place.mk.injEq]
 rw[hz']at hz
 unfold ltPl at hl
 change _↔a.Chip<b.Chip\/(a.Chip=b.Chip/\(a.Mat<b.Mat\/(a.Mat=b.Mat/\a.Epoch<b.Epoch)))at hl
 by_cases h1:a.Chip=b.Chip
 ·rw[beq_iff_eq.2 h1]
  simp only[Bool.not_true,cond_false]
  by_cases h2:a.Mat=b.Mat
  ·rw[beq_iff_eq.2 h2]
   simp only[Bool.not_true,cond_false]
   by_cases h3:a.Epoch=b.Epoch
   ·rw[beq_iff_eq.2 h3]
    have z:=hz.2 ⟨h1,h2,h3⟩
    rw[z]
    simp
   ·rw[beq_eq_false_iff_ne.2 h3]
    have:¬cmpPl (plH a) (plH b)=0:=fun z=>h3 (hz.1 z).2.2
    rw[QS this]
    simp only[Bool.not_false,cond_true,Bool.false_and,Bool.or_false,Option.some.injEq,decide_eq_decide]
    omega
  ·rw[beq_eq_false_iff_ne.2 h2]
   have:¬cmpPl (plH a) (plH b)=0:=fun z=>h2 (hz.1 z).2.1
   rw[QS this]
   simp only[Bool.not_false,cond_true,Bool.false_and,Bool.or_false,Option.some.injEq,decide_eq_decide]
   omega
 ·rw[beq_eq_false_iff_ne.2 h1]
  have:¬cmpPl (plH a) (plH b)=0:=fun z=>h1 (hz.1 z).1
  rw[QS this]
  simp only[Bool.not_false,cond_true,Bool.false_and,Bool.or_false,Option.some.injEq,decide_eq_decide]
  omega
theorem Qh6{e:Int}(c:Course)(x:List Hit)(hx:x.length<=1000000)(he:Ev (fun n=>F_am n c) e):Ev (fun n=>F_dc n c x) (bif e != 0 then e else bif checkH c x then 0 else 170):=by
 unfold F_dc
 refine Ev.bind he ?_
 cases(e != 0)with
 |true=>exact Qa _
 |false=>
  simp only[cond_false]
  refine Ev.bind (Qcn c x hx _ (fun i h ha=>?_) ?_) ?_
  ·have wr:Ev (fun n=>((bif decide (h.Mat<0)then some true else(bif decide ((c.Mats.length:Int)<=h.Mat)then some true else(F_as n h.Epoch).bind fun r87=>(bif (!r87)then some true else(F_an n h.Chip).bind fun r89=>(bif (!r89)then some true else(F_x n h.First).bind fun r91=>(bif (!r91)then some true else(F_x n h.Last).bind fun r93=>(bif (!r93)then some true else some (decide (h.Last<h.First)))))))):Option Bool)) (wrongH c h):=by
    unfold wrongH
    refine Qp fun _=>Qp fun _=>?_
    simp only[QiV,Qkm,Qkl,Option.bind_some]
    exact Qp fun _=>Qp fun _=>Qp fun _=>Qp fun _=>Qa _
   refine⟨fun p hi hp=>?_,fun hi=>?_⟩
   ·have him:IntKind.i64.wrap ((i:Int)-1)=((i-1:Nat):Int):=by
     have:=ha.lt'
     rw[Ya (by omega) (by omega)];omega
    unfold F_fz
    simp only[ha.lt,cond_true,ha.ix,Option.bind_some,ha.nx,QO (show(0:Int)<(i:Int)by omega),him,QaP hp,Qku]
    refine Ev.bind wr ?_
    cases hw:wrongH c h with
    |true=>exact Qa _
    |false=>
     simp only[cond_false]
     cases folB c.Faults.Window p h<;>exact Qa _
   ·subst hi
    unfold F_fz
    have h0:decide ((0:Int)<((0:Nat):Int))=false:=rfl
    simp only[ha.lt,cond_true,ha.ix,Option.bind_some,ha.nx,h0,cond_false]
    refine Ev.bind wr ?_
    cases hw:wrongH c h<;>exact Qa _
  ·unfold F_fz
   simp only[Qaj,cond_false]
   exact Qa _
  ·cases checkH c x<;>exact Qa _
theorem law_HitsCheckSpec(c:Course)(x:List Hit)(hc:Course.wf c)(hx:x.length<=1048576/\ ∀h∈x,Hit.wf h):∃n,F_dv n c x=some true:=by
 obtain⟨b,pb,fb⟩:=QjG c hc
 refine Ev.ex ?_
 unfold F_dv
 refine Ev.bind (Ev.const Qk4) ?_
 simp only[Bool.not_true,cond_false]
 cases hb:b with
 |false=>
  refine Ev.bind (v:=true) (Ev.bind pb ?_) (Qa _)
  rw[hb];exact Qa _
 |true=>
  cases h40:decide ((40:Int)<(x.length:Int))with
  |true=>
   refine Ev.bind (v:=true) (Ev.bind pb ?_) (Qa _)
   rw[hb];exact Qa _
  |false=>
   have h40':=of_decide_eq_false h40
   refine Ev.bind (v:=false) (Ev.bind pb ?_) ?_
   ·rw[hb];exact Qa _
   ·simp only[cond_false]
    obtain⟨ff,p1⟩:=fb hb
    have p2:=Qfo c (Qdh hc) (Qei hc) ff (Qe7 hc).1 (Qe7 hc).2
    exact Ev.bind (Qh9 c x (by omega) p1) (Ev.bind (Qh6 c x (by omega) p2) ((Qa _).eq (by simp)))
end Go.Sw
