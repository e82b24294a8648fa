/- Contracts of Go functions and lemmas for them: each theorem states what one function returns and what it leaves of memory; its conditions stand in its statement. -/
import Derived.Test.YthimaecnpkcmeaaB3
import Derived.Test.YthimaecnpkcmeaaB5
set_option linter.unusedVariables false
set_option linter.unusedSimpArgs false
namespace Go.Proofs.Ythimaecnpkcmeaa.K
open Go.RowKit Go.Proofs.YthimaecnpkcmeaaW.PrintWords Go.Proofs.YthimaecnpkcmeaaW.PrintLast Go.Proofs.YthimaecnpkcmeaaW.PrintMore
attribute [local go_sem] zAX zAW zAg zAf zAF zAG zAU zAV   -- for this text's walks alone
set_option linter.unusedVariables false
set_option linter.unusedSimpArgs false
def zAO.f (k:Nat) (c:List (S50)) (d:Int) (e:Int) (l1:List Int) (a2:Int) (a3:Int):Option (List Int × Bool):=(zm.f k c d e l1).bind fun h=>((zl.f k h).bind fun i=>((za.f k c d e i).bind fun a=>((zAM.f a.1 a.2.1 a.2.2.1 a.2.2.2.1 a.2.2.2.2).bind fun b=>(if (mx b.1 (wrap64 ((wrap64 (a2+1)) - a.2.1))) > b.2 then (some (([]:List Int),false)) else ((zAE.f a.1 a.2.1 a.2.2.1 a.2.2.2.1 a.2.2.2.2 (mx b.1 (wrap64 ((wrap64 (a2+1)) - a.2.1)))).bind fun g=>(if g.1≥a3 then (some (([]:List Int),false)) else (if g.2≤a2 then (some (([]:List Int),false)) else ((zw.f k c d e l1 (mx b.1 (wrap64 ((wrap64 (a2+1)) - a.2.1)))).bind fun j=>(some (j,true))))))))))
def zAO.T1:Bool × List (List Nat × List Nat):=(true,[([],[]),([],[]),([],[]),([1,2],[1,2]),([3,3],[3]),([0,4,4],[0,4]),([],[]),([6,5,5,0,1,2,3,4,5,6],[5,6])])
def zAO.B1:List Nat:=[0,0,0,6,14,31,0,127]
theorem zAO.zC6:zBQ .any (opsOf Try.f48 1)=zAO.T1:=by kernel_rfl
theorem zAO.zCQ:zBA zAO.T1.2 zAO.B1=true:=by kernel_rfl
set_option maxHeartbeats 8000000 in
set_option maxRecDepth 100000 in
theorem zAO.calls (k:Nat) (ac:Option Addr) (ad:Nat) (s:List (S50)) (u:Int) (v:Int) (A1:Option Addr) (c1:Nat) (l1:List Int) (a2:Int) (a3:Int) (r1:List Int) (r2:Bool) (w:World) (br:Kd.C k50 w ac s.length s) (bs:s.length≤ad) (hr1:Kd.C (Kd.int .i64) w A1 l1.length l1) (hc1:l1.length≤c1) (h:zAO.f k s u v l1 a2 a3=some (r1,r2)) :
 Calls Try.prog 48 #[.agg #[.slice ac s.length ad,.int .i64 u,.int .i64 v],.slice A1 l1.length c1,.int .i64 a2,.int .i64 a3] w fun e w'=>∃ v0_:Value,e= .returned (.tuple #[v0_,.bool r2])∧Kd.R (Kd.int .i64) 3 w' w.heap.size (fun _=>True) v0_ r1∧Below w.heap.size w w':=by
 have eh:=Try.underlying26
 have da:=Try.underlying105
 have ei:=Try.underlying24
 have al:=zA.mk br
 have HC0_0:=zA.mk bs
 clear br bs
 have HR1:=zA.mk hr1
 have HC1:=zA.mk hc1
 clear hr1 hc1
 have HB:=zA.mk (Below.refl w.heap.size w)
 have H:((zm.f k s u v l1).bind fun ab=>((zl.f k ab).bind fun af=>((za.f k s u v af).bind fun ag=>((zAM.f ag.1 ag.2.1 ag.2.2.1 ag.2.2.2.1 ag.2.2.2.2).bind fun an=>(if (mx an.1 (wrap64 ((wrap64 (a2+1)) - ag.2.1))) > an.2 then (some (([]:List Int),false)) else ((zAE.f ag.1 ag.2.1 ag.2.2.1 ag.2.2.2.1 ag.2.2.2.2 (mx an.1 (wrap64 ((wrap64 (a2+1)) - ag.2.1)))).bind fun ap=>(if ap.1≥a3 then (some (([]:List Int),false)) else (if ap.2≤a2 then (some (([]:List Int),false)) else ((zw.f k s u v l1 (mx an.1 (wrap64 ((wrap64 (a2+1)) - ag.2.1)))).bind fun au=>(some (au,true)))))))))))=some (r1,r2):=h
 clear h
 replace H:=Option.bind_eq_some_iff.mp H
 obtain ⟨ab,A50,H⟩:=H
 replace H:((zl.f k ab).bind fun af=>((za.f k s u v af).bind fun ag=>((zAM.f ag.1 ag.2.1 ag.2.2.1 ag.2.2.2.1 ag.2.2.2.2).bind fun an=>(if (mx an.1 (wrap64 ((wrap64 (a2+1)) - ag.2.1))) > an.2 then (some (([]:List Int),false)) else ((zAE.f ag.1 ag.2.1 ag.2.2.1 ag.2.2.2.1 ag.2.2.2.2 (mx an.1 (wrap64 ((wrap64 (a2+1)) - ag.2.1)))).bind fun ap=>(if ap.1≥a3 then (some (([]:List Int),false)) else (if ap.2≤a2 then (some (([]:List Int),false)) else ((zw.f k s u v l1 (mx an.1 (wrap64 ((wrap64 (a2+1)) - ag.2.1)))).bind fun au=>(some (au,true))))))))))=some (r1,r2):=H
 have A5:=zA.mk A50
 clear A50
 replace H:=Option.bind_eq_some_iff.mp H
 obtain ⟨af,A60,H⟩:=H
 replace H:((za.f k s u v af).bind fun ag=>((zAM.f ag.1 ag.2.1 ag.2.2.1 ag.2.2.2.1 ag.2.2.2.2).bind fun an=>(if (mx an.1 (wrap64 ((wrap64 (a2+1)) - ag.2.1))) > an.2 then (some (([]:List Int),false)) else ((zAE.f ag.1 ag.2.1 ag.2.2.1 ag.2.2.2.1 ag.2.2.2.2 (mx an.1 (wrap64 ((wrap64 (a2+1)) - ag.2.1)))).bind fun ap=>(if ap.1≥a3 then (some (([]:List Int),false)) else (if ap.2≤a2 then (some (([]:List Int),false)) else ((zw.f k s u v l1 (mx an.1 (wrap64 ((wrap64 (a2+1)) - ag.2.1)))).bind fun au=>(some (au,true)))))))))=some (r1,r2):=H
 have A6:=zA.mk A60
 clear A60
 replace H:=Option.bind_eq_some_iff.mp H
 obtain ⟨⟨aa,x,ae,ah,ai⟩,A70,H⟩:=H
 replace H:((zAM.f aa x ae ah ai).bind fun an=>(if (mx an.1 (wrap64 ((wrap64 (a2+1)) - x))) > an.2 then (some (([]:List Int),false)) else ((zAE.f aa x ae ah ai (mx an.1 (wrap64 ((wrap64 (a2+1)) - x)))).bind fun ap=>(if ap.1≥a3 then (some (([]:List Int),false)) else (if ap.2≤a2 then (some (([]:List Int),false)) else ((zw.f k s u v l1 (mx an.1 (wrap64 ((wrap64 (a2+1)) - x)))).bind fun au=>(some (au,true))))))))=some (r1,r2):=H
 have A7:=zA.mk A70
 clear A70
 replace H:=Option.bind_eq_some_iff.mp H
 obtain ⟨⟨a0,a4⟩,A80,H⟩:=H
 replace H:(if (mx a0 (wrap64 ((wrap64 (a2+1)) - x))) > a4 then (some (([]:List Int),false)) else ((zAE.f aa x ae ah ai (mx a0 (wrap64 ((wrap64 (a2+1)) - x)))).bind fun ap=>(if ap.1≥a3 then (some (([]:List Int),false)) else (if ap.2≤a2 then (some (([]:List Int),false)) else ((zw.f k s u v l1 (mx a0 (wrap64 ((wrap64 (a2+1)) - x)))).bind fun au=>(some (au,true)))))))=some (r1,r2):=H
 have A8:=zA.mk A80
 clear A80
 obtain ⟨ji9,av⟩ : ∃ j_:Int,(mx a0 (wrap64 ((wrap64 (a2+1)) - x)))=j_:=⟨_,rfl⟩
 replace H:(if (ji9) > a4 then (some (([]:List Int),false)) else ((zAE.f aa x ae ah ai (ji9)).bind fun ap=>(if ap.1≥a3 then (some (([]:List Int),false)) else (if ap.2≤a2 then (some (([]:List Int),false)) else ((zw.f k s u v l1 (ji9)).bind fun au=>(some (au,true)))))))=some (r1,r2):=by first|(rw [av] at H;exact H)|(simp only [av] at H ⊢;exact H)
 (try rw [av] at A5)
 (try rw [av] at A6)
 (try rw [av] at A7)
 (try rw [av] at A8)
 have hji9_:(if a0 < (wrap64 ((wrap64 (a2+1)) - x)) then (wrap64 ((wrap64 (a2+1)) - x)) else a0)=ji9:=av
 by_cases c10:(ji9) > a4
 ·rw [if_pos c10] at H
  have b0:decide (a4 < (ji9))=true:=decide_eq_true c10
  clear c10
  simp only [Option.some.injEq,Prod.mk.injEq] at H
  obtain ⟨rfl,rfl⟩:=H
  go_enter Try.func48,Try.ntmps48
  try go_wp2_with (first|((with_reducible refine zL (N:=4) rfl ?_);refine bE #[.slice ac s.length ad,.int .i64 u,.int .i64 v] 26 ?_;intro m hg w11 y hb;have a:=qK (y);have bh:=qK (gS hg:w.heap.size≤m);have bi:=qK (gS hg:w.heap.size≤m);replace HB:=hQ hb;clear hb y hg))
  replace a:=qK (zF a.out)
  replace HB:=qK (zx HB.out)
  refine zBH (n:=8) (S:=fun w'=>w'.cell? ⟨m,0,none⟩=some (.slice ac s.length ad)∧w'.cell? ⟨m,1,none⟩=some (.int .i64 u)∧w'.cell? ⟨m,2,none⟩=some (.int .i64 v)) (ds:=[]) #[false,false,false,false,false,false,false,false] (by kernel_rfl) rfl rfl ⟨(zB a.out 0).trans rfl,(zB a.out 1).trans rfl,(zB a.out 2).trans rfl⟩ (fun r=>?_);refine zAj zAO.zC6 zAO.zCQ (fun HT_ HW_=>?_)
  generalize w11.drew=w12 at a HB r ⊢
  refine pP 2 (some 17) HT_ ?_
  refine tP 0 (some 15) HT_ HW_ r ?_
  refine tP 1 (some 16) HT_ HW_ r ?_
  refine zBz (σ:=Value × Nat) 1 #[true,true,true,true,true,true,true,false] (fun s_=>[(18,s_.1),(19,.int .i64 af),(20,.agg #[.int .i64 aa,.int .i64 x,.int .i64 ae,.int .i64 ah,.int .i64 ai]),(10,.pointer (some ⟨s_.2,0,none⟩))]) (fun s_ w'=>(w'.cell? ⟨m,0,none⟩=some (.slice ac s.length ad)∧w'.cell? ⟨m,1,none⟩=some (.int .i64 u)∧w'.cell? ⟨m,2,none⟩=some (.int .i64 v))∧(Kd.R (Kd.int .i64) 3 w' w.heap.size (fun _=>True) s_.1 ab)∧(w'.heap[m]? = some (.cells #[.slice ac s.length ad,.int .i64 u,.int .i64 v] 26 (0,0)))∧(w'.heap[s_.2]? = some (.cells #[.int .i64 0,.int .i64 0,.int .i64 0,.int .i64 0,.int .i64 0] 105 (0,0)))∧(w.heap.size≤s_.2)∧(w.heap.size≤s_.2)∧(m≠s_.2)∧(s_.2≠m)∧(Below w.heap.size w w')) ?_ ?_
  rotate_left
  ·intro ao
   refine zB6 (i:=3) (j:=6) (Ni:=some 18) (Nj:=some 10) #[true,true,true,true,false,false,false,false] #[true,true,true,false,false,false,true,false] rfl rfl rfl rfl (zBG HT_.out (by kernel_rfl)) (by decide) (by decide) (fun K hK=>?_) (fun K hK=>?_)
   ·skip
    refine gO Try.func62 #[.agg #[.slice ac s.length ad,.int .i64 u,.int .i64 v],.slice A1 l1.length c1] ?_
    with_reducible refine (zm.calls k _ _ s u v _ _ l1 ab _ ?side1 ?side2 ?side3 ?side4 A5.out).mono ?_
    (case side1=>exact cS al.out)
    (case side2=>exact HC0_0.out)
    (case side3=>exact cS HR1.out)
    (case side4=>exact HC1.out)
    rintro e w13 ⟨v162,rfl,ho0,hb⟩
    refine ⟨_,rfl,?_⟩
    have l:=qK (Kd.zAH ho0 bZ)
    replace a:=bQ a hb
    replace HB:=hQ hb
    (try clear hb)
    (try clear hb2)
    (try clear hk)
    (try clear hi)
    (try clear ho0)
    obtain ⟨bj,bk,bv⟩:=Kd.zq l.out
    (first|subst bv|(injection bv with f1_ f2_ f3_;have f4_:=f1_.symm;have f5_:=f3_.symm;clear f1_ f2_ f3_;subst f4_;subst f5_))
    refine hK.out _ _ ⟨(zB a.out 0).trans rfl,(zB a.out 1).trans rfl,(zB a.out 2).trans rfl⟩ (fun r=>?_)
    clear hK K
    refine nP ?_
    refine zB6 (i:=4) (j:=6) (Ni:=some 19) (Nj:=some 10) #[true,true,true,true,true,false,false,false] #[true,true,true,true,false,false,true,false] rfl rfl rfl rfl (zBG HT_.out (by kernel_rfl)) (by decide) (by decide) (fun K hK=>?_) (fun K hK=>?_)
    ·skip
     refine gO Try.func66 #[.slice bj ab.length bk] ?_
     with_reducible refine (zl.calls k _ _ ab af _ ?side1 ?side2 A6.out).mono ?_
     (case side1=>exact cR (Kd.zJ l.out).2.2)
     (case side2=>exact (Kd.zJ l.out).2.1)
     rintro e w' ⟨rfl,⟨nd,rfl⟩⟩
     refine ⟨_,rfl,?_⟩
     refine hK.out _ _ ⟨(zB a.out 0).trans rfl,(zB a.out 1).trans rfl,(zB a.out 2).trans rfl⟩ (fun r=>?_)
     clear hK K
     refine nP ?_
     refine zB6 (i:=5) (j:=6) (Ni:=some 20) (Nj:=some 10) #[true,true,true,true,true,true,false,false] #[true,true,true,true,true,false,true,false] rfl rfl rfl rfl (zBG HT_.out (by kernel_rfl)) (by decide) (by decide) (fun K hK=>?_) (fun K hK=>?_)
     ·skip
      refine gO Try.func64 #[.agg #[.slice ac s.length ad,.int .i64 u,.int .i64 v],.int .i64 af] ?_
      with_reducible refine (za.calls k _ _ s u v af aa x ae ah ai _ ?side1 ?side2 A7.out).mono ?_
      (case side1=>repeat (first|exact (Kd.zAZ al.out bA)|(with_reducible refine Kd.zAo ?_ _)|(with_reducible refine Kd.zAl ?_ _)|(with_reducible refine Kd.zA3 ?_)))
      (case side2=>exact HC0_0.out)
      rintro e w15 ⟨rfl,hb⟩
      refine ⟨_,rfl,?_⟩
      replace l:=rB l hb
      replace a:=bQ a hb
      replace HB:=hQ hb
      (try clear hb)
      (try clear hb2)
      (try clear hk)
      (try clear hi)
      refine hK.out _ _ ⟨(zB a.out 0).trans rfl,(zB a.out 1).trans rfl,(zB a.out 2).trans rfl⟩ (fun r=>?_)
      clear hK K
      refine nP ?_
      refine oP 6 (some 10) HT_ (fun K hK=>?_)
      refine zAK ?hg (N:=10) ?hd (cs:=#[.int .i64 0,.int .i64 0,.int .i64 0,.int .i64 0,.int .i64 0]) (t:=105) ?hr ?_;(case hd=>rfl);(case hg=>rfl);(case hr=>first|(go_simp;done)|(go_simp;rfl))
      intro c hg w16 y hb
      replace l:=rB l hb
      have d:=qK (y)
      have aj:=qK (gS hg:w.heap.size≤c)
      have ak:=qK (gS hg:w.heap.size≤c)
      replace HB:=hQ hb
      have b:=qK (nL hg a.out:m≠c)
      have q:=qK (nG hg a.out:c≠m)
      replace a:=bQ a hb
      clear hb y hg
      refine hK.out _ _ ⟨(zB a.out 0).trans rfl,(zB a.out 1).trans rfl,(zB a.out 2).trans rfl⟩ (fun r=>?_)
      clear hK K
      refine nP ?_
      exact zAe (by simp only [zy,Act.put,List.setIfInBounds_toArray,List.set_cons_zero,List.set_cons_succ]) (ao (.slice bj ab.length bk,c) _ ⟨r,(rS l.out),(bX a.out),(bX d.out),aj.out,ak.out,b.out,q.out,bA⟩)
     ·skip
      refine zAK ?hg (N:=10) ?hd (cs:=#[.int .i64 0,.int .i64 0,.int .i64 0,.int .i64 0,.int .i64 0]) (t:=105) ?hr ?_;(case hd=>rfl);(case hg=>rfl);(case hr=>first|(go_simp;done)|(go_simp;rfl))
      intro c hg w15 y hb
      replace l:=rB l hb
      have d:=qK (y)
      have aj:=qK (gS hg:w.heap.size≤c)
      have ak:=qK (gS hg:w.heap.size≤c)
      replace HB:=hQ hb
      have b:=qK (nL hg a.out:m≠c)
      have q:=qK (nG hg a.out:c≠m)
      replace a:=bQ a hb
      clear hb y hg
      refine hK.out _ _ ⟨(zB a.out 0).trans rfl,(zB a.out 1).trans rfl,(zB a.out 2).trans rfl⟩ (fun r=>?_)
      clear hK K
      refine nP ?_
      refine oP 5 (some 20) HT_ (fun K hK=>?_)
      refine gO Try.func64 #[.agg #[.slice ac s.length ad,.int .i64 u,.int .i64 v],.int .i64 af] ?_
      with_reducible refine (za.calls k _ _ s u v af aa x ae ah ai _ ?side1 ?side2 A7.out).mono ?_
      (case side1=>exact cS al.out)
      (case side2=>exact HC0_0.out)
      rintro e w16 ⟨rfl,hb⟩
      refine ⟨_,rfl,?_⟩
      replace l:=rB l hb
      replace a:=bQ a hb
      replace d:=bQ d hb
      replace HB:=hQ hb
      (try clear hb)
      (try clear hb2)
      (try clear hk)
      (try clear hi)
      refine hK.out _ _ ⟨(zB a.out 0).trans rfl,(zB a.out 1).trans rfl,(zB a.out 2).trans rfl⟩ (fun r=>?_)
      clear hK K
      refine nP ?_
      exact zAe (by simp only [zy,Act.put,List.setIfInBounds_toArray,List.set_cons_zero,List.set_cons_succ]) (ao (.slice bj ab.length bk,c) _ ⟨r,(rS l.out),(bX a.out),(bX d.out),aj.out,ak.out,b.out,q.out,bA⟩)
    ·skip
     refine zAK ?hg (N:=10) ?hd (cs:=#[.int .i64 0,.int .i64 0,.int .i64 0,.int .i64 0,.int .i64 0]) (t:=105) ?hr ?_;(case hd=>rfl);(case hg=>rfl);(case hr=>first|(go_simp;done)|(go_simp;rfl))
     intro c hg w14 y hb
     replace l:=rB l hb
     have d:=qK (y)
     have aj:=qK (gS hg:w.heap.size≤c)
     have ak:=qK (gS hg:w.heap.size≤c)
     replace HB:=hQ hb
     have b:=qK (nL hg a.out:m≠c)
     have q:=qK (nG hg a.out:c≠m)
     replace a:=bQ a hb
     clear hb y hg
     obtain ⟨a5,a6,a7⟩:=Kd.zq l.out
     (first|subst a7|(injection a7 with f1_ f2_ f3_;have f4_:=f1_.symm;have f5_:=f3_.symm;clear f1_ f2_ f3_;subst f4_;subst f5_))
     refine hK.out _ _ ⟨(zB a.out 0).trans rfl,(zB a.out 1).trans rfl,(zB a.out 2).trans rfl⟩ (fun r=>?_)
     clear hK K
     refine nP ?_
     refine oP 4 (some 19) HT_ (fun K hK=>?_)
     refine gO Try.func66 #[.slice a5 ab.length a6] ?_
     with_reducible refine (zl.calls k _ _ ab af _ ?side1 ?side2 A6.out).mono ?_
     (case side1=>exact cR (Kd.zJ l.out).2.2)
     (case side2=>exact (Kd.zJ l.out).2.1)
     rintro e w' ⟨rfl,⟨nd,rfl⟩⟩
     refine ⟨_,rfl,?_⟩
     refine hK.out _ _ ⟨(zB a.out 0).trans rfl,(zB a.out 1).trans rfl,(zB a.out 2).trans rfl⟩ (fun r=>?_)
     clear hK K
     refine nP ?_
     refine oP 5 (some 20) HT_ (fun K hK=>?_)
     refine gO Try.func64 #[.agg #[.slice ac s.length ad,.int .i64 u,.int .i64 v],.int .i64 af] ?_
     with_reducible refine (za.calls k _ _ s u v af aa x ae ah ai _ ?side1 ?side2 A7.out).mono ?_
     (case side1=>repeat (first|exact (Kd.zAZ al.out bA)|(with_reducible refine Kd.zAo ?_ _)|(with_reducible refine Kd.zAl ?_ _)|(with_reducible refine Kd.zA3 ?_)))
     (case side2=>exact HC0_0.out)
     rintro e w16 ⟨rfl,hb⟩
     refine ⟨_,rfl,?_⟩
     replace l:=rB l hb
     replace a:=bQ a hb
     replace d:=bQ d hb
     replace HB:=hQ hb
     (try clear hb)
     (try clear hb2)
     (try clear hk)
     (try clear hi)
     refine hK.out _ _ ⟨(zB a.out 0).trans rfl,(zB a.out 1).trans rfl,(zB a.out 2).trans rfl⟩ (fun r=>?_)
     clear hK K
     refine nP ?_
     exact zAe (by simp only [zy,Act.put,List.setIfInBounds_toArray,List.set_cons_zero,List.set_cons_succ]) (ao (.slice a5 ab.length a6,c) _ ⟨r,(rS l.out),(bX a.out),(bX d.out),aj.out,ak.out,b.out,q.out,bA⟩)
   ·skip
    refine zAK ?hg (N:=10) ?hd (cs:=#[.int .i64 0,.int .i64 0,.int .i64 0,.int .i64 0,.int .i64 0]) (t:=105) ?hr ?_;(case hd=>rfl);(case hg=>rfl);(case hr=>first|(go_simp;done)|(go_simp;rfl))
    intro c hg w13 y hb
    have d:=qK (y)
    have aj:=qK (gS hg:w.heap.size≤c)
    have ak:=qK (gS hg:w.heap.size≤c)
    replace HB:=hQ hb
    have b:=qK (nL hg a.out:m≠c)
    have q:=qK (nG hg a.out:c≠m)
    replace a:=bQ a hb
    clear hb y hg
    refine hK.out _ _ ⟨(zB a.out 0).trans rfl,(zB a.out 1).trans rfl,(zB a.out 2).trans rfl⟩ (fun r=>?_)
    clear hK K
    refine nP ?_
    refine oP 3 (some 18) HT_ (fun K hK=>?_)
    refine gO Try.func62 #[.agg #[.slice ac s.length ad,.int .i64 u,.int .i64 v],.slice A1 l1.length c1] ?_
    with_reducible refine (zm.calls k _ _ s u v _ _ l1 ab _ ?side1 ?side2 ?side3 ?side4 A5.out).mono ?_
    (case side1=>exact cS al.out)
    (case side2=>exact HC0_0.out)
    (case side3=>exact cS HR1.out)
    (case side4=>exact HC1.out)
    rintro e w14 ⟨v162,rfl,ho0,hb⟩
    refine ⟨_,rfl,?_⟩
    have l:=qK (Kd.zAH ho0 bZ)
    replace a:=bQ a hb
    replace d:=bQ d hb
    replace HB:=hQ hb
    (try clear hb)
    (try clear hb2)
    (try clear hk)
    (try clear hi)
    (try clear ho0)
    obtain ⟨a5,a6,a7⟩:=Kd.zq l.out
    (first|subst a7|(injection a7 with f1_ f2_ f3_;have f4_:=f1_.symm;have f5_:=f3_.symm;clear f1_ f2_ f3_;subst f4_;subst f5_))
    refine hK.out _ _ ⟨(zB a.out 0).trans rfl,(zB a.out 1).trans rfl,(zB a.out 2).trans rfl⟩ (fun r=>?_)
    clear hK K
    refine nP ?_
    refine oP 4 (some 19) HT_ (fun K hK=>?_)
    refine gO Try.func66 #[.slice a5 ab.length a6] ?_
    with_reducible refine (zl.calls k _ _ ab af _ ?side1 ?side2 A6.out).mono ?_
    (case side1=>exact cR (Kd.zJ l.out).2.2)
    (case side2=>exact (Kd.zJ l.out).2.1)
    rintro e w' ⟨rfl,⟨nd,rfl⟩⟩
    refine ⟨_,rfl,?_⟩
    refine hK.out _ _ ⟨(zB a.out 0).trans rfl,(zB a.out 1).trans rfl,(zB a.out 2).trans rfl⟩ (fun r=>?_)
    clear hK K
    refine nP ?_
    refine oP 5 (some 20) HT_ (fun K hK=>?_)
    refine gO Try.func64 #[.agg #[.slice ac s.length ad,.int .i64 u,.int .i64 v],.int .i64 af] ?_
    with_reducible refine (za.calls k _ _ s u v af aa x ae ah ai _ ?side1 ?side2 A7.out).mono ?_
    (case side1=>repeat (first|exact (Kd.zAZ al.out bA)|(with_reducible refine Kd.zAo ?_ _)|(with_reducible refine Kd.zAl ?_ _)|(with_reducible refine Kd.zA3 ?_)))
    (case side2=>exact HC0_0.out)
    rintro e w16 ⟨rfl,hb⟩
    refine ⟨_,rfl,?_⟩
    replace l:=rB l hb
    replace a:=bQ a hb
    replace d:=bQ d hb
    replace HB:=hQ hb
    (try clear hb)
    (try clear hb2)
    (try clear hk)
    (try clear hi)
    refine hK.out _ _ ⟨(zB a.out 0).trans rfl,(zB a.out 1).trans rfl,(zB a.out 2).trans rfl⟩ (fun r=>?_)
    clear hK K
    refine nP ?_
    exact zAe (by simp only [zy,Act.put,List.setIfInBounds_toArray,List.set_cons_zero,List.set_cons_succ]) (ao (.slice a5 ab.length a6,c) _ ⟨r,(rS l.out),(bX a.out),(bX d.out),aj.out,ak.out,b.out,q.out,bA⟩)
  rintro ⟨v162,c⟩ w17 ⟨hS_,h0_,h1_,h2_,h3_,h4_,h5_,h6_,h7_⟩
  have n0_:zA (Kd.R (Kd.int .i64) 3 w17 w.heap.size (fun _=>True) v162 ab):=⟨h0_⟩
  have n1_:zA (w17.heap[m]? = some (.cells #[.slice ac s.length ad,.int .i64 u,.int .i64 v] 26 (0,0))):=⟨h1_⟩
  have n2_:zA (w17.heap[c]? = some (.cells #[.int .i64 0,.int .i64 0,.int .i64 0,.int .i64 0,.int .i64 0] 105 (0,0))):=⟨h2_⟩
  have n3_:zA (w.heap.size≤c):=⟨h3_⟩
  have n4_:zA (w.heap.size≤c):=⟨h4_⟩
  have n5_:zA (m≠c):=⟨h5_⟩
  have n6_:zA (c≠m):=⟨h6_⟩
  have n7_:zA (Below w.heap.size w w17):=⟨h7_⟩
  clear a
  clear HB
  clear h0_ h1_ h2_ h3_ h4_ h5_ h6_ h7_
  have l:=n0_
  have a:=n1_
  have d:=n2_
  have aj:=n3_
  have ak:=n4_
  have b:=n5_
  have q:=n6_
  have HB:=n7_
  clear n0_ n1_ n2_ n3_ n4_ n5_ n6_ n7_
  have r:w17.cell? ⟨m,0,none⟩=some (.slice ac s.length ad)∧w17.cell? ⟨m,1,none⟩=some (.int .i64 u)∧w17.cell? ⟨m,2,none⟩=some (.int .i64 v):=hS_
  refine zAe (a':=?_) ?_ ?_
  rotate_left
  ·simp only [zy,Act.put,List.setIfInBounds_toArray,List.set_cons_zero,List.set_cons_succ]
   rfl
  refine oP 7 none HT_ (fun K hK=>?_)
  have ej:w17.cell? ⟨c,0,none⟩=some (.int .i64 0):=(zB d.out 0).trans rfl
  have db:=zW d.out 0
  have b4:=b.out
  have b5:=q.out
  have ek:w17.cell? ⟨c,1,none⟩=some (.int .i64 0):=(zB d.out 1).trans rfl
  have dc:=zW d.out 1
  have b6:=b.out
  have b7:=q.out
  have el:w17.cell? ⟨c,2,none⟩=some (.int .i64 0):=(zB d.out 2).trans rfl
  have dd:=zW d.out 2
  have b8:=b.out
  have b9:=q.out
  have em:w17.cell? ⟨c,3,none⟩=some (.int .i64 0):=(zB d.out 3).trans rfl
  have de:=zW d.out 3
  have ca:=b.out
  have cb:=q.out
  have en:w17.cell? ⟨c,4,none⟩=some (.int .i64 0):=(zB d.out 4).trans rfl
  have df:=zW d.out 4
  have cc:=b.out
  have cd:=q.out
  refine zB0 (w1:=?_) (by rfl) rfl ?_ ?_
  rotate_left
  ·go_simp
   rfl
  refine hK.out _ _ ⟨((cell_far (p:=⟨c,_,none⟩) b.out _).trans (((cell_far (p:=⟨c,_,none⟩) b.out _).trans (((cell_far (p:=⟨c,_,none⟩) b.out _).trans (((cell_far (p:=⟨c,_,none⟩) b.out _).trans (((cell_far (p:=⟨c,_,none⟩) b.out _).trans (r.1)))))))))),((cell_far (p:=⟨c,_,none⟩) b.out _).trans (((cell_far (p:=⟨c,_,none⟩) b.out _).trans (((cell_far (p:=⟨c,_,none⟩) b.out _).trans (((cell_far (p:=⟨c,_,none⟩) b.out _).trans (((cell_far (p:=⟨c,_,none⟩) b.out _).trans (r.2.1)))))))))),((cell_far (p:=⟨c,_,none⟩) b.out _).trans (((cell_far (p:=⟨c,_,none⟩) b.out _).trans (((cell_far (p:=⟨c,_,none⟩) b.out _).trans (((cell_far (p:=⟨c,_,none⟩) b.out _).trans (((cell_far (p:=⟨c,_,none⟩) b.out _).trans (r.2.2))))))))))⟩ (fun r=>?_)
  clear hK K
  refine zBZ (zA8 HT_.out (by kernel_rfl)) ?_
  have dg:=q.out
  have dh:=b.out
  obtain ⟨_,_,_,_,_,_,_,_,_,_⟩:=xC5 d.out
  try go_wp2_with (first|((with_reducible refine zH (f:=78) rfl ?_);refine gL (some 23) Try.func78 #[.agg #[.int .i64 aa,.int .i64 x,.int .i64 ae,.int .i64 ah,.int .i64 ai]] ?_;(with_reducible refine (zAM.calls aa x ae ah ai a0 a4 _ A8.out).mono ?_);rintro e w25 ⟨rfl,hb⟩;refine ⟨_,rfl,?_⟩;replace l:=qK (Kd.z8 (rS ((Kd.zR (Kd.zM (p:=⟨c,4,none⟩) (Kd.zM (p:=⟨c,3,none⟩) (Kd.zM (p:=⟨c,2,none⟩) (Kd.zM (p:=⟨c,1,none⟩) (Kd.zM (p:=⟨c,0,none⟩) (Kd.ze l.out d.out (by decide)) (fun _ hk=>hk.2) (.int .i64 aa)) (fun _ hk=>hk.2) (.int .i64 x)) (fun _ hk=>hk.2) (.int .i64 ae)) (fun _ hk=>hk.2) (.int .i64 ah)) (fun _ hk=>hk.2) (.int .i64 ai)) (fun _ h_=>h_.1)))) hb);replace a:=qK (zT (g:=m) (o:=.cells #[.slice ac s.length ad,.int .i64 u,.int .i64 v] 26 (0,0)) (by (repeat with_reducible first|apply zD|apply zF|apply zC);refine zO ?_ b.out _;(repeat with_reducible first|apply zD|apply zF|apply zC);refine zO ?_ b.out _;(repeat with_reducible first|apply zD|apply zF|apply zC);refine zO ?_ b.out _;(repeat with_reducible first|apply zD|apply zF|apply zC);refine zO ?_ b.out _;(repeat with_reducible first|apply zD|apply zF|apply zC);refine zO ?_ b.out _;(repeat with_reducible first|apply zD|apply zF|apply zC);exact a.out) hb);replace d:=qK (zT (g:=c) (o:=.cells #[.int .i64 aa,.int .i64 x,.int .i64 ae,.int .i64 ah,.int .i64 ai] 105 (0,0)) (by (repeat with_reducible first|apply zD|apply zF|apply zC);refine zP (cs:=#[.int .i64 aa,.int .i64 x,.int .i64 ae,.int .i64 ah,.int .i64 0]) ?_ 4 _ rfl;(repeat with_reducible first|apply zD|apply zF|apply zC);refine zP (cs:=#[.int .i64 aa,.int .i64 x,.int .i64 ae,.int .i64 0,.int .i64 0]) ?_ 3 _ rfl;(repeat with_reducible first|apply zD|apply zF|apply zC);refine zP (cs:=#[.int .i64 aa,.int .i64 x,.int .i64 0,.int .i64 0,.int .i64 0]) ?_ 2 _ rfl;(repeat with_reducible first|apply zD|apply zF|apply zC);refine zP (cs:=#[.int .i64 aa,.int .i64 0,.int .i64 0,.int .i64 0,.int .i64 0]) ?_ 1 _ rfl;(repeat with_reducible first|apply zD|apply zF|apply zC);refine zP (cs:=#[.int .i64 0,.int .i64 0,.int .i64 0,.int .i64 0,.int .i64 0]) ?_ 0 _ rfl;(repeat with_reducible first|apply zD|apply zF|apply zC);exact d.out) hb);replace HB:=hQ hb;obtain ⟨_,_,_,_,_,_,_,_,_,_⟩:=xC5 d.out))
  go_ret2
  exact ⟨_,by first|rfl|(simp [zAQ,zAP] <;> rfl)|(simp only [← av];first|rfl|(simp [zAQ,zAP] <;> rfl))|(simp [*,zAQ,zAP] <;> rfl),by first|exact Kd.zBW _ _ _ _ _|exact Kd.zCK _ _ _ _ _|exact Kd.zCM _ _ _ _ _|exact Kd.zCL _ _ _ _ _|exact Kd.zCJ _ _ _ _ _,bA⟩
 rw [if_neg c10] at H
 have b0:decide (a4 < (ji9))=false:=decide_eq_false c10
 clear c10
 replace H:=Option.bind_eq_some_iff.mp H
 obtain ⟨⟨az,a1⟩,A270,H⟩:=H
 replace H:(if az≥a3 then (some (([]:List Int),false)) else (if a1≤a2 then (some (([]:List Int),false)) else ((zw.f k s u v l1 (ji9)).bind fun au=>(some (au,true)))))=some (r1,r2):=H
 have A27:=zA.mk A270
 clear A270
 by_cases c28:az≥a3
 ·rw [if_pos c28] at H
  have b1:decide (a3≤az)=true:=decide_eq_true c28
  clear c28
  simp only [Option.some.injEq,Prod.mk.injEq] at H
  obtain ⟨rfl,rfl⟩:=H
  go_enter Try.func48,Try.ntmps48
  try go_wp2_with (first|((with_reducible refine zL (N:=4) rfl ?_);refine bE #[.slice ac s.length ad,.int .i64 u,.int .i64 v] 26 ?_;intro m hg w29 y hb;have a:=qK (y);have bh:=qK (gS hg:w.heap.size≤m);have bi:=qK (gS hg:w.heap.size≤m);replace HB:=hQ hb;clear hb y hg))
  replace a:=qK (zF a.out)
  replace HB:=qK (zx HB.out)
  refine zBH (n:=8) (S:=fun w'=>w'.cell? ⟨m,0,none⟩=some (.slice ac s.length ad)∧w'.cell? ⟨m,1,none⟩=some (.int .i64 u)∧w'.cell? ⟨m,2,none⟩=some (.int .i64 v)) (ds:=[]) #[false,false,false,false,false,false,false,false] (by kernel_rfl) rfl rfl ⟨(zB a.out 0).trans rfl,(zB a.out 1).trans rfl,(zB a.out 2).trans rfl⟩ (fun r=>?_);refine zAj zAO.zC6 zAO.zCQ (fun HT_ HW_=>?_)
  generalize w29.drew=w30 at a HB r ⊢
  refine pP 2 (some 17) HT_ ?_
  refine tP 0 (some 15) HT_ HW_ r ?_
  refine tP 1 (some 16) HT_ HW_ r ?_
  refine zBz (σ:=Value × Nat) 1 #[true,true,true,true,true,true,true,false] (fun s_=>[(18,s_.1),(19,.int .i64 af),(20,.agg #[.int .i64 aa,.int .i64 x,.int .i64 ae,.int .i64 ah,.int .i64 ai]),(10,.pointer (some ⟨s_.2,0,none⟩))]) (fun s_ w'=>(w'.cell? ⟨m,0,none⟩=some (.slice ac s.length ad)∧w'.cell? ⟨m,1,none⟩=some (.int .i64 u)∧w'.cell? ⟨m,2,none⟩=some (.int .i64 v))∧(Kd.R (Kd.int .i64) 3 w' w.heap.size (fun _=>True) s_.1 ab)∧(w'.heap[m]? = some (.cells #[.slice ac s.length ad,.int .i64 u,.int .i64 v] 26 (0,0)))∧(w'.heap[s_.2]? = some (.cells #[.int .i64 0,.int .i64 0,.int .i64 0,.int .i64 0,.int .i64 0] 105 (0,0)))∧(w.heap.size≤s_.2)∧(w.heap.size≤s_.2)∧(m≠s_.2)∧(s_.2≠m)∧(Below w.heap.size w w')) ?_ ?_
  rotate_left
  ·intro ao
   refine zB6 (i:=3) (j:=6) (Ni:=some 18) (Nj:=some 10) #[true,true,true,true,false,false,false,false] #[true,true,true,false,false,false,true,false] rfl rfl rfl rfl (zBG HT_.out (by kernel_rfl)) (by decide) (by decide) (fun K hK=>?_) (fun K hK=>?_)
   ·skip
    refine gO Try.func62 #[.agg #[.slice ac s.length ad,.int .i64 u,.int .i64 v],.slice A1 l1.length c1] ?_
    with_reducible refine (zm.calls k _ _ s u v _ _ l1 ab _ ?side1 ?side2 ?side3 ?side4 A5.out).mono ?_
    (case side1=>exact cS al.out)
    (case side2=>exact HC0_0.out)
    (case side3=>exact cS HR1.out)
    (case side4=>exact HC1.out)
    rintro e w31 ⟨v162,rfl,ho0,hb⟩
    refine ⟨_,rfl,?_⟩
    have l:=qK (Kd.zAH ho0 bZ)
    replace a:=bQ a hb
    replace HB:=hQ hb
    (try clear hb)
    (try clear hb2)
    (try clear hk)
    (try clear hi)
    (try clear ho0)
    obtain ⟨bl,bm,bw⟩:=Kd.zq l.out
    (first|subst bw|(injection bw with f1_ f2_ f3_;have f4_:=f1_.symm;have f5_:=f3_.symm;clear f1_ f2_ f3_;subst f4_;subst f5_))
    refine hK.out _ _ ⟨(zB a.out 0).trans rfl,(zB a.out 1).trans rfl,(zB a.out 2).trans rfl⟩ (fun r=>?_)
    clear hK K
    refine nP ?_
    refine zB6 (i:=4) (j:=6) (Ni:=some 19) (Nj:=some 10) #[true,true,true,true,true,false,false,false] #[true,true,true,true,false,false,true,false] rfl rfl rfl rfl (zBG HT_.out (by kernel_rfl)) (by decide) (by decide) (fun K hK=>?_) (fun K hK=>?_)
    ·skip
     refine gO Try.func66 #[.slice bl ab.length bm] ?_
     with_reducible refine (zl.calls k _ _ ab af _ ?side1 ?side2 A6.out).mono ?_
     (case side1=>exact cR (Kd.zJ l.out).2.2)
     (case side2=>exact (Kd.zJ l.out).2.1)
     rintro e w' ⟨rfl,⟨nd,rfl⟩⟩
     refine ⟨_,rfl,?_⟩
     refine hK.out _ _ ⟨(zB a.out 0).trans rfl,(zB a.out 1).trans rfl,(zB a.out 2).trans rfl⟩ (fun r=>?_)
     clear hK K
     refine nP ?_
     refine zB6 (i:=5) (j:=6) (Ni:=some 20) (Nj:=some 10) #[true,true,true,true,true,true,false,false] #[true,true,true,true,true,false,true,false] rfl rfl rfl rfl (zBG HT_.out (by kernel_rfl)) (by decide) (by decide) (fun K hK=>?_) (fun K hK=>?_)
     ·skip
      refine gO Try.func64 #[.agg #[.slice ac s.length ad,.int .i64 u,.int .i64 v],.int .i64 af] ?_
      with_reducible refine (za.calls k _ _ s u v af aa x ae ah ai _ ?side1 ?side2 A7.out).mono ?_
      (case side1=>repeat (first|exact (Kd.zAZ al.out bA)|(with_reducible refine Kd.zAo ?_ _)|(with_reducible refine Kd.zAl ?_ _)|(with_reducible refine Kd.zA3 ?_)))
      (case side2=>exact HC0_0.out)
      rintro e w33 ⟨rfl,hb⟩
      refine ⟨_,rfl,?_⟩
      replace l:=rB l hb
      replace a:=bQ a hb
      replace HB:=hQ hb
      (try clear hb)
      (try clear hb2)
      (try clear hk)
      (try clear hi)
      refine hK.out _ _ ⟨(zB a.out 0).trans rfl,(zB a.out 1).trans rfl,(zB a.out 2).trans rfl⟩ (fun r=>?_)
      clear hK K
      refine nP ?_
      refine oP 6 (some 10) HT_ (fun K hK=>?_)
      refine zAK ?hg (N:=10) ?hd (cs:=#[.int .i64 0,.int .i64 0,.int .i64 0,.int .i64 0,.int .i64 0]) (t:=105) ?hr ?_;(case hd=>rfl);(case hg=>rfl);(case hr=>first|(go_simp;done)|(go_simp;rfl))
      intro c hg w34 y hb
      replace l:=rB l hb
      have d:=qK (y)
      have aj:=qK (gS hg:w.heap.size≤c)
      have ak:=qK (gS hg:w.heap.size≤c)
      replace HB:=hQ hb
      have b:=qK (nL hg a.out:m≠c)
      have q:=qK (nG hg a.out:c≠m)
      replace a:=bQ a hb
      clear hb y hg
      refine hK.out _ _ ⟨(zB a.out 0).trans rfl,(zB a.out 1).trans rfl,(zB a.out 2).trans rfl⟩ (fun r=>?_)
      clear hK K
      refine nP ?_
      exact zAe (by simp only [zy,Act.put,List.setIfInBounds_toArray,List.set_cons_zero,List.set_cons_succ]) (ao (.slice bl ab.length bm,c) _ ⟨r,(rS l.out),(bX a.out),(bX d.out),aj.out,ak.out,b.out,q.out,bA⟩)
     ·skip
      refine zAK ?hg (N:=10) ?hd (cs:=#[.int .i64 0,.int .i64 0,.int .i64 0,.int .i64 0,.int .i64 0]) (t:=105) ?hr ?_;(case hd=>rfl);(case hg=>rfl);(case hr=>first|(go_simp;done)|(go_simp;rfl))
      intro c hg w33 y hb
      replace l:=rB l hb
      have d:=qK (y)
      have aj:=qK (gS hg:w.heap.size≤c)
      have ak:=qK (gS hg:w.heap.size≤c)
      replace HB:=hQ hb
      have b:=qK (nL hg a.out:m≠c)
      have q:=qK (nG hg a.out:c≠m)
      replace a:=bQ a hb
      clear hb y hg
      refine hK.out _ _ ⟨(zB a.out 0).trans rfl,(zB a.out 1).trans rfl,(zB a.out 2).trans rfl⟩ (fun r=>?_)
      clear hK K
      refine nP ?_
      refine oP 5 (some 20) HT_ (fun K hK=>?_)
      refine gO Try.func64 #[.agg #[.slice ac s.length ad,.int .i64 u,.int .i64 v],.int .i64 af] ?_
      with_reducible refine (za.calls k _ _ s u v af aa x ae ah ai _ ?side1 ?side2 A7.out).mono ?_
      (case side1=>exact cS al.out)
      (case side2=>exact HC0_0.out)
      rintro e w34 ⟨rfl,hb⟩
      refine ⟨_,rfl,?_⟩
      replace l:=rB l hb
      replace a:=bQ a hb
      replace d:=bQ d hb
      replace HB:=hQ hb
      (try clear hb)
      (try clear hb2)
      (try clear hk)
      (try clear hi)
      refine hK.out _ _ ⟨(zB a.out 0).trans rfl,(zB a.out 1).trans rfl,(zB a.out 2).trans rfl⟩ (fun r=>?_)
      clear hK K
      refine nP ?_
      exact zAe (by simp only [zy,Act.put,List.setIfInBounds_toArray,List.set_cons_zero,List.set_cons_succ]) (ao (.slice bl ab.length bm,c) _ ⟨r,(rS l.out),(bX a.out),(bX d.out),aj.out,ak.out,b.out,q.out,bA⟩)
    ·skip
     refine zAK ?hg (N:=10) ?hd (cs:=#[.int .i64 0,.int .i64 0,.int .i64 0,.int .i64 0,.int .i64 0]) (t:=105) ?hr ?_;(case hd=>rfl);(case hg=>rfl);(case hr=>first|(go_simp;done)|(go_simp;rfl))
     intro c hg w32 y hb
     replace l:=rB l hb
     have d:=qK (y)
     have aj:=qK (gS hg:w.heap.size≤c)
     have ak:=qK (gS hg:w.heap.size≤c)
     replace HB:=hQ hb
     have b:=qK (nL hg a.out:m≠c)
     have q:=qK (nG hg a.out:c≠m)
     replace a:=bQ a hb
     clear hb y hg
     obtain ⟨a8,a9,ba⟩:=Kd.zq l.out
     (first|subst ba|(injection ba with f1_ f2_ f3_;have f4_:=f1_.symm;have f5_:=f3_.symm;clear f1_ f2_ f3_;subst f4_;subst f5_))
     refine hK.out _ _ ⟨(zB a.out 0).trans rfl,(zB a.out 1).trans rfl,(zB a.out 2).trans rfl⟩ (fun r=>?_)
     clear hK K
     refine nP ?_
     refine oP 4 (some 19) HT_ (fun K hK=>?_)
     refine gO Try.func66 #[.slice a8 ab.length a9] ?_
     with_reducible refine (zl.calls k _ _ ab af _ ?side1 ?side2 A6.out).mono ?_
     (case side1=>exact cR (Kd.zJ l.out).2.2)
     (case side2=>exact (Kd.zJ l.out).2.1)
     rintro e w' ⟨rfl,⟨nd,rfl⟩⟩
     refine ⟨_,rfl,?_⟩
     refine hK.out _ _ ⟨(zB a.out 0).trans rfl,(zB a.out 1).trans rfl,(zB a.out 2).trans rfl⟩ (fun r=>?_)
     clear hK K
     refine nP ?_
     refine oP 5 (some 20) HT_ (fun K hK=>?_)
     refine gO Try.func64 #[.agg #[.slice ac s.length ad,.int .i64 u,.int .i64 v],.int .i64 af] ?_
     with_reducible refine (za.calls k _ _ s u v af aa x ae ah ai _ ?side1 ?side2 A7.out).mono ?_
     (case side1=>repeat (first|exact (Kd.zAZ al.out bA)|(with_reducible refine Kd.zAo ?_ _)|(with_reducible refine Kd.zAl ?_ _)|(with_reducible refine Kd.zA3 ?_)))
     (case side2=>exact HC0_0.out)
     rintro e w34 ⟨rfl,hb⟩
     refine ⟨_,rfl,?_⟩
     replace l:=rB l hb
     replace a:=bQ a hb
     replace d:=bQ d hb
     replace HB:=hQ hb
     (try clear hb)
     (try clear hb2)
     (try clear hk)
     (try clear hi)
     refine hK.out _ _ ⟨(zB a.out 0).trans rfl,(zB a.out 1).trans rfl,(zB a.out 2).trans rfl⟩ (fun r=>?_)
     clear hK K
     refine nP ?_
     exact zAe (by simp only [zy,Act.put,List.setIfInBounds_toArray,List.set_cons_zero,List.set_cons_succ]) (ao (.slice a8 ab.length a9,c) _ ⟨r,(rS l.out),(bX a.out),(bX d.out),aj.out,ak.out,b.out,q.out,bA⟩)
   ·skip
    refine zAK ?hg (N:=10) ?hd (cs:=#[.int .i64 0,.int .i64 0,.int .i64 0,.int .i64 0,.int .i64 0]) (t:=105) ?hr ?_;(case hd=>rfl);(case hg=>rfl);(case hr=>first|(go_simp;done)|(go_simp;rfl))
    intro c hg w31 y hb
    have d:=qK (y)
    have aj:=qK (gS hg:w.heap.size≤c)
    have ak:=qK (gS hg:w.heap.size≤c)
    replace HB:=hQ hb
    have b:=qK (nL hg a.out:m≠c)
    have q:=qK (nG hg a.out:c≠m)
    replace a:=bQ a hb
    clear hb y hg
    refine hK.out _ _ ⟨(zB a.out 0).trans rfl,(zB a.out 1).trans rfl,(zB a.out 2).trans rfl⟩ (fun r=>?_)
    clear hK K
    refine nP ?_
    refine oP 3 (some 18) HT_ (fun K hK=>?_)
    refine gO Try.func62 #[.agg #[.slice ac s.length ad,.int .i64 u,.int .i64 v],.slice A1 l1.length c1] ?_
    with_reducible refine (zm.calls k _ _ s u v _ _ l1 ab _ ?side1 ?side2 ?side3 ?side4 A5.out).mono ?_
    (case side1=>exact cS al.out)
    (case side2=>exact HC0_0.out)
    (case side3=>exact cS HR1.out)
    (case side4=>exact HC1.out)
    rintro e w32 ⟨v162,rfl,ho0,hb⟩
    refine ⟨_,rfl,?_⟩
    have l:=qK (Kd.zAH ho0 bZ)
    replace a:=bQ a hb
    replace d:=bQ d hb
    replace HB:=hQ hb
    (try clear hb)
    (try clear hb2)
    (try clear hk)
    (try clear hi)
    (try clear ho0)
    obtain ⟨a8,a9,ba⟩:=Kd.zq l.out
    (first|subst ba|(injection ba with f1_ f2_ f3_;have f4_:=f1_.symm;have f5_:=f3_.symm;clear f1_ f2_ f3_;subst f4_;subst f5_))
    refine hK.out _ _ ⟨(zB a.out 0).trans rfl,(zB a.out 1).trans rfl,(zB a.out 2).trans rfl⟩ (fun r=>?_)
    clear hK K
    refine nP ?_
    refine oP 4 (some 19) HT_ (fun K hK=>?_)
    refine gO Try.func66 #[.slice a8 ab.length a9] ?_
    with_reducible refine (zl.calls k _ _ ab af _ ?side1 ?side2 A6.out).mono ?_
    (case side1=>exact cR (Kd.zJ l.out).2.2)
    (case side2=>exact (Kd.zJ l.out).2.1)
    rintro e w' ⟨rfl,⟨nd,rfl⟩⟩
    refine ⟨_,rfl,?_⟩
    refine hK.out _ _ ⟨(zB a.out 0).trans rfl,(zB a.out 1).trans rfl,(zB a.out 2).trans rfl⟩ (fun r=>?_)
    clear hK K
    refine nP ?_
    refine oP 5 (some 20) HT_ (fun K hK=>?_)
    refine gO Try.func64 #[.agg #[.slice ac s.length ad,.int .i64 u,.int .i64 v],.int .i64 af] ?_
    with_reducible refine (za.calls k _ _ s u v af aa x ae ah ai _ ?side1 ?side2 A7.out).mono ?_
    (case side1=>repeat (first|exact (Kd.zAZ al.out bA)|(with_reducible refine Kd.zAo ?_ _)|(with_reducible refine Kd.zAl ?_ _)|(with_reducible refine Kd.zA3 ?_)))
    (case side2=>exact HC0_0.out)
    rintro e w34 ⟨rfl,hb⟩
    refine ⟨_,rfl,?_⟩
    replace l:=rB l hb
    replace a:=bQ a hb
    replace d:=bQ d hb
    replace HB:=hQ hb
    (try clear hb)
    (try clear hb2)
    (try clear hk)
    (try clear hi)
    refine hK.out _ _ ⟨(zB a.out 0).trans rfl,(zB a.out 1).trans rfl,(zB a.out 2).trans rfl⟩ (fun r=>?_)
    clear hK K
    refine nP ?_
    exact zAe (by simp only [zy,Act.put,List.setIfInBounds_toArray,List.set_cons_zero,List.set_cons_succ]) (ao (.slice a8 ab.length a9,c) _ ⟨r,(rS l.out),(bX a.out),(bX d.out),aj.out,ak.out,b.out,q.out,bA⟩)
  rintro ⟨v162,c⟩ w35 ⟨hS_,h0_,h1_,h2_,h3_,h4_,h5_,h6_,h7_⟩
  have n0_:zA (Kd.R (Kd.int .i64) 3 w35 w.heap.size (fun _=>True) v162 ab):=⟨h0_⟩
  have n1_:zA (w35.heap[m]? = some (.cells #[.slice ac s.length ad,.int .i64 u,.int .i64 v] 26 (0,0))):=⟨h1_⟩
  have n2_:zA (w35.heap[c]? = some (.cells #[.int .i64 0,.int .i64 0,.int .i64 0,.int .i64 0,.int .i64 0] 105 (0,0))):=⟨h2_⟩
  have n3_:zA (w.heap.size≤c):=⟨h3_⟩
  have n4_:zA (w.heap.size≤c):=⟨h4_⟩
  have n5_:zA (m≠c):=⟨h5_⟩
  have n6_:zA (c≠m):=⟨h6_⟩
  have n7_:zA (Below w.heap.size w w35):=⟨h7_⟩
  clear a
  clear HB
  clear h0_ h1_ h2_ h3_ h4_ h5_ h6_ h7_
  have l:=n0_
  have a:=n1_
  have d:=n2_
  have aj:=n3_
  have ak:=n4_
  have b:=n5_
  have q:=n6_
  have HB:=n7_
  clear n0_ n1_ n2_ n3_ n4_ n5_ n6_ n7_
  have r:w35.cell? ⟨m,0,none⟩=some (.slice ac s.length ad)∧w35.cell? ⟨m,1,none⟩=some (.int .i64 u)∧w35.cell? ⟨m,2,none⟩=some (.int .i64 v):=hS_
  refine zAe (a':=?_) ?_ ?_
  rotate_left
  ·simp only [zy,Act.put,List.setIfInBounds_toArray,List.set_cons_zero,List.set_cons_succ]
   rfl
  refine oP 7 none HT_ (fun K hK=>?_)
  have eo:w35.cell? ⟨c,0,none⟩=some (.int .i64 0):=(zB d.out 0).trans rfl
  have di:=zW d.out 0
  have ce:=b.out
  have cf:=q.out
  have ep:w35.cell? ⟨c,1,none⟩=some (.int .i64 0):=(zB d.out 1).trans rfl
  have dj:=zW d.out 1
  have cg:=b.out
  have ch:=q.out
  have eq:w35.cell? ⟨c,2,none⟩=some (.int .i64 0):=(zB d.out 2).trans rfl
  have dk:=zW d.out 2
  have ci:=b.out
  have cj:=q.out
  have er:w35.cell? ⟨c,3,none⟩=some (.int .i64 0):=(zB d.out 3).trans rfl
  have dl:=zW d.out 3
  have ck:=b.out
  have cl:=q.out
  have es:w35.cell? ⟨c,4,none⟩=some (.int .i64 0):=(zB d.out 4).trans rfl
  have dm:=zW d.out 4
  have cm:=b.out
  have cn:=q.out
  refine zB0 (w1:=?_) (by rfl) rfl ?_ ?_
  rotate_left
  ·go_simp
   rfl
  refine hK.out _ _ ⟨((cell_far (p:=⟨c,_,none⟩) b.out _).trans (((cell_far (p:=⟨c,_,none⟩) b.out _).trans (((cell_far (p:=⟨c,_,none⟩) b.out _).trans (((cell_far (p:=⟨c,_,none⟩) b.out _).trans (((cell_far (p:=⟨c,_,none⟩) b.out _).trans (r.1)))))))))),((cell_far (p:=⟨c,_,none⟩) b.out _).trans (((cell_far (p:=⟨c,_,none⟩) b.out _).trans (((cell_far (p:=⟨c,_,none⟩) b.out _).trans (((cell_far (p:=⟨c,_,none⟩) b.out _).trans (((cell_far (p:=⟨c,_,none⟩) b.out _).trans (r.2.1)))))))))),((cell_far (p:=⟨c,_,none⟩) b.out _).trans (((cell_far (p:=⟨c,_,none⟩) b.out _).trans (((cell_far (p:=⟨c,_,none⟩) b.out _).trans (((cell_far (p:=⟨c,_,none⟩) b.out _).trans (((cell_far (p:=⟨c,_,none⟩) b.out _).trans (r.2.2))))))))))⟩ (fun r=>?_)
  clear hK K
  refine zBZ (zA8 HT_.out (by kernel_rfl)) ?_
  have dn:=q.out
  have dp:=b.out
  obtain ⟨_,_,_,_,_,_,_,_,_,_⟩:=xC5 d.out
  try go_wp2_with (first|((with_reducible refine zH (f:=78) rfl ?_);refine gL (some 23) Try.func78 #[.agg #[.int .i64 aa,.int .i64 x,.int .i64 ae,.int .i64 ah,.int .i64 ai]] ?_;(with_reducible refine (zAM.calls aa x ae ah ai a0 a4 _ A8.out).mono ?_);rintro e w43 ⟨rfl,hb⟩;refine ⟨_,rfl,?_⟩;replace l:=qK (Kd.z8 (rS ((Kd.zR (Kd.zM (p:=⟨c,4,none⟩) (Kd.zM (p:=⟨c,3,none⟩) (Kd.zM (p:=⟨c,2,none⟩) (Kd.zM (p:=⟨c,1,none⟩) (Kd.zM (p:=⟨c,0,none⟩) (Kd.ze l.out d.out (by decide)) (fun _ hk=>hk.2) (.int .i64 aa)) (fun _ hk=>hk.2) (.int .i64 x)) (fun _ hk=>hk.2) (.int .i64 ae)) (fun _ hk=>hk.2) (.int .i64 ah)) (fun _ hk=>hk.2) (.int .i64 ai)) (fun _ h_=>h_.1)))) hb);replace a:=qK (zT (g:=m) (o:=.cells #[.slice ac s.length ad,.int .i64 u,.int .i64 v] 26 (0,0)) (by (repeat with_reducible first|apply zD|apply zF|apply zC);refine zO ?_ b.out _;(repeat with_reducible first|apply zD|apply zF|apply zC);refine zO ?_ b.out _;(repeat with_reducible first|apply zD|apply zF|apply zC);refine zO ?_ b.out _;(repeat with_reducible first|apply zD|apply zF|apply zC);refine zO ?_ b.out _;(repeat with_reducible first|apply zD|apply zF|apply zC);refine zO ?_ b.out _;(repeat with_reducible first|apply zD|apply zF|apply zC);exact a.out) hb);replace d:=qK (zT (g:=c) (o:=.cells #[.int .i64 aa,.int .i64 x,.int .i64 ae,.int .i64 ah,.int .i64 ai] 105 (0,0)) (by (repeat with_reducible first|apply zD|apply zF|apply zC);refine zP (cs:=#[.int .i64 aa,.int .i64 x,.int .i64 ae,.int .i64 ah,.int .i64 0]) ?_ 4 _ rfl;(repeat with_reducible first|apply zD|apply zF|apply zC);refine zP (cs:=#[.int .i64 aa,.int .i64 x,.int .i64 ae,.int .i64 0,.int .i64 0]) ?_ 3 _ rfl;(repeat with_reducible first|apply zD|apply zF|apply zC);refine zP (cs:=#[.int .i64 aa,.int .i64 x,.int .i64 0,.int .i64 0,.int .i64 0]) ?_ 2 _ rfl;(repeat with_reducible first|apply zD|apply zF|apply zC);refine zP (cs:=#[.int .i64 aa,.int .i64 0,.int .i64 0,.int .i64 0,.int .i64 0]) ?_ 1 _ rfl;(repeat with_reducible first|apply zD|apply zF|apply zC);refine zP (cs:=#[.int .i64 0,.int .i64 0,.int .i64 0,.int .i64 0,.int .i64 0]) ?_ 0 _ rfl;(repeat with_reducible first|apply zD|apply zF|apply zC);exact d.out) hb);replace HB:=hQ hb;obtain ⟨_,_,_,_,_,_,_,_,_,_⟩:=xC5 d.out)|((with_reducible refine zH (f:=79) rfl ?_);refine zDu (some 39) rfl rfl Try.func79 (by kernel_rfl) rfl #[.agg #[.int .i64 aa,.int .i64 x,.int .i64 ae,.int .i64 ah,.int .i64 ai],.int .i64 ji9] rfl (by (try simp only [List.map_toArray,List.map_cons,List.map_nil]);first|done|(simp only [av];rfl)|rfl|(simp only [List.length_drop,List.length_take];rfl)) ?_;(with_reducible refine (zAE.calls aa x ae ah ai ji9 az a1 _ A27.out).mono ?_);rintro e w45 ⟨rfl,hb⟩;refine ⟨_,rfl,?_⟩;replace l:=rB l hb;replace a:=bQ a hb;replace d:=bQ d hb;replace HB:=hQ hb)|((with_reducible refine zL (N:=14) rfl ?_);refine bE #[.int .i64 0,.int .i64 0] 24 ?_;intro am hg w46 y hb;replace l:=rB l hb;have ay:=qK (y);have bt:=qK (gS hg:w.heap.size≤am);have bu:=qK (gS hg:w.heap.size≤am);replace HB:=hQ hb;have aq:=qK (nL hg a.out:m≠am);have aw:=qK (nG hg a.out:am≠m);replace a:=bQ a hb;have ar:=qK (nL hg d.out:c≠am);have ax:=qK (nG hg d.out:am≠c);replace d:=bQ d hb;clear hb y hg;have dq:=aw.out;have dr:=aq.out;have dt:=ax.out;have du:=ar.out;obtain ⟨_,_,_,_⟩:=xC2 ay.out))
  go_ret2
  exact ⟨_,by first|rfl|(simp [zAQ,zAP] <;> rfl)|(simp only [← av];first|rfl|(simp [zAQ,zAP] <;> rfl))|(simp [*,zAQ,zAP] <;> rfl),by first|exact Kd.zBW _ _ _ _ _|exact Kd.zCK _ _ _ _ _|exact Kd.zCM _ _ _ _ _|exact Kd.zCL _ _ _ _ _|exact Kd.zCJ _ _ _ _ _,bA⟩
 rw [if_neg c28] at H
 have b1:decide (a3≤az)=false:=decide_eq_false c28
 clear c28
 by_cases c50:a1≤a2
 ·rw [if_pos c50] at H
  have b2:decide (a1≤a2)=true:=decide_eq_true c50
  clear c50
  simp only [Option.some.injEq,Prod.mk.injEq] at H
  obtain ⟨rfl,rfl⟩:=H
  go_enter Try.func48,Try.ntmps48
  try go_wp2_with (first|((with_reducible refine zL (N:=4) rfl ?_);refine bE #[.slice ac s.length ad,.int .i64 u,.int .i64 v] 26 ?_;intro m hg w51 y hb;have a:=qK (y);have bh:=qK (gS hg:w.heap.size≤m);have bi:=qK (gS hg:w.heap.size≤m);replace HB:=hQ hb;clear hb y hg))
  replace a:=qK (zF a.out)
  replace HB:=qK (zx HB.out)
  refine zBH (n:=8) (S:=fun w'=>w'.cell? ⟨m,0,none⟩=some (.slice ac s.length ad)∧w'.cell? ⟨m,1,none⟩=some (.int .i64 u)∧w'.cell? ⟨m,2,none⟩=some (.int .i64 v)) (ds:=[]) #[false,false,false,false,false,false,false,false] (by kernel_rfl) rfl rfl ⟨(zB a.out 0).trans rfl,(zB a.out 1).trans rfl,(zB a.out 2).trans rfl⟩ (fun r=>?_);refine zAj zAO.zC6 zAO.zCQ (fun HT_ HW_=>?_)
  generalize w51.drew=w52 at a HB r ⊢
  refine pP 2 (some 17) HT_ ?_
  refine tP 0 (some 15) HT_ HW_ r ?_
  refine tP 1 (some 16) HT_ HW_ r ?_
  refine zBz (σ:=Value × Nat) 1 #[true,true,true,true,true,true,true,false] (fun s_=>[(18,s_.1),(19,.int .i64 af),(20,.agg #[.int .i64 aa,.int .i64 x,.int .i64 ae,.int .i64 ah,.int .i64 ai]),(10,.pointer (some ⟨s_.2,0,none⟩))]) (fun s_ w'=>(w'.cell? ⟨m,0,none⟩=some (.slice ac s.length ad)∧w'.cell? ⟨m,1,none⟩=some (.int .i64 u)∧w'.cell? ⟨m,2,none⟩=some (.int .i64 v))∧(Kd.R (Kd.int .i64) 3 w' w.heap.size (fun _=>True) s_.1 ab)∧(w'.heap[m]? = some (.cells #[.slice ac s.length ad,.int .i64 u,.int .i64 v] 26 (0,0)))∧(w'.heap[s_.2]? = some (.cells #[.int .i64 0,.int .i64 0,.int .i64 0,.int .i64 0,.int .i64 0] 105 (0,0)))∧(w.heap.size≤s_.2)∧(w.heap.size≤s_.2)∧(m≠s_.2)∧(s_.2≠m)∧(Below w.heap.size w w')) ?_ ?_
  rotate_left
  ·intro ao
   refine zB6 (i:=3) (j:=6) (Ni:=some 18) (Nj:=some 10) #[true,true,true,true,false,false,false,false] #[true,true,true,false,false,false,true,false] rfl rfl rfl rfl (zBG HT_.out (by kernel_rfl)) (by decide) (by decide) (fun K hK=>?_) (fun K hK=>?_)
   ·skip
    refine gO Try.func62 #[.agg #[.slice ac s.length ad,.int .i64 u,.int .i64 v],.slice A1 l1.length c1] ?_
    with_reducible refine (zm.calls k _ _ s u v _ _ l1 ab _ ?side1 ?side2 ?side3 ?side4 A5.out).mono ?_
    (case side1=>exact cS al.out)
    (case side2=>exact HC0_0.out)
    (case side3=>exact cS HR1.out)
    (case side4=>exact HC1.out)
    rintro e w53 ⟨v162,rfl,ho0,hb⟩
    refine ⟨_,rfl,?_⟩
    have l:=qK (Kd.zAH ho0 bZ)
    replace a:=bQ a hb
    replace HB:=hQ hb
    (try clear hb)
    (try clear hb2)
    (try clear hk)
    (try clear hi)
    (try clear ho0)
    obtain ⟨bn,bo,bx⟩:=Kd.zq l.out
    (first|subst bx|(injection bx with f1_ f2_ f3_;have f4_:=f1_.symm;have f5_:=f3_.symm;clear f1_ f2_ f3_;subst f4_;subst f5_))
    refine hK.out _ _ ⟨(zB a.out 0).trans rfl,(zB a.out 1).trans rfl,(zB a.out 2).trans rfl⟩ (fun r=>?_)
    clear hK K
    refine nP ?_
    refine zB6 (i:=4) (j:=6) (Ni:=some 19) (Nj:=some 10) #[true,true,true,true,true,false,false,false] #[true,true,true,true,false,false,true,false] rfl rfl rfl rfl (zBG HT_.out (by kernel_rfl)) (by decide) (by decide) (fun K hK=>?_) (fun K hK=>?_)
    ·skip
     refine gO Try.func66 #[.slice bn ab.length bo] ?_
     with_reducible refine (zl.calls k _ _ ab af _ ?side1 ?side2 A6.out).mono ?_
     (case side1=>exact cR (Kd.zJ l.out).2.2)
     (case side2=>exact (Kd.zJ l.out).2.1)
     rintro e w' ⟨rfl,⟨nd,rfl⟩⟩
     refine ⟨_,rfl,?_⟩
     refine hK.out _ _ ⟨(zB a.out 0).trans rfl,(zB a.out 1).trans rfl,(zB a.out 2).trans rfl⟩ (fun r=>?_)
     clear hK K
     refine nP ?_
     refine zB6 (i:=5) (j:=6) (Ni:=some 20) (Nj:=some 10) #[true,true,true,true,true,true,false,false] #[true,true,true,true,true,false,true,false] rfl rfl rfl rfl (zBG HT_.out (by kernel_rfl)) (by decide) (by decide) (fun K hK=>?_) (fun K hK=>?_)
     ·skip
      refine gO Try.func64 #[.agg #[.slice ac s.length ad,.int .i64 u,.int .i64 v],.int .i64 af] ?_
      with_reducible refine (za.calls k _ _ s u v af aa x ae ah ai _ ?side1 ?side2 A7.out).mono ?_
      (case side1=>repeat (first|exact (Kd.zAZ al.out bA)|(with_reducible refine Kd.zAo ?_ _)|(with_reducible refine Kd.zAl ?_ _)|(with_reducible refine Kd.zA3 ?_)))
      (case side2=>exact HC0_0.out)
      rintro e w55 ⟨rfl,hb⟩
      refine ⟨_,rfl,?_⟩
      replace l:=rB l hb
      replace a:=bQ a hb
      replace HB:=hQ hb
      (try clear hb)
      (try clear hb2)
      (try clear hk)
      (try clear hi)
      refine hK.out _ _ ⟨(zB a.out 0).trans rfl,(zB a.out 1).trans rfl,(zB a.out 2).trans rfl⟩ (fun r=>?_)
      clear hK K
      refine nP ?_
      refine oP 6 (some 10) HT_ (fun K hK=>?_)
      refine zAK ?hg (N:=10) ?hd (cs:=#[.int .i64 0,.int .i64 0,.int .i64 0,.int .i64 0,.int .i64 0]) (t:=105) ?hr ?_;(case hd=>rfl);(case hg=>rfl);(case hr=>first|(go_simp;done)|(go_simp;rfl))
      intro c hg w56 y hb
      replace l:=rB l hb
      have d:=qK (y)
      have aj:=qK (gS hg:w.heap.size≤c)
      have ak:=qK (gS hg:w.heap.size≤c)
      replace HB:=hQ hb
      have b:=qK (nL hg a.out:m≠c)
      have q:=qK (nG hg a.out:c≠m)
      replace a:=bQ a hb
      clear hb y hg
      refine hK.out _ _ ⟨(zB a.out 0).trans rfl,(zB a.out 1).trans rfl,(zB a.out 2).trans rfl⟩ (fun r=>?_)
      clear hK K
      refine nP ?_
      exact zAe (by simp only [zy,Act.put,List.setIfInBounds_toArray,List.set_cons_zero,List.set_cons_succ]) (ao (.slice bn ab.length bo,c) _ ⟨r,(rS l.out),(bX a.out),(bX d.out),aj.out,ak.out,b.out,q.out,bA⟩)
     ·skip
      refine zAK ?hg (N:=10) ?hd (cs:=#[.int .i64 0,.int .i64 0,.int .i64 0,.int .i64 0,.int .i64 0]) (t:=105) ?hr ?_;(case hd=>rfl);(case hg=>rfl);(case hr=>first|(go_simp;done)|(go_simp;rfl))
      intro c hg w55 y hb
      replace l:=rB l hb
      have d:=qK (y)
      have aj:=qK (gS hg:w.heap.size≤c)
      have ak:=qK (gS hg:w.heap.size≤c)
      replace HB:=hQ hb
      have b:=qK (nL hg a.out:m≠c)
      have q:=qK (nG hg a.out:c≠m)
      replace a:=bQ a hb
      clear hb y hg
      refine hK.out _ _ ⟨(zB a.out 0).trans rfl,(zB a.out 1).trans rfl,(zB a.out 2).trans rfl⟩ (fun r=>?_)
      clear hK K
      refine nP ?_
      refine oP 5 (some 20) HT_ (fun K hK=>?_)
      refine gO Try.func64 #[.agg #[.slice ac s.length ad,.int .i64 u,.int .i64 v],.int .i64 af] ?_
      with_reducible refine (za.calls k _ _ s u v af aa x ae ah ai _ ?side1 ?side2 A7.out).mono ?_
      (case side1=>exact cS al.out)
      (case side2=>exact HC0_0.out)
      rintro e w56 ⟨rfl,hb⟩
      refine ⟨_,rfl,?_⟩
      replace l:=rB l hb
      replace a:=bQ a hb
      replace d:=bQ d hb
      replace HB:=hQ hb
      (try clear hb)
      (try clear hb2)
      (try clear hk)
      (try clear hi)
      refine hK.out _ _ ⟨(zB a.out 0).trans rfl,(zB a.out 1).trans rfl,(zB a.out 2).trans rfl⟩ (fun r=>?_)
      clear hK K
      refine nP ?_
      exact zAe (by simp only [zy,Act.put,List.setIfInBounds_toArray,List.set_cons_zero,List.set_cons_succ]) (ao (.slice bn ab.length bo,c) _ ⟨r,(rS l.out),(bX a.out),(bX d.out),aj.out,ak.out,b.out,q.out,bA⟩)
    ·skip
     refine zAK ?hg (N:=10) ?hd (cs:=#[.int .i64 0,.int .i64 0,.int .i64 0,.int .i64 0,.int .i64 0]) (t:=105) ?hr ?_;(case hd=>rfl);(case hg=>rfl);(case hr=>first|(go_simp;done)|(go_simp;rfl))
     intro c hg w54 y hb
     replace l:=rB l hb
     have d:=qK (y)
     have aj:=qK (gS hg:w.heap.size≤c)
     have ak:=qK (gS hg:w.heap.size≤c)
     replace HB:=hQ hb
     have b:=qK (nL hg a.out:m≠c)
     have q:=qK (nG hg a.out:c≠m)
     replace a:=bQ a hb
     clear hb y hg
     obtain ⟨bb,bc,bd⟩:=Kd.zq l.out
     (first|subst bd|(injection bd with f1_ f2_ f3_;have f4_:=f1_.symm;have f5_:=f3_.symm;clear f1_ f2_ f3_;subst f4_;subst f5_))
     refine hK.out _ _ ⟨(zB a.out 0).trans rfl,(zB a.out 1).trans rfl,(zB a.out 2).trans rfl⟩ (fun r=>?_)
     clear hK K
     refine nP ?_
     refine oP 4 (some 19) HT_ (fun K hK=>?_)
     refine gO Try.func66 #[.slice bb ab.length bc] ?_
     with_reducible refine (zl.calls k _ _ ab af _ ?side1 ?side2 A6.out).mono ?_
     (case side1=>exact cR (Kd.zJ l.out).2.2)
     (case side2=>exact (Kd.zJ l.out).2.1)
     rintro e w' ⟨rfl,⟨nd,rfl⟩⟩
     refine ⟨_,rfl,?_⟩
     refine hK.out _ _ ⟨(zB a.out 0).trans rfl,(zB a.out 1).trans rfl,(zB a.out 2).trans rfl⟩ (fun r=>?_)
     clear hK K
     refine nP ?_
     refine oP 5 (some 20) HT_ (fun K hK=>?_)
     refine gO Try.func64 #[.agg #[.slice ac s.length ad,.int .i64 u,.int .i64 v],.int .i64 af] ?_
     with_reducible refine (za.calls k _ _ s u v af aa x ae ah ai _ ?side1 ?side2 A7.out).mono ?_
     (case side1=>repeat (first|exact (Kd.zAZ al.out bA)|(with_reducible refine Kd.zAo ?_ _)|(with_reducible refine Kd.zAl ?_ _)|(with_reducible refine Kd.zA3 ?_)))
     (case side2=>exact HC0_0.out)
     rintro e w56 ⟨rfl,hb⟩
     refine ⟨_,rfl,?_⟩
     replace l:=rB l hb
     replace a:=bQ a hb
     replace d:=bQ d hb
     replace HB:=hQ hb
     (try clear hb)
     (try clear hb2)
     (try clear hk)
     (try clear hi)
     refine hK.out _ _ ⟨(zB a.out 0).trans rfl,(zB a.out 1).trans rfl,(zB a.out 2).trans rfl⟩ (fun r=>?_)
     clear hK K
     refine nP ?_
     exact zAe (by simp only [zy,Act.put,List.setIfInBounds_toArray,List.set_cons_zero,List.set_cons_succ]) (ao (.slice bb ab.length bc,c) _ ⟨r,(rS l.out),(bX a.out),(bX d.out),aj.out,ak.out,b.out,q.out,bA⟩)
   ·skip
    refine zAK ?hg (N:=10) ?hd (cs:=#[.int .i64 0,.int .i64 0,.int .i64 0,.int .i64 0,.int .i64 0]) (t:=105) ?hr ?_;(case hd=>rfl);(case hg=>rfl);(case hr=>first|(go_simp;done)|(go_simp;rfl))
    intro c hg w53 y hb
    have d:=qK (y)
    have aj:=qK (gS hg:w.heap.size≤c)
    have ak:=qK (gS hg:w.heap.size≤c)
    replace HB:=hQ hb
    have b:=qK (nL hg a.out:m≠c)
    have q:=qK (nG hg a.out:c≠m)
    replace a:=bQ a hb
    clear hb y hg
    refine hK.out _ _ ⟨(zB a.out 0).trans rfl,(zB a.out 1).trans rfl,(zB a.out 2).trans rfl⟩ (fun r=>?_)
    clear hK K
    refine nP ?_
    refine oP 3 (some 18) HT_ (fun K hK=>?_)
    refine gO Try.func62 #[.agg #[.slice ac s.length ad,.int .i64 u,.int .i64 v],.slice A1 l1.length c1] ?_
    with_reducible refine (zm.calls k _ _ s u v _ _ l1 ab _ ?side1 ?side2 ?side3 ?side4 A5.out).mono ?_
    (case side1=>exact cS al.out)
    (case side2=>exact HC0_0.out)
    (case side3=>exact cS HR1.out)
    (case side4=>exact HC1.out)
    rintro e w54 ⟨v162,rfl,ho0,hb⟩
    refine ⟨_,rfl,?_⟩
    have l:=qK (Kd.zAH ho0 bZ)
    replace a:=bQ a hb
    replace d:=bQ d hb
    replace HB:=hQ hb
    (try clear hb)
    (try clear hb2)
    (try clear hk)
    (try clear hi)
    (try clear ho0)
    obtain ⟨bb,bc,bd⟩:=Kd.zq l.out
    (first|subst bd|(injection bd with f1_ f2_ f3_;have f4_:=f1_.symm;have f5_:=f3_.symm;clear f1_ f2_ f3_;subst f4_;subst f5_))
    refine hK.out _ _ ⟨(zB a.out 0).trans rfl,(zB a.out 1).trans rfl,(zB a.out 2).trans rfl⟩ (fun r=>?_)
    clear hK K
    refine nP ?_
    refine oP 4 (some 19) HT_ (fun K hK=>?_)
    refine gO Try.func66 #[.slice bb ab.length bc] ?_
    with_reducible refine (zl.calls k _ _ ab af _ ?side1 ?side2 A6.out).mono ?_
    (case side1=>exact cR (Kd.zJ l.out).2.2)
    (case side2=>exact (Kd.zJ l.out).2.1)
    rintro e w' ⟨rfl,⟨nd,rfl⟩⟩
    refine ⟨_,rfl,?_⟩
    refine hK.out _ _ ⟨(zB a.out 0).trans rfl,(zB a.out 1).trans rfl,(zB a.out 2).trans rfl⟩ (fun r=>?_)
    clear hK K
    refine nP ?_
    refine oP 5 (some 20) HT_ (fun K hK=>?_)
    refine gO Try.func64 #[.agg #[.slice ac s.length ad,.int .i64 u,.int .i64 v],.int .i64 af] ?_
    with_reducible refine (za.calls k _ _ s u v af aa x ae ah ai _ ?side1 ?side2 A7.out).mono ?_
    (case side1=>repeat (first|exact (Kd.zAZ al.out bA)|(with_reducible refine Kd.zAo ?_ _)|(with_reducible refine Kd.zAl ?_ _)|(with_reducible refine Kd.zA3 ?_)))
    (case side2=>exact HC0_0.out)
    rintro e w56 ⟨rfl,hb⟩
    refine ⟨_,rfl,?_⟩
    replace l:=rB l hb
    replace a:=bQ a hb
    replace d:=bQ d hb
    replace HB:=hQ hb
    (try clear hb)
    (try clear hb2)
    (try clear hk)
    (try clear hi)
    refine hK.out _ _ ⟨(zB a.out 0).trans rfl,(zB a.out 1).trans rfl,(zB a.out 2).trans rfl⟩ (fun r=>?_)
    clear hK K
    refine nP ?_
    exact zAe (by simp only [zy,Act.put,List.setIfInBounds_toArray,List.set_cons_zero,List.set_cons_succ]) (ao (.slice bb ab.length bc,c) _ ⟨r,(rS l.out),(bX a.out),(bX d.out),aj.out,ak.out,b.out,q.out,bA⟩)
  rintro ⟨v162,c⟩ w57 ⟨hS_,h0_,h1_,h2_,h3_,h4_,h5_,h6_,h7_⟩
  have n0_:zA (Kd.R (Kd.int .i64) 3 w57 w.heap.size (fun _=>True) v162 ab):=⟨h0_⟩
  have n1_:zA (w57.heap[m]? = some (.cells #[.slice ac s.length ad,.int .i64 u,.int .i64 v] 26 (0,0))):=⟨h1_⟩
  have n2_:zA (w57.heap[c]? = some (.cells #[.int .i64 0,.int .i64 0,.int .i64 0,.int .i64 0,.int .i64 0] 105 (0,0))):=⟨h2_⟩
  have n3_:zA (w.heap.size≤c):=⟨h3_⟩
  have n4_:zA (w.heap.size≤c):=⟨h4_⟩
  have n5_:zA (m≠c):=⟨h5_⟩
  have n6_:zA (c≠m):=⟨h6_⟩
  have n7_:zA (Below w.heap.size w w57):=⟨h7_⟩
  clear a
  clear HB
  clear h0_ h1_ h2_ h3_ h4_ h5_ h6_ h7_
  have l:=n0_
  have a:=n1_
  have d:=n2_
  have aj:=n3_
  have ak:=n4_
  have b:=n5_
  have q:=n6_
  have HB:=n7_
  clear n0_ n1_ n2_ n3_ n4_ n5_ n6_ n7_
  have r:w57.cell? ⟨m,0,none⟩=some (.slice ac s.length ad)∧w57.cell? ⟨m,1,none⟩=some (.int .i64 u)∧w57.cell? ⟨m,2,none⟩=some (.int .i64 v):=hS_
  refine zAe (a':=?_) ?_ ?_
  rotate_left
  ·simp only [zy,Act.put,List.setIfInBounds_toArray,List.set_cons_zero,List.set_cons_succ]
   rfl
  refine oP 7 none HT_ (fun K hK=>?_)
  have et:w57.cell? ⟨c,0,none⟩=some (.int .i64 0):=(zB d.out 0).trans rfl
  have dv:=zW d.out 0
  have co:=b.out
  have cp:=q.out
  have eu:w57.cell? ⟨c,1,none⟩=some (.int .i64 0):=(zB d.out 1).trans rfl
  have dw:=zW d.out 1
  have cq:=b.out
  have cr:=q.out
  have ev:w57.cell? ⟨c,2,none⟩=some (.int .i64 0):=(zB d.out 2).trans rfl
  have dx:=zW d.out 2
  have ct:=b.out
  have cu:=q.out
  have ew:w57.cell? ⟨c,3,none⟩=some (.int .i64 0):=(zB d.out 3).trans rfl
  have dy:=zW d.out 3
  have cv:=b.out
  have cw:=q.out
  have ey:w57.cell? ⟨c,4,none⟩=some (.int .i64 0):=(zB d.out 4).trans rfl
  have dz:=zW d.out 4
  have cx:=b.out
  have cy:=q.out
  refine zB0 (w1:=?_) (by rfl) rfl ?_ ?_
  rotate_left
  ·go_simp
   rfl
  refine hK.out _ _ ⟨((cell_far (p:=⟨c,_,none⟩) b.out _).trans (((cell_far (p:=⟨c,_,none⟩) b.out _).trans (((cell_far (p:=⟨c,_,none⟩) b.out _).trans (((cell_far (p:=⟨c,_,none⟩) b.out _).trans (((cell_far (p:=⟨c,_,none⟩) b.out _).trans (r.1)))))))))),((cell_far (p:=⟨c,_,none⟩) b.out _).trans (((cell_far (p:=⟨c,_,none⟩) b.out _).trans (((cell_far (p:=⟨c,_,none⟩) b.out _).trans (((cell_far (p:=⟨c,_,none⟩) b.out _).trans (((cell_far (p:=⟨c,_,none⟩) b.out _).trans (r.2.1)))))))))),((cell_far (p:=⟨c,_,none⟩) b.out _).trans (((cell_far (p:=⟨c,_,none⟩) b.out _).trans (((cell_far (p:=⟨c,_,none⟩) b.out _).trans (((cell_far (p:=⟨c,_,none⟩) b.out _).trans (((cell_far (p:=⟨c,_,none⟩) b.out _).trans (r.2.2))))))))))⟩ (fun r=>?_)
  clear hK K
  refine zBZ (zA8 HT_.out (by kernel_rfl)) ?_
  have d0:=q.out
  have d1:=b.out
  obtain ⟨_,_,_,_,_,_,_,_,_,_⟩:=xC5 d.out
  try go_wp2_with (first|((with_reducible refine zH (f:=78) rfl ?_);refine gL (some 23) Try.func78 #[.agg #[.int .i64 aa,.int .i64 x,.int .i64 ae,.int .i64 ah,.int .i64 ai]] ?_;(with_reducible refine (zAM.calls aa x ae ah ai a0 a4 _ A8.out).mono ?_);rintro e w65 ⟨rfl,hb⟩;refine ⟨_,rfl,?_⟩;replace l:=qK (Kd.z8 (rS ((Kd.zR (Kd.zM (p:=⟨c,4,none⟩) (Kd.zM (p:=⟨c,3,none⟩) (Kd.zM (p:=⟨c,2,none⟩) (Kd.zM (p:=⟨c,1,none⟩) (Kd.zM (p:=⟨c,0,none⟩) (Kd.ze l.out d.out (by decide)) (fun _ hk=>hk.2) (.int .i64 aa)) (fun _ hk=>hk.2) (.int .i64 x)) (fun _ hk=>hk.2) (.int .i64 ae)) (fun _ hk=>hk.2) (.int .i64 ah)) (fun _ hk=>hk.2) (.int .i64 ai)) (fun _ h_=>h_.1)))) hb);replace a:=qK (zT (g:=m) (o:=.cells #[.slice ac s.length ad,.int .i64 u,.int .i64 v] 26 (0,0)) (by (repeat with_reducible first|apply zD|apply zF|apply zC);refine zO ?_ b.out _;(repeat with_reducible first|apply zD|apply zF|apply zC);refine zO ?_ b.out _;(repeat with_reducible first|apply zD|apply zF|apply zC);refine zO ?_ b.out _;(repeat with_reducible first|apply zD|apply zF|apply zC);refine zO ?_ b.out _;(repeat with_reducible first|apply zD|apply zF|apply zC);refine zO ?_ b.out _;(repeat with_reducible first|apply zD|apply zF|apply zC);exact a.out) hb);replace d:=qK (zT (g:=c) (o:=.cells #[.int .i64 aa,.int .i64 x,.int .i64 ae,.int .i64 ah,.int .i64 ai] 105 (0,0)) (by (repeat with_reducible first|apply zD|apply zF|apply zC);refine zP (cs:=#[.int .i64 aa,.int .i64 x,.int .i64 ae,.int .i64 ah,.int .i64 0]) ?_ 4 _ rfl;(repeat with_reducible first|apply zD|apply zF|apply zC);refine zP (cs:=#[.int .i64 aa,.int .i64 x,.int .i64 ae,.int .i64 0,.int .i64 0]) ?_ 3 _ rfl;(repeat with_reducible first|apply zD|apply zF|apply zC);refine zP (cs:=#[.int .i64 aa,.int .i64 x,.int .i64 0,.int .i64 0,.int .i64 0]) ?_ 2 _ rfl;(repeat with_reducible first|apply zD|apply zF|apply zC);refine zP (cs:=#[.int .i64 aa,.int .i64 0,.int .i64 0,.int .i64 0,.int .i64 0]) ?_ 1 _ rfl;(repeat with_reducible first|apply zD|apply zF|apply zC);refine zP (cs:=#[.int .i64 0,.int .i64 0,.int .i64 0,.int .i64 0,.int .i64 0]) ?_ 0 _ rfl;(repeat with_reducible first|apply zD|apply zF|apply zC);exact d.out) hb);replace HB:=hQ hb;obtain ⟨_,_,_,_,_,_,_,_,_,_⟩:=xC5 d.out)|((with_reducible refine zH (f:=79) rfl ?_);refine zDu (some 39) rfl rfl Try.func79 (by kernel_rfl) rfl #[.agg #[.int .i64 aa,.int .i64 x,.int .i64 ae,.int .i64 ah,.int .i64 ai],.int .i64 ji9] rfl (by (try simp only [List.map_toArray,List.map_cons,List.map_nil]);first|done|(simp only [av];rfl)|rfl|(simp only [List.length_drop,List.length_take];rfl)) ?_;(with_reducible refine (zAE.calls aa x ae ah ai ji9 az a1 _ A27.out).mono ?_);rintro e w67 ⟨rfl,hb⟩;refine ⟨_,rfl,?_⟩;replace l:=rB l hb;replace a:=bQ a hb;replace d:=bQ d hb;replace HB:=hQ hb)|((with_reducible refine zL (N:=14) rfl ?_);refine bE #[.int .i64 0,.int .i64 0] 24 ?_;intro am hg w68 y hb;replace l:=rB l hb;have ay:=qK (y);have bt:=qK (gS hg:w.heap.size≤am);have bu:=qK (gS hg:w.heap.size≤am);replace HB:=hQ hb;have aq:=qK (nL hg a.out:m≠am);have aw:=qK (nG hg a.out:am≠m);replace a:=bQ a hb;have ar:=qK (nL hg d.out:c≠am);have ax:=qK (nG hg d.out:am≠c);replace d:=bQ d hb;clear hb y hg;have d2:=aw.out;have d3:=aq.out;have d4:=ax.out;have d5:=ar.out;obtain ⟨_,_,_,_⟩:=xC2 ay.out))
  go_ret2
  exact ⟨_,by first|rfl|(simp [zAQ,zAP] <;> rfl)|(simp only [← av];first|rfl|(simp [zAQ,zAP] <;> rfl))|(simp [*,zAQ,zAP] <;> rfl),by first|exact Kd.zBW _ _ _ _ _|exact Kd.zCK _ _ _ _ _|exact Kd.zCM _ _ _ _ _|exact Kd.zCL _ _ _ _ _|exact Kd.zCJ _ _ _ _ _,bA⟩
 rw [if_neg c50] at H
 have b2:decide (a1≤a2)=false:=decide_eq_false c50
 clear c50
 replace H:=Option.bind_eq_some_iff.mp H
 obtain ⟨au,A720,H⟩:=H
 replace H:(some (au,true))=some (r1,r2):=H
 have A72:=zA.mk A720
 clear A720
 simp only [Option.some.injEq,Prod.mk.injEq] at H
 obtain ⟨rfl,rfl⟩:=H
 go_enter Try.func48,Try.ntmps48
 try go_wp2_with (first|((with_reducible refine zL (N:=4) rfl ?_);refine bE #[.slice ac s.length ad,.int .i64 u,.int .i64 v] 26 ?_;intro m hg w73 y hb;have a:=qK (y);have bh:=qK (gS hg:w.heap.size≤m);have bi:=qK (gS hg:w.heap.size≤m);replace HB:=hQ hb;clear hb y hg))
 replace a:=qK (zF a.out)
 replace HB:=qK (zx HB.out)
 refine zBH (n:=8) (S:=fun w'=>w'.cell? ⟨m,0,none⟩=some (.slice ac s.length ad)∧w'.cell? ⟨m,1,none⟩=some (.int .i64 u)∧w'.cell? ⟨m,2,none⟩=some (.int .i64 v)) (ds:=[]) #[false,false,false,false,false,false,false,false] (by kernel_rfl) rfl rfl ⟨(zB a.out 0).trans rfl,(zB a.out 1).trans rfl,(zB a.out 2).trans rfl⟩ (fun r=>?_);refine zAj zAO.zC6 zAO.zCQ (fun HT_ HW_=>?_)
 generalize w73.drew=w74 at a HB r ⊢
 refine pP 2 (some 17) HT_ ?_
 refine tP 0 (some 15) HT_ HW_ r ?_
 refine tP 1 (some 16) HT_ HW_ r ?_
 refine zBz (σ:=Value × Nat) 1 #[true,true,true,true,true,true,true,false] (fun s_=>[(18,s_.1),(19,.int .i64 af),(20,.agg #[.int .i64 aa,.int .i64 x,.int .i64 ae,.int .i64 ah,.int .i64 ai]),(10,.pointer (some ⟨s_.2,0,none⟩))]) (fun s_ w'=>(w'.cell? ⟨m,0,none⟩=some (.slice ac s.length ad)∧w'.cell? ⟨m,1,none⟩=some (.int .i64 u)∧w'.cell? ⟨m,2,none⟩=some (.int .i64 v))∧(Kd.R (Kd.int .i64) 3 w' w.heap.size (fun _=>True) s_.1 ab)∧(w'.heap[m]? = some (.cells #[.slice ac s.length ad,.int .i64 u,.int .i64 v] 26 (0,0)))∧(w'.heap[s_.2]? = some (.cells #[.int .i64 0,.int .i64 0,.int .i64 0,.int .i64 0,.int .i64 0] 105 (0,0)))∧(w.heap.size≤s_.2)∧(w.heap.size≤s_.2)∧(m≠s_.2)∧(s_.2≠m)∧(Below w.heap.size w w')) ?_ ?_
 rotate_left
 ·intro ao
  refine zB6 (i:=3) (j:=6) (Ni:=some 18) (Nj:=some 10) #[true,true,true,true,false,false,false,false] #[true,true,true,false,false,false,true,false] rfl rfl rfl rfl (zBG HT_.out (by kernel_rfl)) (by decide) (by decide) (fun K hK=>?_) (fun K hK=>?_)
  ·skip
   refine gO Try.func62 #[.agg #[.slice ac s.length ad,.int .i64 u,.int .i64 v],.slice A1 l1.length c1] ?_
   with_reducible refine (zm.calls k _ _ s u v _ _ l1 ab _ ?side1 ?side2 ?side3 ?side4 A5.out).mono ?_
   (case side1=>exact cS al.out)
   (case side2=>exact HC0_0.out)
   (case side3=>exact cS HR1.out)
   (case side4=>exact HC1.out)
   rintro e w75 ⟨v162,rfl,ho0,hb⟩
   refine ⟨_,rfl,?_⟩
   have l:=qK (Kd.zAH ho0 bZ)
   replace a:=bQ a hb
   replace HB:=hQ hb
   (try clear hb)
   (try clear hb2)
   (try clear hk)
   (try clear hi)
   (try clear ho0)
   obtain ⟨bp,bq,bz⟩:=Kd.zq l.out
   (first|subst bz|(injection bz with f1_ f2_ f3_;have f4_:=f1_.symm;have f5_:=f3_.symm;clear f1_ f2_ f3_;subst f4_;subst f5_))
   refine hK.out _ _ ⟨(zB a.out 0).trans rfl,(zB a.out 1).trans rfl,(zB a.out 2).trans rfl⟩ (fun r=>?_)
   clear hK K
   refine nP ?_
   refine zB6 (i:=4) (j:=6) (Ni:=some 19) (Nj:=some 10) #[true,true,true,true,true,false,false,false] #[true,true,true,true,false,false,true,false] rfl rfl rfl rfl (zBG HT_.out (by kernel_rfl)) (by decide) (by decide) (fun K hK=>?_) (fun K hK=>?_)
   ·skip
    refine gO Try.func66 #[.slice bp ab.length bq] ?_
    with_reducible refine (zl.calls k _ _ ab af _ ?side1 ?side2 A6.out).mono ?_
    (case side1=>exact cR (Kd.zJ l.out).2.2)
    (case side2=>exact (Kd.zJ l.out).2.1)
    rintro e w' ⟨rfl,⟨nd,rfl⟩⟩
    refine ⟨_,rfl,?_⟩
    refine hK.out _ _ ⟨(zB a.out 0).trans rfl,(zB a.out 1).trans rfl,(zB a.out 2).trans rfl⟩ (fun r=>?_)
    clear hK K
    refine nP ?_
    refine zB6 (i:=5) (j:=6) (Ni:=some 20) (Nj:=some 10) #[true,true,true,true,true,true,false,false] #[true,true,true,true,true,false,true,false] rfl rfl rfl rfl (zBG HT_.out (by kernel_rfl)) (by decide) (by decide) (fun K hK=>?_) (fun K hK=>?_)
    ·skip
     refine gO Try.func64 #[.agg #[.slice ac s.length ad,.int .i64 u,.int .i64 v],.int .i64 af] ?_
     with_reducible refine (za.calls k _ _ s u v af aa x ae ah ai _ ?side1 ?side2 A7.out).mono ?_
     (case side1=>repeat (first|exact (Kd.zAZ al.out bA)|(with_reducible refine Kd.zAo ?_ _)|(with_reducible refine Kd.zAl ?_ _)|(with_reducible refine Kd.zA3 ?_)))
     (case side2=>exact HC0_0.out)
     rintro e w77 ⟨rfl,hb⟩
     refine ⟨_,rfl,?_⟩
     replace l:=rB l hb
     replace a:=bQ a hb
     replace HB:=hQ hb
     (try clear hb)
     (try clear hb2)
     (try clear hk)
     (try clear hi)
     refine hK.out _ _ ⟨(zB a.out 0).trans rfl,(zB a.out 1).trans rfl,(zB a.out 2).trans rfl⟩ (fun r=>?_)
     clear hK K
     refine nP ?_
     refine oP 6 (some 10) HT_ (fun K hK=>?_)
     refine zAK ?hg (N:=10) ?hd (cs:=#[.int .i64 0,.int .i64 0,.int .i64 0,.int .i64 0,.int .i64 0]) (t:=105) ?hr ?_;(case hd=>rfl);(case hg=>rfl);(case hr=>first|(go_simp;done)|(go_simp;rfl))
     intro c hg w78 y hb
     replace l:=rB l hb
     have d:=qK (y)
     have aj:=qK (gS hg:w.heap.size≤c)
     have ak:=qK (gS hg:w.heap.size≤c)
     replace HB:=hQ hb
     have b:=qK (nL hg a.out:m≠c)
     have q:=qK (nG hg a.out:c≠m)
     replace a:=bQ a hb
     clear hb y hg
     refine hK.out _ _ ⟨(zB a.out 0).trans rfl,(zB a.out 1).trans rfl,(zB a.out 2).trans rfl⟩ (fun r=>?_)
     clear hK K
     refine nP ?_
     exact zAe (by simp only [zy,Act.put,List.setIfInBounds_toArray,List.set_cons_zero,List.set_cons_succ]) (ao (.slice bp ab.length bq,c) _ ⟨r,(rS l.out),(bX a.out),(bX d.out),aj.out,ak.out,b.out,q.out,bA⟩)
    ·skip
     refine zAK ?hg (N:=10) ?hd (cs:=#[.int .i64 0,.int .i64 0,.int .i64 0,.int .i64 0,.int .i64 0]) (t:=105) ?hr ?_;(case hd=>rfl);(case hg=>rfl);(case hr=>first|(go_simp;done)|(go_simp;rfl))
     intro c hg w77 y hb
     replace l:=rB l hb
     have d:=qK (y)
     have aj:=qK (gS hg:w.heap.size≤c)
     have ak:=qK (gS hg:w.heap.size≤c)
     replace HB:=hQ hb
     have b:=qK (nL hg a.out:m≠c)
     have q:=qK (nG hg a.out:c≠m)
     replace a:=bQ a hb
     clear hb y hg
     refine hK.out _ _ ⟨(zB a.out 0).trans rfl,(zB a.out 1).trans rfl,(zB a.out 2).trans rfl⟩ (fun r=>?_)
     clear hK K
     refine nP ?_
     refine oP 5 (some 20) HT_ (fun K hK=>?_)
     refine gO Try.func64 #[.agg #[.slice ac s.length ad,.int .i64 u,.int .i64 v],.int .i64 af] ?_
     with_reducible refine (za.calls k _ _ s u v af aa x ae ah ai _ ?side1 ?side2 A7.out).mono ?_
     (case side1=>exact cS al.out)
     (case side2=>exact HC0_0.out)
     rintro e w78 ⟨rfl,hb⟩
     refine ⟨_,rfl,?_⟩
     replace l:=rB l hb
     replace a:=bQ a hb
     replace d:=bQ d hb
     replace HB:=hQ hb
     (try clear hb)
     (try clear hb2)
     (try clear hk)
     (try clear hi)
     refine hK.out _ _ ⟨(zB a.out 0).trans rfl,(zB a.out 1).trans rfl,(zB a.out 2).trans rfl⟩ (fun r=>?_)
     clear hK K
     refine nP ?_
     exact zAe (by simp only [zy,Act.put,List.setIfInBounds_toArray,List.set_cons_zero,List.set_cons_succ]) (ao (.slice bp ab.length bq,c) _ ⟨r,(rS l.out),(bX a.out),(bX d.out),aj.out,ak.out,b.out,q.out,bA⟩)
   ·skip
    refine zAK ?hg (N:=10) ?hd (cs:=#[.int .i64 0,.int .i64 0,.int .i64 0,.int .i64 0,.int .i64 0]) (t:=105) ?hr ?_;(case hd=>rfl);(case hg=>rfl);(case hr=>first|(go_simp;done)|(go_simp;rfl))
    intro c hg w76 y hb
    replace l:=rB l hb
    have d:=qK (y)
    have aj:=qK (gS hg:w.heap.size≤c)
    have ak:=qK (gS hg:w.heap.size≤c)
    replace HB:=hQ hb
    have b:=qK (nL hg a.out:m≠c)
    have q:=qK (nG hg a.out:c≠m)
    replace a:=bQ a hb
    clear hb y hg
    obtain ⟨be,bf,bg⟩:=Kd.zq l.out
    (first|subst bg|(injection bg with f1_ f2_ f3_;have f4_:=f1_.symm;have f5_:=f3_.symm;clear f1_ f2_ f3_;subst f4_;subst f5_))
    refine hK.out _ _ ⟨(zB a.out 0).trans rfl,(zB a.out 1).trans rfl,(zB a.out 2).trans rfl⟩ (fun r=>?_)
    clear hK K
    refine nP ?_
    refine oP 4 (some 19) HT_ (fun K hK=>?_)
    refine gO Try.func66 #[.slice be ab.length bf] ?_
    with_reducible refine (zl.calls k _ _ ab af _ ?side1 ?side2 A6.out).mono ?_
    (case side1=>exact cR (Kd.zJ l.out).2.2)
    (case side2=>exact (Kd.zJ l.out).2.1)
    rintro e w' ⟨rfl,⟨nd,rfl⟩⟩
    refine ⟨_,rfl,?_⟩
    refine hK.out _ _ ⟨(zB a.out 0).trans rfl,(zB a.out 1).trans rfl,(zB a.out 2).trans rfl⟩ (fun r=>?_)
    clear hK K
    refine nP ?_
    refine oP 5 (some 20) HT_ (fun K hK=>?_)
    refine gO Try.func64 #[.agg #[.slice ac s.length ad,.int .i64 u,.int .i64 v],.int .i64 af] ?_
    with_reducible refine (za.calls k _ _ s u v af aa x ae ah ai _ ?side1 ?side2 A7.out).mono ?_
    (case side1=>repeat (first|exact (Kd.zAZ al.out bA)|(with_reducible refine Kd.zAo ?_ _)|(with_reducible refine Kd.zAl ?_ _)|(with_reducible refine Kd.zA3 ?_)))
    (case side2=>exact HC0_0.out)
    rintro e w78 ⟨rfl,hb⟩
    refine ⟨_,rfl,?_⟩
    replace l:=rB l hb
    replace a:=bQ a hb
    replace d:=bQ d hb
    replace HB:=hQ hb
    (try clear hb)
    (try clear hb2)
    (try clear hk)
    (try clear hi)
    refine hK.out _ _ ⟨(zB a.out 0).trans rfl,(zB a.out 1).trans rfl,(zB a.out 2).trans rfl⟩ (fun r=>?_)
    clear hK K
    refine nP ?_
    exact zAe (by simp only [zy,Act.put,List.setIfInBounds_toArray,List.set_cons_zero,List.set_cons_succ]) (ao (.slice be ab.length bf,c) _ ⟨r,(rS l.out),(bX a.out),(bX d.out),aj.out,ak.out,b.out,q.out,bA⟩)
  ·skip
   refine zAK ?hg (N:=10) ?hd (cs:=#[.int .i64 0,.int .i64 0,.int .i64 0,.int .i64 0,.int .i64 0]) (t:=105) ?hr ?_;(case hd=>rfl);(case hg=>rfl);(case hr=>first|(go_simp;done)|(go_simp;rfl))
   intro c hg w75 y hb
   have d:=qK (y)
   have aj:=qK (gS hg:w.heap.size≤c)
   have ak:=qK (gS hg:w.heap.size≤c)
   replace HB:=hQ hb
   have b:=qK (nL hg a.out:m≠c)
   have q:=qK (nG hg a.out:c≠m)
   replace a:=bQ a hb
   clear hb y hg
   refine hK.out _ _ ⟨(zB a.out 0).trans rfl,(zB a.out 1).trans rfl,(zB a.out 2).trans rfl⟩ (fun r=>?_)
   clear hK K
   refine nP ?_
   refine oP 3 (some 18) HT_ (fun K hK=>?_)
   refine gO Try.func62 #[.agg #[.slice ac s.length ad,.int .i64 u,.int .i64 v],.slice A1 l1.length c1] ?_
   with_reducible refine (zm.calls k _ _ s u v _ _ l1 ab _ ?side1 ?side2 ?side3 ?side4 A5.out).mono ?_
   (case side1=>exact cS al.out)
   (case side2=>exact HC0_0.out)
   (case side3=>exact cS HR1.out)
   (case side4=>exact HC1.out)
   rintro e w76 ⟨v162,rfl,ho0,hb⟩
   refine ⟨_,rfl,?_⟩
   have l:=qK (Kd.zAH ho0 bZ)
   replace a:=bQ a hb
   replace d:=bQ d hb
   replace HB:=hQ hb
   (try clear hb)
   (try clear hb2)
   (try clear hk)
   (try clear hi)
   (try clear ho0)
   obtain ⟨be,bf,bg⟩:=Kd.zq l.out
   (first|subst bg|(injection bg with f1_ f2_ f3_;have f4_:=f1_.symm;have f5_:=f3_.symm;clear f1_ f2_ f3_;subst f4_;subst f5_))
   refine hK.out _ _ ⟨(zB a.out 0).trans rfl,(zB a.out 1).trans rfl,(zB a.out 2).trans rfl⟩ (fun r=>?_)
   clear hK K
   refine nP ?_
   refine oP 4 (some 19) HT_ (fun K hK=>?_)
   refine gO Try.func66 #[.slice be ab.length bf] ?_
   with_reducible refine (zl.calls k _ _ ab af _ ?side1 ?side2 A6.out).mono ?_
   (case side1=>exact cR (Kd.zJ l.out).2.2)
   (case side2=>exact (Kd.zJ l.out).2.1)
   rintro e w' ⟨rfl,⟨nd,rfl⟩⟩
   refine ⟨_,rfl,?_⟩
   refine hK.out _ _ ⟨(zB a.out 0).trans rfl,(zB a.out 1).trans rfl,(zB a.out 2).trans rfl⟩ (fun r=>?_)
   clear hK K
   refine nP ?_
   refine oP 5 (some 20) HT_ (fun K hK=>?_)
   refine gO Try.func64 #[.agg #[.slice ac s.length ad,.int .i64 u,.int .i64 v],.int .i64 af] ?_
   with_reducible refine (za.calls k _ _ s u v af aa x ae ah ai _ ?side1 ?side2 A7.out).mono ?_
   (case side1=>repeat (first|exact (Kd.zAZ al.out bA)|(with_reducible refine Kd.zAo ?_ _)|(with_reducible refine Kd.zAl ?_ _)|(with_reducible refine Kd.zA3 ?_)))
   (case side2=>exact HC0_0.out)
   rintro e w78 ⟨rfl,hb⟩
   refine ⟨_,rfl,?_⟩
   replace l:=rB l hb
   replace a:=bQ a hb
   replace d:=bQ d hb
   replace HB:=hQ hb
   (try clear hb)
   (try clear hb2)
   (try clear hk)
   (try clear hi)
   refine hK.out _ _ ⟨(zB a.out 0).trans rfl,(zB a.out 1).trans rfl,(zB a.out 2).trans rfl⟩ (fun r=>?_)
   clear hK K
   refine nP ?_
   exact zAe (by simp only [zy,Act.put,List.setIfInBounds_toArray,List.set_cons_zero,List.set_cons_succ]) (ao (.slice be ab.length bf,c) _ ⟨r,(rS l.out),(bX a.out),(bX d.out),aj.out,ak.out,b.out,q.out,bA⟩)
 rintro ⟨v162,c⟩ w79 ⟨hS_,h0_,h1_,h2_,h3_,h4_,h5_,h6_,h7_⟩
 have n0_:zA (Kd.R (Kd.int .i64) 3 w79 w.heap.size (fun _=>True) v162 ab):=⟨h0_⟩
 have n1_:zA (w79.heap[m]? = some (.cells #[.slice ac s.length ad,.int .i64 u,.int .i64 v] 26 (0,0))):=⟨h1_⟩
 have n2_:zA (w79.heap[c]? = some (.cells #[.int .i64 0,.int .i64 0,.int .i64 0,.int .i64 0,.int .i64 0] 105 (0,0))):=⟨h2_⟩
 have n3_:zA (w.heap.size≤c):=⟨h3_⟩
 have n4_:zA (w.heap.size≤c):=⟨h4_⟩
 have n5_:zA (m≠c):=⟨h5_⟩
 have n6_:zA (c≠m):=⟨h6_⟩
 have n7_:zA (Below w.heap.size w w79):=⟨h7_⟩
 clear a
 clear HB
 clear h0_ h1_ h2_ h3_ h4_ h5_ h6_ h7_
 have l:=n0_
 have a:=n1_
 have d:=n2_
 have aj:=n3_
 have ak:=n4_
 have b:=n5_
 have q:=n6_
 have HB:=n7_
 clear n0_ n1_ n2_ n3_ n4_ n5_ n6_ n7_
 have r:w79.cell? ⟨m,0,none⟩=some (.slice ac s.length ad)∧w79.cell? ⟨m,1,none⟩=some (.int .i64 u)∧w79.cell? ⟨m,2,none⟩=some (.int .i64 v):=hS_
 refine zAe (a':=?_) ?_ ?_
 rotate_left
 ·simp only [zy,Act.put,List.setIfInBounds_toArray,List.set_cons_zero,List.set_cons_succ]
  rfl
 refine oP 7 none HT_ (fun K hK=>?_)
 have ez:w79.cell? ⟨c,0,none⟩=some (.int .i64 0):=(zB d.out 0).trans rfl
 have d6:=zW d.out 0
 have cz:=b.out
 have c0:=q.out
 have e0:w79.cell? ⟨c,1,none⟩=some (.int .i64 0):=(zB d.out 1).trans rfl
 have d7:=zW d.out 1
 have c2:=b.out
 have c3:=q.out
 have e1:w79.cell? ⟨c,2,none⟩=some (.int .i64 0):=(zB d.out 2).trans rfl
 have d8:=zW d.out 2
 have c4:=b.out
 have c5:=q.out
 have e2:w79.cell? ⟨c,3,none⟩=some (.int .i64 0):=(zB d.out 3).trans rfl
 have d9:=zW d.out 3
 have c6:=b.out
 have c7:=q.out
 have e3:w79.cell? ⟨c,4,none⟩=some (.int .i64 0):=(zB d.out 4).trans rfl
 have ea:=zW d.out 4
 have c8:=b.out
 have c9:=q.out
 refine zB0 (w1:=?_) (by rfl) rfl ?_ ?_
 rotate_left
 ·go_simp
  rfl
 refine hK.out _ _ ⟨((cell_far (p:=⟨c,_,none⟩) b.out _).trans (((cell_far (p:=⟨c,_,none⟩) b.out _).trans (((cell_far (p:=⟨c,_,none⟩) b.out _).trans (((cell_far (p:=⟨c,_,none⟩) b.out _).trans (((cell_far (p:=⟨c,_,none⟩) b.out _).trans (r.1)))))))))),((cell_far (p:=⟨c,_,none⟩) b.out _).trans (((cell_far (p:=⟨c,_,none⟩) b.out _).trans (((cell_far (p:=⟨c,_,none⟩) b.out _).trans (((cell_far (p:=⟨c,_,none⟩) b.out _).trans (((cell_far (p:=⟨c,_,none⟩) b.out _).trans (r.2.1)))))))))),((cell_far (p:=⟨c,_,none⟩) b.out _).trans (((cell_far (p:=⟨c,_,none⟩) b.out _).trans (((cell_far (p:=⟨c,_,none⟩) b.out _).trans (((cell_far (p:=⟨c,_,none⟩) b.out _).trans (((cell_far (p:=⟨c,_,none⟩) b.out _).trans (r.2.2))))))))))⟩ (fun r=>?_)
 clear hK K
 refine zBZ (zA8 HT_.out (by kernel_rfl)) ?_
 have eb:=q.out
 have ec:=b.out
 obtain ⟨_,_,_,_,_,_,_,_,_,_⟩:=xC5 d.out
 try go_wp2_with (first|((with_reducible refine zH (f:=78) rfl ?_);refine gL (some 23) Try.func78 #[.agg #[.int .i64 aa,.int .i64 x,.int .i64 ae,.int .i64 ah,.int .i64 ai]] ?_;(with_reducible refine (zAM.calls aa x ae ah ai a0 a4 _ A8.out).mono ?_);rintro e w87 ⟨rfl,hb⟩;refine ⟨_,rfl,?_⟩;replace l:=qK (Kd.z8 (rS ((Kd.zR (Kd.zM (p:=⟨c,4,none⟩) (Kd.zM (p:=⟨c,3,none⟩) (Kd.zM (p:=⟨c,2,none⟩) (Kd.zM (p:=⟨c,1,none⟩) (Kd.zM (p:=⟨c,0,none⟩) (Kd.ze l.out d.out (by decide)) (fun _ hk=>hk.2) (.int .i64 aa)) (fun _ hk=>hk.2) (.int .i64 x)) (fun _ hk=>hk.2) (.int .i64 ae)) (fun _ hk=>hk.2) (.int .i64 ah)) (fun _ hk=>hk.2) (.int .i64 ai)) (fun _ h_=>h_.1)))) hb);replace a:=qK (zT (g:=m) (o:=.cells #[.slice ac s.length ad,.int .i64 u,.int .i64 v] 26 (0,0)) (by (repeat with_reducible first|apply zD|apply zF|apply zC);refine zO ?_ b.out _;(repeat with_reducible first|apply zD|apply zF|apply zC);refine zO ?_ b.out _;(repeat with_reducible first|apply zD|apply zF|apply zC);refine zO ?_ b.out _;(repeat with_reducible first|apply zD|apply zF|apply zC);refine zO ?_ b.out _;(repeat with_reducible first|apply zD|apply zF|apply zC);refine zO ?_ b.out _;(repeat with_reducible first|apply zD|apply zF|apply zC);exact a.out) hb);replace d:=qK (zT (g:=c) (o:=.cells #[.int .i64 aa,.int .i64 x,.int .i64 ae,.int .i64 ah,.int .i64 ai] 105 (0,0)) (by (repeat with_reducible first|apply zD|apply zF|apply zC);refine zP (cs:=#[.int .i64 aa,.int .i64 x,.int .i64 ae,.int .i64 ah,.int .i64 0]) ?_ 4 _ rfl;(repeat with_reducible first|apply zD|apply zF|apply zC);refine zP (cs:=#[.int .i64 aa,.int .i64 x,.int .i64 ae,.int .i64 0,.int .i64 0]) ?_ 3 _ rfl;(repeat with_reducible first|apply zD|apply zF|apply zC);refine zP (cs:=#[.int .i64 aa,.int .i64 x,.int .i64 0,.int .i64 0,.int .i64 0]) ?_ 2 _ rfl;(repeat with_reducible first|apply zD|apply zF|apply zC);refine zP (cs:=#[.int .i64 aa,.int .i64 0,.int .i64 0,.int .i64 0,.int .i64 0]) ?_ 1 _ rfl;(repeat with_reducible first|apply zD|apply zF|apply zC);refine zP (cs:=#[.int .i64 0,.int .i64 0,.int .i64 0,.int .i64 0,.int .i64 0]) ?_ 0 _ rfl;(repeat with_reducible first|apply zD|apply zF|apply zC);exact d.out) hb);replace HB:=hQ hb;obtain ⟨_,_,_,_,_,_,_,_,_,_⟩:=xC5 d.out)|((with_reducible refine zH (f:=79) rfl ?_);refine zDu (some 39) rfl rfl Try.func79 (by kernel_rfl) rfl #[.agg #[.int .i64 aa,.int .i64 x,.int .i64 ae,.int .i64 ah,.int .i64 ai],.int .i64 ji9] rfl (by (try simp only [List.map_toArray,List.map_cons,List.map_nil]);first|done|(simp only [av];rfl)|rfl|(simp only [List.length_drop,List.length_take];rfl)) ?_;(with_reducible refine (zAE.calls aa x ae ah ai ji9 az a1 _ A27.out).mono ?_);rintro e w89 ⟨rfl,hb⟩;refine ⟨_,rfl,?_⟩;replace l:=rB l hb;replace a:=bQ a hb;replace d:=bQ d hb;replace HB:=hQ hb)|((with_reducible refine zL (N:=14) rfl ?_);refine bE #[.int .i64 0,.int .i64 0] 24 ?_;intro am hg w90 y hb;replace l:=rB l hb;have ay:=qK (y);have bt:=qK (gS hg:w.heap.size≤am);have bu:=qK (gS hg:w.heap.size≤am);replace HB:=hQ hb;have aq:=qK (nL hg a.out:m≠am);have aw:=qK (nG hg a.out:am≠m);replace a:=bQ a hb;have ar:=qK (nL hg d.out:c≠am);have ax:=qK (nG hg d.out:am≠c);replace d:=bQ d hb;clear hb y hg;have ed:=aw.out;have ee:=aq.out;have ef:=ax.out;have eg:=ar.out;obtain ⟨_,_,_,_⟩:=xC2 ay.out;obtain ⟨_,_,_,_,_,_⟩:=xC3 a.out)|((with_reducible refine zH (f:=71) rfl ?_);refine zDu (some 53) rfl rfl Try.func71 (by kernel_rfl) rfl #[.agg #[.slice ac s.length ad,.int .i64 u,.int .i64 v],.slice A1 l1.length c1,.int .i64 ji9] rfl (by (try simp only [List.map_toArray,List.map_cons,List.map_nil]);first|done|(simp only [av];rfl)|rfl|(simp only [List.length_drop,List.length_take];rfl)) ?_;(with_reducible refine (zw.calls k _ _ s u v _ _ l1 ji9 au _ ?side1 ?side2 ?side3 ?side4 A72.out).mono ?_);(case side1=>exact Kd.zAZ al.out bA);(case side2=>exact HC0_0.out);(case side3=>exact Kd.zAZ HR1.out bA);(case side4=>exact HC1.out);rintro e w95 ⟨v177,rfl,ho0,hb⟩;refine ⟨_,rfl,?_⟩;have b3:=qK (Kd.zAH (Kd.zg ho0 (Kd.zz (rS ((Kd.zR (Kd.zM (p:=⟨am,1,none⟩) (Kd.zM (p:=⟨am,0,none⟩) (Kd.ze l.out ay.out (by decide)) (fun _ hk=>hk.2) (.int .i64 az)) (fun _ hk=>hk.2) (.int .i64 a1)) (fun _ h_=>h_.1)))))) bZ);replace l:=qK (Kd.zQ (rS ((Kd.zR (Kd.zM (p:=⟨am,1,none⟩) (Kd.zM (p:=⟨am,0,none⟩) (Kd.ze l.out ay.out (by decide)) (fun _ hk=>hk.2) (.int .i64 az)) (fun _ hk=>hk.2) (.int .i64 a1)) (fun _ h_=>h_.1)))) (Kd.zV ho0) hb);replace a:=qK (zT (g:=m) (o:=.cells #[.slice ac s.length ad,.int .i64 u,.int .i64 v] 26 (0,0)) (by (repeat with_reducible first|apply zD|apply zF|apply zC);refine zO ?_ aq.out _;(repeat with_reducible first|apply zD|apply zF|apply zC);refine zO ?_ aq.out _;(repeat with_reducible first|apply zD|apply zF|apply zC);exact a.out) hb);replace d:=qK (zT (g:=c) (o:=.cells #[.int .i64 aa,.int .i64 x,.int .i64 ae,.int .i64 ah,.int .i64 ai] 105 (0,0)) (by (repeat with_reducible first|apply zD|apply zF|apply zC);refine zO ?_ ar.out _;(repeat with_reducible first|apply zD|apply zF|apply zC);refine zO ?_ ar.out _;(repeat with_reducible first|apply zD|apply zF|apply zC);exact d.out) hb);replace ay:=qK (zT (g:=am) (o:=.cells #[.int .i64 az,.int .i64 a1] 24 (0,0)) (by (repeat with_reducible first|apply zD|apply zF|apply zC);refine zP (cs:=#[.int .i64 az,.int .i64 0]) ?_ 1 _ rfl;(repeat with_reducible first|apply zD|apply zF|apply zC);refine zP (cs:=#[.int .i64 0,.int .i64 0]) ?_ 0 _ rfl;(repeat with_reducible first|apply zD|apply zF|apply zC);exact ay.out) hb);replace HB:=hQ hb))
 go_ret2
 exact ⟨_,by first|rfl|(simp [zAQ,zAP] <;> rfl)|(simp only [← av];first|rfl|(simp [zAQ,zAP] <;> rfl))|(simp [*,zAQ,zAP] <;> rfl),by (with_reducible repeat (first|apply Kd.zAp|apply Kd.zAn|apply Kd.zAv));exact Kd.zR b3.out (fun _ hk=>trivial),bA⟩
end Go.Proofs.Ythimaecnpkcmeaa.K
