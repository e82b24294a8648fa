/- Contracts of Go functions and lemmas for them: each theorem states what one function returns and what it leaves of memory; its conditions stand in its statement. -/
import Derived.Test.YthimaecnpkcmeaaB12
import Derived.Test.YthimaecnpkcmeaaB3
import Derived.Test.YthimaecnpkcmeaaB4
import Derived.Test.YthimaecnpkcmeaaB5
import Derived.Test.YthimaecnpkcmeaaB9
set_option linter.unusedVariables false
set_option linter.unusedSimpArgs false
namespace Go.Proofs.Ythimaecnpkcmeaa.K
open Go.RowKit Go.Proofs.YthimaecnpkcmeaaW.PrintWords Go.Proofs.YthimaecnpkcmeaaW.PrintLast Go.Proofs.YthimaecnpkcmeaaW.PrintMore
attribute [local go_sem] zAX zAW zAg zAf zAF zAG zAU zAV   -- for this text's walks alone
set_option linter.unusedVariables false
set_option linter.unusedSimpArgs false
def zCU.f (k:Nat) (a:List (S50)) (c:Int) (d:Int) (a1:Int):Option (Int × Int × Int):=(zK.f k a c d).bind fun e=>(if e=0 then ((zk.f a1 0 (wrap64 ((a.length:Int) - 1))).bind fun g=>(if g=true then ((zAs.f k a c d a1).bind fun b=>(some (b.1,b.2,0))) else (some (0,0,1)))) else (some (0,0,e)))
set_option maxHeartbeats 8000000 in
set_option maxRecDepth 100000 in
theorem zCU.calls (k:Nat) (q:Option Addr) (r:Nat) (b:List (S50)) (i:Int) (j:Int) (a1:Int) (r1:Int) (r2:Int) (r3:Int) (w:World) (x:Kd.C k50 w q b.length b) (y:b.length≤r) (h:zCU.f k b i j a1=some (r1,r2,r3)) :
 Calls Try.prog 32 #[.agg #[.slice q b.length r,.int .i64 i,.int .i64 j],.int .i64 a1] w fun e w'=>e= .returned (.tuple #[.agg #[.int .i64 r1,.int .i64 r2],.int .i64 r3])∧Below w.heap.size w w':=by
 have am:=Try.underlying26
 have an:=Try.underlying24
 have t:=zA.mk x
 have HC0_0:=zA.mk y
 clear x y
 have HB:=zA.mk (Below.refl w.heap.size w)
 have H:((zK.f k b i j).bind fun n=>(if n=0 then ((zk.f a1 0 (wrap64 ((b.length:Int) - 1))).bind fun s=>(if s=true then ((zAs.f k b i j a1).bind fun m=>(some (m.1,m.2,0))) else (some (0,0,1)))) else (some (0,0,n))))=some (r1,r2,r3):=h
 clear h
 replace H:=Option.bind_eq_some_iff.mp H
 obtain ⟨n,A30,H⟩:=H
 replace H:(if n=0 then ((zk.f a1 0 (wrap64 ((b.length:Int) - 1))).bind fun s=>(if s=true then ((zAs.f k b i j a1).bind fun m=>(some (m.1,m.2,0))) else (some (0,0,1)))) else (some (0,0,n)))=some (r1,r2,r3):=H
 have A3:=zA.mk A30
 clear A30
 by_cases c4:n=0
 rotate_left
 ·rw [if_neg c4] at H
  have ae:(n == 0)=false:=beq_eq_false_iff_ne.mpr c4
  have af:(n != 0)=true:=bne_iff_ne.mpr c4
  simp only [Option.some.injEq,Prod.mk.injEq] at H
  obtain ⟨rfl,rfl,rfl⟩:=H
  go_enter Try.func32,Try.ntmps32
  go_wp2_with (first|((with_reducible refine zL (N:=2) rfl ?_);refine bE #[.slice q b.length r,.int .i64 i,.int .i64 j] 26 ?_;intro g hg w24 l hb;have a:=qK (l);have aa:=qK (gS hg:w.heap.size≤g);have ab:=qK (gS hg:w.heap.size≤g);replace HB:=hQ hb;clear hb l hg)|((with_reducible refine zL (N:=4) rfl ?_);refine bE #[.int .i64 0,.int .i64 0] 24 ?_;intro d hg w25 l hb;have c:=qK (l);have ac:=qK (gS hg:w.heap.size≤d);have ad:=qK (gS hg:w.heap.size≤d);replace HB:=hQ hb;have o:=qK (nL hg a.out:g≠d);have p:=qK (nG hg a.out:d≠g);replace a:=bQ a hb;clear hb l hg;have ag:=o.out;have ah:=p.out;obtain ⟨_,_,_,_,_,_⟩:=xC3 a.out)|((with_reducible refine zH (f:=45) rfl ?_);refine gL (some 8) Try.func45 #[.agg #[.slice q b.length r,.int .i64 i,.int .i64 j]] ?_;(with_reducible refine (zK.calls k _ _ b i j n _ ?side1 ?side2 A3.out).mono ?_);(case side1=>exact cS t.out);(case side2=>exact HC0_0.out);rintro e w28 ⟨rfl,hb⟩;refine ⟨_,rfl,?_⟩;replace a:=bQ a hb;replace c:=bQ c hb;replace HB:=hQ hb;obtain ⟨_,_,_,_⟩:=xC2 c.out))
  refine bodyPost_ret (zBd rfl _ _ d 24 #[.int .i64 0,.int .i64 0] (0,0) _ rfl (by (repeat with_reducible first|apply zD|apply zF|apply zC);refine zP (cs:=#[.int .i64 0,.int .i64 0]) ?_ 1 _ rfl;(repeat with_reducible first|apply zD|apply zF|apply zC);refine zP (cs:=#[.int .i64 0,.int .i64 0]) ?_ 0 _ rfl;(repeat with_reducible first|apply zD|apply zF|apply zC);exact c.out) Try.underlying24 rfl (by kernel_rfl)) rfl ?_
  exact ⟨eA,bA⟩
 rw [if_pos c4] at H
 have ae:(n == 0)=true:=beq_iff_eq.mpr c4
 have af:(n != 0)=false:=bne_eq_false_iff_eq.mpr c4
 clear c4
 replace H:=Option.bind_eq_some_iff.mp H
 obtain ⟨s,A50,H⟩:=H
 replace H:(if s=true then ((zAs.f k b i j a1).bind fun m=>(some (m.1,m.2,0))) else (some (0,0,1)))=some (r1,r2,r3):=H
 have A5:=zA.mk A50
 clear A50
 by_cases c6:s=true
 rotate_left
 ·replace c6:=Bool.eq_false_iff.mpr c6
  subst c6
  have H1:(some (0,0,1))=some (r1,r2,r3):=by rw [if_neg (show ¬ (false=true) by decide)] at H;exact H
  clear H
  have H:=H1
  clear H1
  simp only [Option.some.injEq,Prod.mk.injEq] at H
  obtain ⟨rfl,rfl,rfl⟩:=H
  go_enter Try.func32,Try.ntmps32
  go_wp2_with (first|((with_reducible refine zL (N:=2) rfl ?_);refine bE #[.slice q b.length r,.int .i64 i,.int .i64 j] 26 ?_;intro g hg w17 l hb;have a:=qK (l);have aa:=qK (gS hg:w.heap.size≤g);have ab:=qK (gS hg:w.heap.size≤g);replace HB:=hQ hb;clear hb l hg)|((with_reducible refine zL (N:=4) rfl ?_);refine bE #[.int .i64 0,.int .i64 0] 24 ?_;intro d hg w18 l hb;have c:=qK (l);have ac:=qK (gS hg:w.heap.size≤d);have ad:=qK (gS hg:w.heap.size≤d);replace HB:=hQ hb;have o:=qK (nL hg a.out:g≠d);have p:=qK (nG hg a.out:d≠g);replace a:=bQ a hb;clear hb l hg;have ai:=o.out;have aj:=p.out;obtain ⟨_,_,_,_,_,_⟩:=xC3 a.out)|((with_reducible refine zH (f:=45) rfl ?_);refine gL (some 8) Try.func45 #[.agg #[.slice q b.length r,.int .i64 i,.int .i64 j]] ?_;(with_reducible refine (zK.calls k _ _ b i j n _ ?side1 ?side2 A3.out).mono ?_);(case side1=>exact cS t.out);(case side2=>exact HC0_0.out);rintro e w21 ⟨rfl,hb⟩;refine ⟨_,rfl,?_⟩;replace a:=bQ a hb;replace c:=bQ c hb;replace HB:=hQ hb;obtain ⟨_,_,_,_,_,_⟩:=xC3 a.out)|((with_reducible refine zH (f:=52) rfl ?_);refine gL (some 18) Try.func52 #[.int .i64 a1,.int .i64 0,.int .i64 (wrap64 ((b.length:Int) - 1))] ?_;(with_reducible refine (zk.calls a1 0 (wrap64 ((b.length:Int) - 1)) false _ A5.out).mono ?_);rintro e w' ⟨rfl,⟨nd,rfl⟩⟩;refine ⟨_,rfl,?_⟩;(try (rw [zDo w21];generalize hq_:World.drewN w21 _=w21;have n0_:zA (w21.heap[g]? = some (.cells #[.slice q b.length r,.int .i64 i,.int .i64 j] 26 (0,0))):=⟨by rw [← hq_];exact (bX a.out)⟩;have n1_:zA (w21.heap[d]? = some (.cells #[.int .i64 0,.int .i64 0] 24 (0,0))):=⟨by rw [← hq_];exact (bX c.out)⟩;have n2_:zA (Below w.heap.size w w21):=⟨by rw [← hq_];exact bA⟩;clear a c HB hq_;have a:=n0_;have c:=n1_;have HB:=n2_;clear n0_ n1_ n2_));obtain ⟨_,_,_,_⟩:=xC2 c.out))
  refine bodyPost_ret (zBd rfl _ _ d 24 #[.int .i64 0,.int .i64 0] (0,0) _ rfl (by (repeat with_reducible first|apply zD|apply zF|apply zC);refine zP (cs:=#[.int .i64 0,.int .i64 0]) ?_ 1 _ rfl;(repeat with_reducible first|apply zD|apply zF|apply zC);refine zP (cs:=#[.int .i64 0,.int .i64 0]) ?_ 0 _ rfl;(repeat with_reducible first|apply zD|apply zF|apply zC);exact c.out) Try.underlying24 rfl (by kernel_rfl)) rfl ?_
  exact ⟨eA,bA⟩
 subst c6
 have H1:((zAs.f k b i j a1).bind fun m=>(some (m.1,m.2,0)))=some (r1,r2,r3):=by rw [if_pos rfl] at H;exact H
 clear H
 have H:=H1
 clear H1
 replace H:=Option.bind_eq_some_iff.mp H
 obtain ⟨⟨u,v⟩,A70,H⟩:=H
 replace H:(some (u,v,0))=some (r1,r2,r3):=H
 have A7:=zA.mk A70
 clear A70
 simp only [Option.some.injEq,Prod.mk.injEq] at H
 obtain ⟨rfl,rfl,rfl⟩:=H
 go_enter Try.func32,Try.ntmps32
 go_wp2_with (first|((with_reducible refine zL (N:=2) rfl ?_);refine bE #[.slice q b.length r,.int .i64 i,.int .i64 j] 26 ?_;intro g hg w8 l hb;have a:=qK (l);have aa:=qK (gS hg:w.heap.size≤g);have ab:=qK (gS hg:w.heap.size≤g);replace HB:=hQ hb;clear hb l hg)|((with_reducible refine zL (N:=4) rfl ?_);refine bE #[.int .i64 0,.int .i64 0] 24 ?_;intro d hg w9 l hb;have c:=qK (l);have ac:=qK (gS hg:w.heap.size≤d);have ad:=qK (gS hg:w.heap.size≤d);replace HB:=hQ hb;have o:=qK (nL hg a.out:g≠d);have p:=qK (nG hg a.out:d≠g);replace a:=bQ a hb;clear hb l hg;have ak:=o.out;have al:=p.out;obtain ⟨_,_,_,_,_,_⟩:=xC3 a.out)|((with_reducible refine zH (f:=45) rfl ?_);refine gL (some 8) Try.func45 #[.agg #[.slice q b.length r,.int .i64 i,.int .i64 j]] ?_;(with_reducible refine (zK.calls k _ _ b i j n _ ?side1 ?side2 A3.out).mono ?_);(case side1=>exact cS t.out);(case side2=>exact HC0_0.out);rintro e w12 ⟨rfl,hb⟩;refine ⟨_,rfl,?_⟩;replace a:=bQ a hb;replace c:=bQ c hb;replace HB:=hQ hb;obtain ⟨_,_,_,_,_,_⟩:=xC3 a.out)|((with_reducible refine zH (f:=52) rfl ?_);refine gL (some 18) Try.func52 #[.int .i64 a1,.int .i64 0,.int .i64 (wrap64 ((b.length:Int) - 1))] ?_;(with_reducible refine (zk.calls a1 0 (wrap64 ((b.length:Int) - 1)) true _ A5.out).mono ?_);rintro e w' ⟨rfl,⟨nd,rfl⟩⟩;refine ⟨_,rfl,?_⟩;(try (rw [zDo w12];generalize hq_:World.drewN w12 _=w12;have n0_:zA (w12.heap[g]? = some (.cells #[.slice q b.length r,.int .i64 i,.int .i64 j] 26 (0,0))):=⟨by rw [← hq_];exact (bX a.out)⟩;have n1_:zA (w12.heap[d]? = some (.cells #[.int .i64 0,.int .i64 0] 24 (0,0))):=⟨by rw [← hq_];exact (bX c.out)⟩;have n2_:zA (Below w.heap.size w w12):=⟨by rw [← hq_];exact bA⟩;clear a c HB hq_;have a:=n0_;have c:=n1_;have HB:=n2_;clear n0_ n1_ n2_));obtain ⟨_,_,_,_,_,_⟩:=xC3 a.out)|((with_reducible refine zH (f:=70) rfl ?_);refine gL (some 23) Try.func70 #[.agg #[.slice q b.length r,.int .i64 i,.int .i64 j],.int .i64 a1] ?_;(with_reducible refine (zAs.calls k _ _ b i j a1 u v _ ?side1 ?side2 A7.out).mono ?_);(case side1=>exact cS t.out);(case side2=>exact HC0_0.out);rintro e w15 ⟨rfl,hb⟩;refine ⟨_,rfl,?_⟩;replace a:=bQ a hb;replace c:=bQ c hb;replace HB:=hQ hb;obtain ⟨_,_,_,_⟩:=xC2 c.out))
 refine bodyPost_ret (zBd rfl _ _ d 24 #[.int .i64 u,.int .i64 v] (0,0) _ rfl (by (repeat with_reducible first|apply zD|apply zF|apply zC);refine zP (cs:=#[.int .i64 u,.int .i64 0]) ?_ 1 _ rfl;(repeat with_reducible first|apply zD|apply zF|apply zC);refine zP (cs:=#[.int .i64 0,.int .i64 0]) ?_ 0 _ rfl;(repeat with_reducible first|apply zD|apply zF|apply zC);exact c.out) Try.underlying24 rfl (by kernel_rfl)) rfl ?_
 exact ⟨eA,bA⟩
def zAY.l0:Nat→Int→List Int→Int→Int→List (S50)→Int→Int→Option (Int)
 | 0,_,_,_,_,_,_,_=>none
 | k+1,x6,x21,x22,x23,a,b,c=>if x23 < x22 then (if 0≤x23 then (if x23 < (x21.length:Int) then (if x23 < (a.length:Int) then ((zk.f (rd x21 x23) ((zG a x23).f0.f0) ((zG a x23).f0.f1)).bind fun d=>(if d=true then (zAY.l0 k (wrap64 (x6+(rd x21 x23))) x21 x22 (wrap64 (x23+1)) a b c) else (some 80))) else (none)) else (none)) else (none)) else ((zk.f x6 b c).bind fun e=>(if e=true then (some 0) else (some 80)))
def zAY.f (k:Nat) (a:List (S50)) (b:Int) (c:Int) (l1:List Int):Option (Int):=(zK.f k a b c).bind fun d=>(if d=0 then (if (l1.length:Int)=(a.length:Int) then (zAY.l0 k 0 l1 (l1.length:Int) 0 a b c) else (some 80)) else (some d))
set_option maxHeartbeats 8000000 in
set_option maxRecDepth 100000 in
theorem zAY.calls (k:Nat) (v:Option Addr) (x:Nat) (b:List (S50)) (d:Int) (g:Int) (A1:Option Addr) (c1:Nat) (l1:List Int) (r:Int) (w:World) (ag:Kd.C k50 w v b.length b) (ah:b.length≤x) (hr1:Kd.C (Kd.int .i64) w A1 l1.length l1) (hc1:l1.length≤c1) (h:zAY.f k b d g l1=some r) :
 Calls Try.prog 35 #[.agg #[.slice v b.length x,.int .i64 d,.int .i64 g],.slice A1 l1.length c1] w fun e w'=>e= .returned (.int .i64 r)∧Below w.heap.size w w':=by
 have bh:=Try.underlying26
 have bi:=Try.underlying24
 have ae:=zA.mk ag
 have HC0_0:=zA.mk ah
 clear ag ah
 have HR1:=zA.mk hr1
 have HC1:=zA.mk hc1
 clear hr1 hc1
 have HB:=zA.mk (Below.refl w.heap.size w)
 have H:((zK.f k b d g).bind fun l=>(if l=0 then (if (l1.length:Int)=(b.length:Int) then (zAY.l0 k 0 l1 (l1.length:Int) 0 b d g) else (some 80)) else (some l)))=some r:=h
 clear h
 replace H:=Option.bind_eq_some_iff.mp H
 obtain ⟨l,A30,H⟩:=H
 replace H:(if l=0 then (if (l1.length:Int)=(b.length:Int) then (zAY.l0 k 0 l1 (l1.length:Int) 0 b d g) else (some 80)) else (some l))=some r:=H
 have A3:=zA.mk A30
 clear A30
 by_cases c4:l=0
 rotate_left
 ·rw [if_neg c4] at H
  have ak:(l == 0)=false:=beq_eq_false_iff_ne.mpr c4
  have al:(l != 0)=true:=bne_iff_ne.mpr c4
  obtain rfl:=Option.some.inj H
  go_enter Try.func35,Try.ntmps35
  go_wp2_with (first|((with_reducible refine zL (N:=2) rfl ?_);refine bE #[.slice v b.length x,.int .i64 d,.int .i64 g] 26 ?_;intro i hg w32 j hb;have c:=qK (j);have ai:=qK (gS hg:w.heap.size≤i);have aj:=qK (gS hg:w.heap.size≤i);replace HB:=hQ hb;clear hb j hg;obtain ⟨_,_,_,_,_,_⟩:=xC3 c.out)|((with_reducible refine zH (f:=45) rfl ?_);refine gL (some 11) Try.func45 #[.agg #[.slice v b.length x,.int .i64 d,.int .i64 g]] ?_;(with_reducible refine (zK.calls k _ _ b d g l _ ?side1 ?side2 A3.out).mono ?_);(case side1=>exact cS ae.out);(case side2=>exact HC0_0.out);rintro e w34 ⟨rfl,hb⟩;refine ⟨_,rfl,?_⟩;replace c:=bQ c hb;replace HB:=hQ hb))
  go_ret
  exact ⟨eA,bA⟩
 rw [if_pos c4] at H
 have ak:(l == 0)=true:=beq_iff_eq.mpr c4
 have al:(l != 0)=false:=bne_eq_false_iff_eq.mpr c4
 clear c4
 by_cases c5:(l1.length:Int)=(b.length:Int)
 rotate_left
 ·rw [if_neg c5] at H
  have am:((l1.length:Int) == (b.length:Int))=false:=beq_eq_false_iff_ne.mpr c5
  have an:((l1.length:Int) != (b.length:Int))=true:=bne_iff_ne.mpr c5
  have ao:(l1.length == b.length)=false:=by first|simpa using c5|(simp at c5 ⊢;omega)
  obtain rfl:=Option.some.inj H
  go_enter Try.func35,Try.ntmps35
  go_wp2_with (first|((with_reducible refine zL (N:=2) rfl ?_);refine bE #[.slice v b.length x,.int .i64 d,.int .i64 g] 26 ?_;intro i hg w28 j hb;have c:=qK (j);have ai:=qK (gS hg:w.heap.size≤i);have aj:=qK (gS hg:w.heap.size≤i);replace HB:=hQ hb;clear hb j hg;obtain ⟨_,_,_,_,_,_⟩:=xC3 c.out)|((with_reducible refine zH (f:=45) rfl ?_);refine gL (some 11) Try.func45 #[.agg #[.slice v b.length x,.int .i64 d,.int .i64 g]] ?_;(with_reducible refine (zK.calls k _ _ b d g l _ ?side1 ?side2 A3.out).mono ?_);(case side1=>exact cS ae.out);(case side2=>exact HC0_0.out);rintro e w30 ⟨rfl,hb⟩;refine ⟨_,rfl,?_⟩;replace c:=bQ c hb;replace HB:=hQ hb;obtain ⟨_,_,_,_,_,_⟩:=xC3 c.out))
  go_ret
  exact ⟨eA,bA⟩
 rw [if_pos c5] at H
 have am:((l1.length:Int) == (b.length:Int))=true:=beq_iff_eq.mpr c5
 have an:((l1.length:Int) != (b.length:Int))=false:=bne_eq_false_iff_eq.mpr c5
 have ao:(l1.length == b.length)=true:=by first|simpa using c5|(simp at c5 ⊢;omega)
 clear c5
 have H':=zA.mk H
 clear H
 go_enter Try.func35,Try.ntmps35
 go_wp2_with (first|((with_reducible refine zL (N:=2) rfl ?_);refine bE #[.slice v b.length x,.int .i64 d,.int .i64 g] 26 ?_;intro i hg w6 j hb;have c:=qK (j);have ai:=qK (gS hg:w.heap.size≤i);have aj:=qK (gS hg:w.heap.size≤i);replace HB:=hQ hb;clear hb j hg;obtain ⟨ap,aq,ar,au,av,aw⟩:=xC3 c.out)|((with_reducible refine zH (f:=45) rfl ?_);refine gL (some 11) Try.func45 #[.agg #[.slice v b.length x,.int .i64 d,.int .i64 g]] ?_;(with_reducible refine (zK.calls k _ _ b d g l _ ?side1 ?side2 A3.out).mono ?_);(case side1=>exact cS ae.out);(case side2=>exact HC0_0.out);rintro e w8 ⟨rfl,hb⟩;refine ⟨_,rfl,?_⟩;replace c:=bQ c hb;replace HB:=hQ hb;obtain ⟨ax,ay,az,a0,a1,a2⟩:=xC3 c.out))
 go_loopg [6,23] k (fun kq v6 v23 w'=>∃ (o:Int) (a:Int),v6= .int .i64 o∧v23= .int .i64 a∧zA (zAY.l0 kq o l1 (l1.length:Int) a b d g=some r)∧zA (kq≤k)∧zA (w'.heap[i]? = some (.cells #[(.slice v b.length x),.int .i64 d,.int .i64 g] 26 (0,0)))∧zA (Below w.heap.size w w'))
 case atStart=>exact ⟨(0),(0),sA,sA,H',⟨Nat.le_refl _⟩,⟨by (repeat with_reducible first|apply zD|apply zF|apply zC);exact c.out⟩,⟨bA⟩⟩
 case round =>
  clear H'
  try clear c1
  try clear p2
  try clear c3
  try clear c4
  try clear ak
  try clear al
  try clear c5
  try clear am
  try clear an
  try clear ao
  try clear ap
  try clear aq
  try clear ar
  try clear ax
  try clear ay
  try clear az
  try clear au
  try clear av
  try clear aw
  try clear a0
  try clear a1
  try clear a2
  obtain ⟨o,a,rfl,rfl,HA,HK1,c,HB⟩:=hrel
  cases gk with
  | zero=>exact absurd HA.out (by simp [zAY.l0])
  | succ k1 =>
   have H:=HA.out
   clear HA
   simp only [zAY.l0] at H
   by_cases c10:a < (l1.length:Int)
   rotate_left
   ·rw [if_neg c10] at H
    have a5:decide (a < (l1.length:Int))=false:=decide_eq_false c10
    clear c10
    replace H:=Option.bind_eq_some_iff.mp H
    obtain ⟨a3,A240,H⟩:=H
    replace H:(if a3=true then (some 0) else (some 80))=some r:=H
    have A24:=zA.mk A240
    clear A240
    by_cases c25:a3=true
    ·subst c25
     have H1:(some 0)=some r:=by rw [if_pos rfl] at H;exact H
     clear H
     have H:=H1
     clear H1
     obtain rfl:=Option.some.inj H
     obtain ⟨_,_,_,_,_,_⟩:=xC3 c.out
     go_wp2_with (first|((with_reducible refine zH (f:=52) rfl ?_);refine gL (some 52) Try.func52 #[.int .i64 o,.int .i64 d,.int .i64 g] ?_;(with_reducible refine (zk.calls o d g true _ A24.out).mono ?_);rintro e w' ⟨rfl,⟨nd,rfl⟩⟩;refine ⟨_,rfl,?_⟩))
     go_ret
     exact ⟨eA,bA⟩
    replace c25:=Bool.eq_false_iff.mpr c25
    subst c25
    have H1:(some 80)=some r:=by rw [if_neg (show ¬ (false=true) by decide)] at H;exact H
    clear H
    have H:=H1
    clear H1
    obtain rfl:=Option.some.inj H
    obtain ⟨_,_,_,_,_,_⟩:=xC3 c.out
    go_wp2_with (first|((with_reducible refine zH (f:=52) rfl ?_);refine gL (some 52) Try.func52 #[.int .i64 o,.int .i64 d,.int .i64 g] ?_;(with_reducible refine (zk.calls o d g false _ A24.out).mono ?_);rintro e w' ⟨rfl,⟨nd,rfl⟩⟩;refine ⟨_,rfl,?_⟩))
    go_ret
    exact ⟨eA,bA⟩
   rw [if_pos c10] at H
   have a5:decide (a < (l1.length:Int))=true:=decide_eq_true c10
   clear c10
   by_cases c11:0≤a
   rotate_left
   ·rw [if_neg c11] at H
    exact absurd H (by simp)
   rw [if_pos c11] at H
   have ba:decide (0≤a)=true:=decide_eq_true c11
   clear c11
   by_cases c12:a < (l1.length:Int)
   rotate_left
   ·rw [if_neg c12] at H
    exact absurd H (by simp)
   rw [if_pos c12] at H
   have bb:decide (a < (l1.length:Int))=true:=decide_eq_true c12
   clear c12
   by_cases c13:a < (b.length:Int)
   rotate_left
   ·rw [if_neg c13] at H
    exact absurd H (by simp)
   rw [if_pos c13] at H
   have bc:decide (a < (b.length:Int))=true:=decide_eq_true c13
   clear c13
   replace H:=Option.bind_eq_some_iff.mp H
   obtain ⟨a4,A140,H⟩:=H
   replace H:(if a4=true then (zAY.l0 k1 (wrap64 (o+(rd l1 a))) l1 (l1.length:Int) (wrap64 (a+1)) b d g) else (some 80))=some r:=H
   have A14:=zA.mk A140
   clear A140
   by_cases c15:a4=true
   rotate_left
   ·replace c15:=Bool.eq_false_iff.mpr c15
    subst c15
    have H1:(some 80)=some r:=by rw [if_neg (show ¬ (false=true) by decide)] at H;exact H
    clear H
    have H:=H1
    clear H1
    obtain rfl:=Option.some.inj H
    have aa:0≤(a:Int):=dA
    have ab:a < (l1.length:Int):=dA
    obtain ⟨a6,e300,p⟩:=Kd.zAh HR1.out a aa ab
    cases e300
    replace p:=hC HB.out p
    replace aa:=eq_true aa
    replace ab:=eq_true ab
    obtain ⟨_,_,_,_,_,_⟩:=xC3 c.out
    have ac:0≤(a:Int):=dA
    have ad:a < (b.length:Int):=dA
    obtain ⟨a7,e301,q,s,t,u⟩:=zA9 ae.out a ac ad
    cases e301
    replace q:=hC HB.out q
    replace s:=hC HB.out s
    replace t:=hC HB.out t
    replace u:=hC HB.out u
    replace ac:=eq_true ac
    replace ad:=eq_true ad
    go_wp2_with (first|((with_reducible refine zL (N:=9) rfl ?_);refine bE #[.int .i64 0,.int .i64 0] 24 ?_;intro n hg w21 j hb;have af:=qK (j);have a8:=qK (gS hg:w.heap.size≤n);have a9:=qK (gS hg:w.heap.size≤n);replace HB:=hQ hb;have m:=qK (nL hg c.out:i≠n);have y:=qK (nG hg c.out:n≠i);replace c:=bQ c hb;clear hb j hg;have bd:=y.out;have be:=m.out;obtain ⟨_,_,_,_⟩:=xC2 af.out)|((with_reducible refine zH (f:=52) rfl ?_);refine gL (some 39) Try.func52 #[.int .i64 (rd l1 a),.int .i64 ((zG b a).f0.f0),.int .i64 ((zG b a).f0.f1)] ?_;(with_reducible refine (zk.calls (rd l1 a) ((zG b a).f0.f0) ((zG b a).f0.f1) false _ A14.out).mono ?_);rintro e w' ⟨rfl,⟨nd,rfl⟩⟩;refine ⟨_,rfl,?_⟩))
    go_ret
    exact ⟨eA,bA⟩
   subst c15
   have H1:(zAY.l0 k1 (wrap64 (o+(rd l1 a))) l1 (l1.length:Int) (wrap64 (a+1)) b d g)=some r:=by rw [if_pos rfl] at H;exact H
   clear H
   have H:=H1
   clear H1
   have H':=zA.mk H
   clear H
   have aa:0≤(a:Int):=dA
   have ab:a < (l1.length:Int):=dA
   obtain ⟨a6,e300,p⟩:=Kd.zAh HR1.out a aa ab
   cases e300
   replace p:=hC HB.out p
   replace aa:=eq_true aa
   replace ab:=eq_true ab
   obtain ⟨_,_,_,_,_,_⟩:=xC3 c.out
   have ac:0≤(a:Int):=dA
   have ad:a < (b.length:Int):=dA
   obtain ⟨a7,e301,q,s,t,u⟩:=zA9 ae.out a ac ad
   cases e301
   replace q:=hC HB.out q
   replace s:=hC HB.out s
   replace t:=hC HB.out t
   replace u:=hC HB.out u
   replace ac:=eq_true ac
   replace ad:=eq_true ad
   go_wp2_with (first|((with_reducible refine zL (N:=9) rfl ?_);refine bE #[.int .i64 0,.int .i64 0] 24 ?_;intro n hg w17 j hb;have af:=qK (j);have a8:=qK (gS hg:w.heap.size≤n);have a9:=qK (gS hg:w.heap.size≤n);replace HB:=hQ hb;have m:=qK (nL hg c.out:i≠n);have y:=qK (nG hg c.out:n≠i);replace c:=bQ c hb;clear hb j hg;have bf:=y.out;have bg:=m.out;obtain ⟨_,_,_,_⟩:=xC2 af.out)|((with_reducible refine zH (f:=52) rfl ?_);refine gL (some 39) Try.func52 #[.int .i64 (rd l1 a),.int .i64 ((zG b a).f0.f0),.int .i64 ((zG b a).f0.f1)] ?_;(with_reducible refine (zk.calls (rd l1 a) ((zG b a).f0.f0) ((zG b a).f0.f1) true _ A14.out).mono ?_);rintro e w' ⟨rfl,⟨nd,rfl⟩⟩;refine ⟨_,rfl,?_⟩))
   go_roundg k1
   case measure=>have:=HK1.out;omega
   case rel=>exact ⟨(wrap64 (o+(rd l1 a))),(wrap64 (a+1)),sA,sA,H',⟨by have:=HK1.out;omega⟩,⟨by (repeat with_reducible first|apply zD|apply zF|apply zC);refine zO ?_ m.out _;(repeat with_reducible first|apply zD|apply zF|apply zC);refine zO ?_ m.out _;(repeat with_reducible first|apply zD|apply zF|apply zC);exact c.out⟩,⟨bA⟩⟩
def zAr.f (a0:Int) (a1:Int):Option ((List (S50)) × Int × Int):=some ((([(⟨(⟨0,100⟩:S24),5,10⟩:S50),(⟨(⟨0,50⟩:S24),2,20⟩:S50)]:List (S50))),a0,a1)
set_option maxHeartbeats 8000000 in
set_option maxRecDepth 100000 in
theorem zAr.calls (a0:Int) (a1:Int) (r1:List (S50)) (r2:Int) (r3:Int) (w:World) (h:zAr.f a0 a1=some (r1,r2,r3)) :
 Calls Try.prog 37 #[.int .i64 a0,.int .i64 a1] w fun e w'=>∃ v0_:Value,e= .returned (.agg #[v0_,.int .i64 r2,.int .i64 r3])∧Kd.R k50 50 w' w.heap.size (fun _=>True) v0_ r1∧Below w.heap.size w w':=by
 have t:=Try.underlying26
 have u:=Try.underlying24
 have v:=Try.underlying50
 have HB:=zA.mk (Below.refl w.heap.size w)
 have H:(some ((([(⟨(⟨0,100⟩:S24),5,10⟩:S50),(⟨(⟨0,50⟩:S24),2,20⟩:S50)]:List (S50))),a0,a1))=some (r1,r2,r3):=h
 clear h
 obtain ⟨d,b⟩ : ∃ y_:List (S50),y_=(([(⟨(⟨0,100⟩:S24),5,10⟩:S50),(⟨(⟨0,50⟩:S24),2,20⟩:S50)]:List (S50))):=⟨_,rfl⟩
 replace H:(some (d,a0,a1))=some (r1,r2,r3):=by first|(rw [b];with_reducible exact H)|(have H2_:=(Option.bind_some _ _).symm.trans H;rw [b];with_reducible exact H2_)|(have H2_:=(Option.bind_some _ _).symm.trans H;with_reducible exact H2_)|with_reducible exact H|(rw [b];exact H)|exact H
 have g:=zA.mk b
 clear b
 simp only [Option.some.injEq,Prod.mk.injEq] at H
 obtain ⟨rfl,rfl,rfl⟩:=H
 go_enter Try.func37,Try.ntmps37
 go_wp2_with (first|((with_reducible refine zL (N:=4) rfl ?_);refine bE #[.slice none 0 0,.int .i64 0,.int .i64 0] 26 ?_;intro a hg w3 j hb;have c:=qK (j);have r:=qK (gS hg:w.heap.size≤a);have s:=qK (gS hg:w.heap.size≤a);replace HB:=hQ hb;clear hb j hg)|((with_reducible refine zL (N:=9) rfl ?_);refine Kd.zBw k50 _ 50 ?hg (N:=9) ?hd (xs:=([(⟨(⟨0,100⟩:S24),5,10⟩:S50),(⟨(⟨0,50⟩:S24),2,20⟩:S50)]:List (S50))) (inner:=[.int .i64 0,.int .i64 100,.int .i64 5,.int .i64 10,.int .i64 0,.int .i64 50,.int .i64 2,.int .i64 20]) (ok:=fun _=>True) (okp:=fun _=>True) ?hr ?hp (fun _ hk=>hk) trivial (Below.refl _ _) (Nat.le_refl _) (by simp) ?_;(case hd=>rfl);(case hg=>rfl);(case hr=>exact rA);(case hp=>exact (zAI.c4 (show Kd.M k50 _ _ _ (⟨(⟨0,100⟩:S24),5,10⟩:S50) [.int .i64 0,.int .i64 100,.int .i64 5,.int .i64 10] from (zDe _ _ _ (⟨(⟨0,100⟩:S24),5,10⟩:S50) )) (zAI.c4 (show Kd.M k50 _ _ _ (⟨(⟨0,50⟩:S24),2,20⟩:S50) [.int .i64 0,.int .i64 50,.int .i64 2,.int .i64 20] from (zDe _ _ _ (⟨(⟨0,50⟩:S24),2,20⟩:S50) )) (zAI.none _ _))));intro v307 w4 ho5 hb hg_ hnew_;clear hg_ hnew_;(first|rw [← g.out] at ho5|(simp only [Int.reduceToNat] at ho5;rw [← g.out] at ho5));have i:=qK (Kd.zAH ho5 bZ);replace c:=bQ c hb;replace HB:=hQ hb;clear hb ho5;obtain ⟨Ao6,co6,eo6⟩:=Kd.zq i.out;subst eo6;obtain ⟨k,l,m,n,o,q⟩:=xC3 c.out))
 refine bodyPost_ret (results_cell_row rfl _ _ a 26 #[.slice Ao6 d.length co6,.int .i64 a0,.int .i64 a1] (0,0) _ rfl (by (repeat with_reducible first|apply zD|apply zF|apply zC);refine zP (cs:=#[.slice Ao6 d.length co6,.int .i64 a0,.int .i64 0]) ?_ 2 _ rfl;(repeat with_reducible first|apply zD|apply zF|apply zC);refine zP (cs:=#[.slice Ao6 d.length co6,.int .i64 0,.int .i64 0]) ?_ 1 _ rfl;(repeat with_reducible first|apply zD|apply zF|apply zC);refine zP (cs:=#[.slice none 0 0,.int .i64 0,.int .i64 0]) ?_ 0 _ rfl;(repeat with_reducible first|apply zD|apply zF|apply zC);exact c.out) Try.underlying26 rfl (by kernel_rfl)) rfl ?_
 exact ⟨_,eA,by (with_reducible repeat (first|apply Kd.zAp|apply Kd.zAn|apply Kd.zAv));exact Kd.zR (Kd.zM (p:=⟨a,2,none⟩) (Kd.zM (p:=⟨a,1,none⟩) (Kd.zM (p:=⟨a,0,none⟩) (Kd.ze i.out c.out (by decide)) (fun _ hk=>hk.2) (.slice Ao6 d.length co6)) (fun _ hk=>hk.2) (.int .i64 a0)) (fun _ hk=>hk.2) (.int .i64 a1)) (fun _ hk=>trivial),bA⟩
def zAw.f (k:Nat) (b:List (S50)) (c:Int) (d:Int) (l1:List Int):Option (List Int × Int):=(zi.f k b c d l1).bind fun e=>(if e=0 then ((zm.f k b c d l1).bind fun h=>((zl.f k h).bind fun i=>((za.f k b c d i).bind fun a=>((zS.f k a.1 a.2.1 a.2.2.1 a.2.2.2.1 a.2.2.2.2).bind fun g=>((zw.f k b c d l1 g.2).bind fun j=>(some (j,0))))))) else (some (([]:List Int),e)))
def zAw.T4:Bool × List (List Nat × List Nat):=(true,[([],[]),([],[]),([],[]),([1,2],[1,2]),([3,3],[3]),([0,4,4],[0,4]),([5,5],[5]),([6],[6]),([7],[7]),([7],[7]),([8,6,0,1,2,3,4,5,6,7,8],[8]),([9,10,0,1,2,3,4,5,6,7,8,9,10],[9])])
def zAw.B4:List Nat:=[0,0,0,6,14,31,63,127,255,255,511,2047]
theorem zAw.tab4:zBQ .any (opsOf Try.f38 4)=zAw.T4:=by kernel_rfl
theorem zAw.bits4:zBA zAw.T4.2 zAw.B4=true:=by kernel_rfl
set_option maxHeartbeats 8000000 in
set_option maxRecDepth 100000 in
theorem zAw.calls (k:Nat) (p:Option Addr) (q:Nat) (b:List (S50)) (d:Int) (g:Int) (A1:Option Addr) (c1:Nat) (l1:List Int) (r1:List Int) (r2:Int) (w:World) (ae:Kd.C k50 w p b.length b) (af:b.length≤q) (hr1:Kd.C (Kd.int .i64) w A1 l1.length l1) (hc1:l1.length≤c1) (h:zAw.f k b d g l1=some (r1,r2)) :
 Calls Try.prog 38 #[.agg #[.slice p b.length q,.int .i64 d,.int .i64 g],.slice A1 l1.length c1] w fun e w'=>∃ v0_:Value,e= .returned (.tuple #[v0_,.int .i64 r2])∧Kd.R (Kd.int .i64) 3 w' w.heap.size (fun _=>True) v0_ r1∧Below w.heap.size w w':=by
 have ap:=Try.underlying26
 have u:=zA.mk ae
 have HC0_0:=zA.mk af
 clear ae af
 have HR1:=zA.mk hr1
 have HC1:=zA.mk hc1
 clear hr1 hc1
 have HB:=zA.mk (Below.refl w.heap.size w)
 have H:((zi.f k b d g l1).bind fun l=>(if l=0 then ((zm.f k b d g l1).bind fun t=>((zl.f k t).bind fun r=>((za.f k b d g r).bind fun c=>((zS.f k c.1 c.2.1 c.2.2.1 c.2.2.2.1 c.2.2.2.2).bind fun m=>((zw.f k b d g l1 m.2).bind fun i=>(some (i,0))))))) else (some (([]:List Int),l))))=some (r1,r2):=h
 clear h
 replace H:=Option.bind_eq_some_iff.mp H
 obtain ⟨l,A30,H⟩:=H
 replace H:(if l=0 then ((zm.f k b d g l1).bind fun t=>((zl.f k t).bind fun r=>((za.f k b d g r).bind fun c=>((zS.f k c.1 c.2.1 c.2.2.1 c.2.2.2.1 c.2.2.2.2).bind fun m=>((zw.f k b d g l1 m.2).bind fun i=>(some (i,0))))))) else (some (([]:List Int),l)))=some (r1,r2):=H
 have A3:=zA.mk A30
 clear A30
 by_cases c4:l=0
 rotate_left
 ·rw [if_neg c4] at H
  have ak:(l == 0)=false:=beq_eq_false_iff_ne.mpr c4
  have al:(l != 0)=true:=bne_iff_ne.mpr c4
  simp only [Option.some.injEq,Prod.mk.injEq] at H
  obtain ⟨rfl,rfl⟩:=H
  go_enter Try.func38,Try.ntmps38
  go_wp2_with (first|((with_reducible refine zL (N:=2) rfl ?_);refine bE #[.slice p b.length q,.int .i64 d,.int .i64 g] 26 ?_;intro o hg w20 v hb;have a:=qK (v);have ah:=qK (gS hg:w.heap.size≤o);have ai:=qK (gS hg:w.heap.size≤o);replace HB:=hQ hb;clear hb v hg;obtain ⟨_,_,_,_,_,_⟩:=xC3 a.out)|((with_reducible refine zH (f:=49) rfl ?_);refine gL (some 11) Try.func49 #[.agg #[.slice p b.length q,.int .i64 d,.int .i64 g],.slice A1 l1.length c1] ?_;(with_reducible refine (zi.calls k _ _ b d g _ _ l1 l _ ?side1 ?side2 ?side3 ?side4 A3.out).mono ?_);(case side1=>exact cS u.out);(case side2=>exact HC0_0.out);(case side3=>exact cS HR1.out);(case side4=>exact HC1.out);rintro e w22 ⟨rfl,hb⟩;refine ⟨_,rfl,?_⟩;replace a:=bQ a hb;replace HB:=hQ hb))
  go_ret2
  exact ⟨_,eA,by first|exact Kd.zBW _ _ _ _ _|exact Kd.zCK _ _ _ _ _|exact Kd.zCM _ _ _ _ _|exact Kd.zCL _ _ _ _ _|exact Kd.zCJ _ _ _ _ _,bA⟩
 rw [if_pos c4] at H
 have ak:(l == 0)=true:=beq_iff_eq.mpr c4
 have al:(l != 0)=false:=bne_eq_false_iff_eq.mpr c4
 clear c4
 replace H:=Option.bind_eq_some_iff.mp H
 obtain ⟨t,A50,H⟩:=H
 replace H:((zl.f k t).bind fun r=>((za.f k b d g r).bind fun c=>((zS.f k c.1 c.2.1 c.2.2.1 c.2.2.2.1 c.2.2.2.2).bind fun m=>((zw.f k b d g l1 m.2).bind fun i=>(some (i,0))))))=some (r1,r2):=H
 have A5:=zA.mk A50
 clear A50
 replace H:=Option.bind_eq_some_iff.mp H
 obtain ⟨r,A60,H⟩:=H
 replace H:((za.f k b d g r).bind fun c=>((zS.f k c.1 c.2.1 c.2.2.1 c.2.2.2.1 c.2.2.2.2).bind fun m=>((zw.f k b d g l1 m.2).bind fun i=>(some (i,0)))))=some (r1,r2):=H
 have A6:=zA.mk A60
 clear A60
 replace H:=Option.bind_eq_some_iff.mp H
 obtain ⟨⟨x,y,aa,ab,ac⟩,A70,H⟩:=H
 replace H:((zS.f k x y aa ab ac).bind fun m=>((zw.f k b d g l1 m.2).bind fun i=>(some (i,0))))=some (r1,r2):=H
 have A7:=zA.mk A70
 clear A70
 replace H:=Option.bind_eq_some_iff.mp H
 obtain ⟨⟨am,ad⟩,A80,H⟩:=H
 replace H:((zw.f k b d g l1 ad).bind fun i=>(some (i,0)))=some (r1,r2):=H
 have A8:=zA.mk A80
 clear A80
 replace H:=Option.bind_eq_some_iff.mp H
 obtain ⟨i,A90,H⟩:=H
 replace H:(some (i,0))=some (r1,r2):=H
 have A9:=zA.mk A90
 clear A90
 simp only [Option.some.injEq,Prod.mk.injEq] at H
 obtain ⟨rfl,rfl⟩:=H
 go_enter Try.func38,Try.ntmps38
 try go_wp2_with (first|((with_reducible refine zL (N:=2) rfl ?_);refine bE #[.slice p b.length q,.int .i64 d,.int .i64 g] 26 ?_;intro o hg w10 v hb;have a:=qK (v);have ah:=qK (gS hg:w.heap.size≤o);have ai:=qK (gS hg:w.heap.size≤o);replace HB:=hQ hb;clear hb v hg;obtain ⟨_,_,_,_,_,_⟩:=xC3 a.out)|((with_reducible refine zH (f:=49) rfl ?_);refine gL (some 11) Try.func49 #[.agg #[.slice p b.length q,.int .i64 d,.int .i64 g],.slice A1 l1.length c1] ?_;(with_reducible refine (zi.calls k _ _ b d g _ _ l1 l _ ?side1 ?side2 ?side3 ?side4 A3.out).mono ?_);(case side1=>exact cS u.out);(case side2=>exact HC0_0.out);(case side3=>exact cS HR1.out);(case side4=>exact HC1.out);rintro e w12 ⟨rfl,hb⟩;refine ⟨_,rfl,?_⟩;replace a:=bQ a hb;replace HB:=hQ hb))
 replace a:=qK (zF a.out)
 replace HB:=qK (zx HB.out)
 refine zBH (n:=12) (S:=fun w'=>w'.cell? ⟨o,0,none⟩=some (.slice p b.length q)∧w'.cell? ⟨o,1,none⟩=some (.int .i64 d)∧w'.cell? ⟨o,2,none⟩=some (.int .i64 g)) (ds:=[]) #[false,false,false,false,false,false,false,false,false,false,false,false] (by kernel_rfl) rfl rfl ⟨(zB a.out 0).trans rfl,(zB a.out 1).trans rfl,(zB a.out 2).trans rfl⟩ (fun s=>?_);refine zAj zAw.tab4 zAw.bits4 (fun HT_ HW_=>?_)
 generalize w12.drew=w13 at a HB s ⊢
 refine pP 2 (some 18) HT_ ?_
 refine tP 0 (some 16) HT_ HW_ s ?_
 refine tP 1 (some 17) HT_ HW_ s ?_
 refine oP 3 (some 19) HT_ (fun K hK=>?_)
 refine gO Try.func62 #[.agg #[.slice p b.length q,.int .i64 d,.int .i64 g],.slice A1 l1.length c1] ?_
 with_reducible refine (zm.calls k _ _ b d g _ _ l1 t _ ?side1 ?side2 ?side3 ?side4 A5.out).mono ?_
 (case side1=>exact cS u.out)
 (case side2=>exact HC0_0.out)
 (case side3=>exact cS HR1.out)
 (case side4=>exact HC1.out)
 rintro e w14 ⟨v312,rfl,ho0,hb⟩
 refine ⟨_,rfl,?_⟩
 have j:=qK (Kd.zAH ho0 bZ)
 replace a:=bQ a hb
 replace HB:=hQ hb
 (try clear hb)
 (try clear hb2)
 (try clear hk)
 (try clear hi)
 (try clear ho0)
 obtain ⟨an,ao,ag⟩:=Kd.zq j.out
 (first|subst ag|(injection ag with f1_ f2_ f3_;have f4_:=f1_.symm;have f5_:=f3_.symm;clear f1_ f2_ f3_;subst f4_;subst f5_))
 refine hK.out _ _ ⟨(zB a.out 0).trans rfl,(zB a.out 1).trans rfl,(zB a.out 2).trans rfl⟩ (fun s=>?_)
 clear hK K
 refine nP ?_
 refine oP 4 (some 20) HT_ (fun K hK=>?_)
 refine gO Try.func66 #[.slice an t.length ao] ?_
 with_reducible refine (zl.calls k _ _ t r _ ?side1 ?side2 A6.out).mono ?_
 (case side1=>exact cR (Kd.zJ j.out).2.2)
 (case side2=>exact (Kd.zJ j.out).2.1)
 rintro e w' ⟨rfl,⟨nd,rfl⟩⟩
 refine ⟨_,rfl,?_⟩
 refine hK.out _ _ ⟨(zB a.out 0).trans rfl,(zB a.out 1).trans rfl,(zB a.out 2).trans rfl⟩ (fun s=>?_)
 clear hK K
 refine nP ?_
 refine oP 5 (some 21) HT_ (fun K hK=>?_)
 refine gO Try.func64 #[.agg #[.slice p b.length q,.int .i64 d,.int .i64 g],.int .i64 r] ?_
 with_reducible refine (za.calls k _ _ b d g r x y aa ab ac _ ?side1 ?side2 A7.out).mono ?_
 (case side1=>repeat (first|exact (Kd.zAZ u.out bA)|(with_reducible refine Kd.zAo ?_ _)|(with_reducible refine Kd.zAl ?_ _)|(with_reducible refine Kd.zA3 ?_)))
 (case side2=>exact HC0_0.out)
 rintro e w16 ⟨rfl,hb⟩
 refine ⟨_,rfl,?_⟩
 replace j:=rB j hb
 replace a:=bQ a hb
 replace HB:=hQ hb
 (try clear hb)
 (try clear hb2)
 (try clear hk)
 (try clear hi)
 refine hK.out _ _ ⟨(zB a.out 0).trans rfl,(zB a.out 1).trans rfl,(zB a.out 2).trans rfl⟩ (fun s=>?_)
 clear hK K
 refine nP ?_
 refine oP 6 (some 22) HT_ (fun K hK=>?_)
 refine gO Try.func65 #[.agg #[.int .i64 x,.int .i64 y,.int .i64 aa,.int .i64 ab,.int .i64 ac]] ?_
 with_reducible refine (zS.calls k x y aa ab ac am ad _ A8.out).mono ?_
 rintro e w17 ⟨rfl,hb⟩
 refine ⟨_,rfl,?_⟩
 replace j:=rB j hb
 replace a:=bQ a hb
 replace HB:=hQ hb
 (try clear hb)
 (try clear hb2)
 (try clear hk)
 (try clear hi)
 refine hK.out _ _ ⟨(zB a.out 0).trans rfl,(zB a.out 1).trans rfl,(zB a.out 2).trans rfl⟩ (fun s=>?_)
 clear hK K
 refine nP ?_
 refine pP 7 (some 15) HT_ ?_
 refine pP 8 (some 23) HT_ ?_
 refine pP 9 (some 24) HT_ ?_
 refine pP 10 (some 7) HT_ ?_
 refine pP 11 (some 8) HT_ ?_
 refine zBZ (zA8 HT_.out (by kernel_rfl)) ?_
 obtain ⟨_,_,_,_,_,_⟩:=xC3 a.out
 try go_wp2_with (first|((with_reducible refine zH (f:=71) rfl ?_);refine gL (some 28) Try.func71 #[.agg #[.slice p b.length q,.int .i64 d,.int .i64 g],.slice A1 l1.length c1,.int .i64 ad] ?_;(with_reducible refine (zw.calls k _ _ b d g _ _ l1 ad i _ ?side1 ?side2 ?side3 ?side4 A9.out).mono ?_);(case side1=>exact cS u.out);(case side2=>exact HC0_0.out);(case side3=>exact cS HR1.out);(case side4=>exact HC1.out);rintro e w19 ⟨v323,rfl,ho0,hb⟩;refine ⟨_,rfl,?_⟩;have aj:=qK (Kd.zAH (Kd.zg ho0 (Kd.zz (rS j.out))) bZ);replace j:=qK (Kd.zQ (rS j.out) (Kd.zV ho0) hb);replace a:=bQ a hb;replace HB:=hQ hb))
 go_ret2
 exact ⟨_,eA,by (with_reducible repeat (first|apply Kd.zAp|apply Kd.zAn|apply Kd.zAv));exact Kd.zR aj.out (fun _ hk=>trivial),bA⟩
def zAk.l0:Nat→Int→List Int→Int→Int→List (S50)→Int→Int→Option (Int)
 | 0,_,_,_,_,_,_,_=>none
 | k+1,x5,x8,x9,x10,a,b,c=>if x10 < x9 then (if 0≤x10 then (if x10 < (x8.length:Int) then (if 0≤(rd x8 x10) then (if (rd x8 x10) < (a.length:Int) then (zAk.l0 k (wrap64 (x5+((zG a (rd x8 x10)).f1))) x8 x9 (wrap64 (x10+1)) a b c) else (none)) else (none)) else (none)) else (none)) else (some x5)
def zAk.f (k:Nat) (a:List (S50)) (b:Int) (c:Int) (l1:List Int):Option (Int):=zAk.l0 k 0 l1 (l1.length:Int) 0 a b c
set_option maxHeartbeats 8000000 in
set_option maxRecDepth 100000 in
theorem zAk.calls (k:Nat) (o:Option Addr) (p:Nat) (b:List (S50)) (c:Int) (d:Int) (A1:Option Addr) (c1:Nat) (l1:List Int) (r:Int) (w:World) (y:Kd.C k50 w o b.length b) (aa:b.length≤p) (hr1:Kd.C (Kd.int .i64) w A1 l1.length l1) (hc1:l1.length≤c1) (h:zAk.f k b c d l1=some r) :
 Calls Try.prog 61 #[.agg #[.slice o b.length p,.int .i64 c,.int .i64 d],.slice A1 l1.length c1] w fun e w'=>e= .returned (.int .i64 r)∧Below w.heap.size w w':=by
 have ao:=Try.underlying26
 have ac:=zA.mk y
 have HC0_0:=zA.mk aa
 clear y aa
 have HR1:=zA.mk hr1
 have HC1:=zA.mk hc1
 clear hr1 hc1
 have HB:=zA.mk (Below.refl w.heap.size w)
 have H:(zAk.l0 k 0 l1 (l1.length:Int) 0 b c d)=some r:=h
 clear h
 have H':=zA.mk H
 clear H
 go_enter Try.func61,Try.ntmps61
 go_wp2_with (first|((with_reducible refine zL (N:=2) rfl ?_);refine bE #[.slice o b.length p,.int .i64 c,.int .i64 d] 26 ?_;intro q hg w3 ab hb;have g:=qK (ab);have ak:=qK (gS hg:w.heap.size≤q);have al:=qK (gS hg:w.heap.size≤q);replace HB:=hQ hb;clear hb ab hg))
 go_loopg [5,10] k (fun kq v5 v10 w'=>∃ (s:Int) (a:Int),v5= .int .i64 s∧v10= .int .i64 a∧zA (zAk.l0 kq s l1 (l1.length:Int) a b c d=some r)∧zA (kq≤k)∧zA (w'.heap[q]? = some (.cells #[(.slice o b.length p),.int .i64 c,.int .i64 d] 26 (0,0)))∧zA (Below w.heap.size w w'))
 case atStart=>exact ⟨(0),(0),sA,sA,H',⟨Nat.le_refl _⟩,⟨by (repeat with_reducible first|apply zD|apply zF|apply zC);exact g.out⟩,⟨bA⟩⟩
 case round =>
  clear H'
  try clear c1
  try clear p2
  obtain ⟨s,a,rfl,rfl,HA,HK1,g,HB⟩:=hrel
  cases gk with
  | zero=>exact absurd HA.out (by simp [zAk.l0])
  | succ k1 =>
   have H:=HA.out
   clear HA
   simp only [zAk.l0] at H
   by_cases c4:a < (l1.length:Int)
   rotate_left
   ·rw [if_neg c4] at H
    have ad:decide (a < (l1.length:Int))=false:=decide_eq_false c4
    clear c4
    obtain rfl:=Option.some.inj H
    go_wp2
    go_ret
    exact ⟨eA,bA⟩
   rw [if_pos c4] at H
   have ad:decide (a < (l1.length:Int))=true:=decide_eq_true c4
   clear c4
   by_cases c5:0≤a
   rotate_left
   ·rw [if_neg c5] at H
    exact absurd H (by simp)
   rw [if_pos c5] at H
   have ap:decide (0≤a)=true:=decide_eq_true c5
   clear c5
   by_cases c6:a < (l1.length:Int)
   rotate_left
   ·rw [if_neg c6] at H
    exact absurd H (by simp)
   rw [if_pos c6] at H
   have aq:decide (a < (l1.length:Int))=true:=decide_eq_true c6
   clear c6
   by_cases c7:0≤(rd l1 a)
   rotate_left
   ·rw [if_neg c7] at H
    exact absurd H (by simp)
   rw [if_pos c7] at H
   have ar:decide (0≤(rd l1 a))=true:=decide_eq_true c7
   clear c7
   by_cases c8:(rd l1 a) < (b.length:Int)
   rotate_left
   ·rw [if_neg c8] at H
    exact absurd H (by simp)
   rw [if_pos c8] at H
   have au:decide ((rd l1 a) < (b.length:Int))=true:=decide_eq_true c8
   clear c8
   have H':=zA.mk H
   clear H
   have t:0≤(a:Int):=dA
   have u:a < (l1.length:Int):=dA
   obtain ⟨am,e326,i⟩:=Kd.zAh HR1.out a t u
   cases e326
   replace i:=hC HB.out i
   replace t:=eq_true t
   replace u:=eq_true u
   obtain ⟨ae,af,ag,ah,ai,aj⟩:=xC3 g.out
   have v:0≤((rd l1 a):Int):=dA
   have x:(rd l1 a) < (b.length:Int):=dA
   obtain ⟨an,e327,j,l,m,n⟩:=zA9 ac.out (rd l1 a) v x
   cases e327
   replace j:=hC HB.out j
   replace l:=hC HB.out l
   replace m:=hC HB.out m
   replace n:=hC HB.out n
   replace v:=eq_true v
   replace x:=eq_true x
   go_wp2
   go_roundg k1
   case measure=>have:=HK1.out;omega
   case rel=>exact ⟨(wrap64 (s+((zG b (rd l1 a)).f1))),(wrap64 (a+1)),sA,sA,H',⟨by have:=HK1.out;omega⟩,⟨by (repeat with_reducible first|apply zD|apply zF|apply zC);exact g.out⟩,⟨bA⟩⟩
end Go.Proofs.Ythimaecnpkcmeaa.K
