/- Contracts of Go functions and lemmas for them: each theorem states what one function returns and what it leaves of memory; its conditions stand in its statement. -/
import Derived.Test.YthimaecnpkcmeaaB3
import Derived.Test.YthimaecnpkcmeaaB4
set_option linter.unusedVariables false
set_option linter.unusedSimpArgs false
namespace Go.Proofs.Ythimaecnpkcmeaa.K
open Go.RowKit Go.Proofs.YthimaecnpkcmeaaW.PrintWords Go.Proofs.YthimaecnpkcmeaaW.PrintLast Go.Proofs.YthimaecnpkcmeaaW.PrintMore
attribute [local go_sem] zAX zAW zAg zAf zAF zAG zAU zAV   -- for this text's walks alone
set_option linter.unusedVariables false
set_option linter.unusedSimpArgs false
def zi.l0:Nat→List Int→List Int→Int→Int→List (S50)→Int→Int→Option (Int)
 | 0,_,_,_,_,_,_,_=>none
 | k+1,x1,x13,x14,x15,a,b,c=>if x15 < x14 then (if 0≤x15 then (if x15 < (x13.length:Int) then ((zk.f (rd x13 x15) 0 (wrap64 ((a.length:Int) - 1))).bind fun d=>(if d=true then (if x15 > 0 then (if 0≤(wrap64 (x15 - 1)) then (if (wrap64 (x15 - 1)) < (x1.length:Int) then (if (rd x1 (wrap64 (x15 - 1)))≥(rd x13 x15) then (some 1) else (zi.l0 k x1 x13 x14 (wrap64 (x15+1)) a b c)) else (none)) else (none)) else (zi.l0 k x1 x13 x14 (wrap64 (x15+1)) a b c)) else (some 1))) else (none)) else (none)) else (some 0)
def zi.f (k:Nat) (a:List (S50)) (b:Int) (c:Int) (l1:List Int):Option (Int):=(zK.f k a b c).bind fun d=>(if d=0 then (zi.l0 k l1 l1 (l1.length:Int) 0 a b c) else (some d))
set_option maxHeartbeats 8000000 in
set_option maxRecDepth 100000 in
theorem zi.calls (k:Nat) (q:Option Addr) (s:Nat) (b:List (S50)) (g:Int) (i:Int) (A1:Option Addr) (c1:Nat) (l1:List Int) (r:Int) (w:World) (ab:Kd.C k50 w q b.length b) (ac:b.length≤s) (hr1:Kd.C (Kd.int .i64) w A1 l1.length l1) (hc1:l1.length≤c1) (h:zi.f k b g i l1=some r) :
 Calls Try.prog 49 #[.agg #[.slice q b.length s,.int .i64 g,.int .i64 i],.slice A1 l1.length c1] w fun e w'=>e= .returned (.int .i64 r)∧Below w.heap.size w w':=by
 have ay:=Try.underlying26
 have ad:=zA.mk ab
 have HC0_0:=zA.mk ac
 clear ab ac
 have HR1:=zA.mk hr1
 have HC1:=zA.mk hc1
 clear hr1 hc1
 have HB:=zA.mk (Below.refl w.heap.size w)
 have H:((zK.f k b g i).bind fun n=>(if n=0 then (zi.l0 k l1 l1 (l1.length:Int) 0 b g i) else (some n)))=some r:=h
 clear h
 replace H:=Option.bind_eq_some_iff.mp H
 obtain ⟨n,A30,H⟩:=H
 replace H:(if n=0 then (zi.l0 k l1 l1 (l1.length:Int) 0 b g i) else (some n))=some r:=H
 have A3:=zA.mk A30
 clear A30
 by_cases c4:n=0
 rotate_left
 ·rw [if_neg c4] at H
  have ae:(n == 0)=false:=beq_eq_false_iff_ne.mpr c4
  have af:(n != 0)=true:=bne_iff_ne.mpr c4
  obtain rfl:=Option.some.inj H
  go_enter Try.func49,Try.ntmps49
  go_wp2_with (first|((with_reducible refine zL (N:=2) rfl ?_);refine bE #[.slice q b.length s,.int .i64 g,.int .i64 i] 26 ?_;intro p hg w22 y hb;have d:=qK (y);have an:=qK (gS hg:w.heap.size≤p);have ao:=qK (gS hg:w.heap.size≤p);replace HB:=hQ hb;clear hb y hg;obtain ⟨_,_,_,_,_,_⟩:=xC3 d.out)|((with_reducible refine zH (f:=45) rfl ?_);refine gL (some 9) Try.func45 #[.agg #[.slice q b.length s,.int .i64 g,.int .i64 i]] ?_;(with_reducible refine (zK.calls k _ _ b g i n _ ?side1 ?side2 A3.out).mono ?_);(case side1=>exact cS ad.out);(case side2=>exact HC0_0.out);rintro e w24 ⟨rfl,hb⟩;refine ⟨_,rfl,?_⟩;replace d:=bQ d hb;replace HB:=hQ hb))
  go_ret
  exact ⟨eA,bA⟩
 rw [if_pos c4] at H
 have ae:(n == 0)=true:=beq_iff_eq.mpr c4
 have af:(n != 0)=false:=bne_eq_false_iff_eq.mpr c4
 clear c4
 have H':=zA.mk H
 clear H
 go_enter Try.func49,Try.ntmps49
 go_wp2_with (first|((with_reducible refine zL (N:=2) rfl ?_);refine bE #[.slice q b.length s,.int .i64 g,.int .i64 i] 26 ?_;intro p hg w5 y hb;have d:=qK (y);have an:=qK (gS hg:w.heap.size≤p);have ao:=qK (gS hg:w.heap.size≤p);replace HB:=hQ hb;clear hb y hg;obtain ⟨ag,ah,ai,aj,ak,al⟩:=xC3 d.out)|((with_reducible refine zH (f:=45) rfl ?_);refine gL (some 9) Try.func45 #[.agg #[.slice q b.length s,.int .i64 g,.int .i64 i]] ?_;(with_reducible refine (zK.calls k _ _ b g i n _ ?side1 ?side2 A3.out).mono ?_);(case side1=>exact cS ad.out);(case side2=>exact HC0_0.out);rintro e w7 ⟨rfl,hb⟩;refine ⟨_,rfl,?_⟩;replace d:=bQ d hb;replace HB:=hQ hb))
 go_loopg [15] k (fun kq v15 w'=>∃ (a:Int),v15= .int .i64 a∧zA (zi.l0 kq l1 l1 (l1.length:Int) a b g i=some r)∧zA (kq≤k)∧zA (w'.heap[p]? = some (.cells #[(.slice q b.length s),.int .i64 g,.int .i64 i] 26 (0,0)))∧zA (Below w.heap.size w w'))
 case atStart=>exact ⟨(0),sA,H',⟨Nat.le_refl _⟩,⟨by (repeat with_reducible first|apply zD|apply zF|apply zC);exact d.out⟩,⟨bA⟩⟩
 case round =>
  clear H'
  try clear c1
  try clear p2
  try clear c4
  try clear ae
  try clear af
  try clear ag
  try clear ah
  try clear ai
  try clear aj
  try clear ak
  try clear al
  obtain ⟨a,rfl,HA,HK1,d,HB⟩:=hrel
  cases gk with
  | zero=>exact absurd HA.out (by simp [zi.l0])
  | succ k1 =>
   have H:=HA.out
   clear HA
   simp only [zi.l0] at H
   by_cases c8:a < (l1.length:Int)
   rotate_left
   ·rw [if_neg c8] at H
    have ar:decide (a < (l1.length:Int))=false:=decide_eq_false c8
    clear c8
    obtain rfl:=Option.some.inj H
    go_wp2
    go_ret
    exact ⟨eA,bA⟩
   rw [if_pos c8] at H
   have ar:decide (a < (l1.length:Int))=true:=decide_eq_true c8
   clear c8
   by_cases c9:0≤a
   rotate_left
   ·rw [if_neg c9] at H
    exact absurd H (by simp)
   rw [if_pos c9] at H
   have az:decide (0≤a)=true:=decide_eq_true c9
   clear c9
   by_cases c10:a < (l1.length:Int)
   rotate_left
   ·rw [if_neg c10] at H
    exact absurd H (by simp)
   rw [if_pos c10] at H
   have av:decide (a < (l1.length:Int))=true:=decide_eq_true c10
   clear c10
   replace H:=Option.bind_eq_some_iff.mp H
   obtain ⟨am,A110,H⟩:=H
   replace H:(if am=true then (if a > 0 then (if 0≤(wrap64 (a - 1)) then (if (wrap64 (a - 1)) < (l1.length:Int) then (if (rd l1 (wrap64 (a - 1)))≥(rd l1 a) then (some 1) else (zi.l0 k1 l1 l1 (l1.length:Int) (wrap64 (a+1)) b g i)) else (none)) else (none)) else (zi.l0 k1 l1 l1 (l1.length:Int) (wrap64 (a+1)) b g i)) else (some 1))=some r:=H
   have A11:=zA.mk A110
   clear A110
   by_cases c12:am=true
   rotate_left
   ·replace c12:=Bool.eq_false_iff.mpr c12
    subst c12
    have H1:(some 1)=some r:=by rw [if_neg (show ¬ (false=true) by decide)] at H;exact H
    clear H
    have H:=H1
    clear H1
    obtain rfl:=Option.some.inj H
    have l:0≤(a:Int):=dA
    have m:a < (l1.length:Int):=dA
    obtain ⟨v,e126,c⟩:=Kd.zAh HR1.out a l m
    cases e126
    replace c:=hC HB.out c
    replace l:=eq_true l
    replace m:=eq_true m
    obtain ⟨_,_,_,_,_,_⟩:=xC3 d.out
    go_wp2_with (first|((with_reducible refine zH (f:=52) rfl ?_);refine gL (some 25) Try.func52 #[.int .i64 (rd l1 a),.int .i64 0,.int .i64 (wrap64 ((b.length:Int) - 1))] ?_;(with_reducible refine (zk.calls (rd l1 a) 0 (wrap64 ((b.length:Int) - 1)) false _ A11.out).mono ?_);rintro e w' ⟨rfl,⟨nd,rfl⟩⟩;refine ⟨_,rfl,?_⟩))
    go_ret
    exact ⟨eA,bA⟩
   subst c12
   have H1:(if a > 0 then (if 0≤(wrap64 (a - 1)) then (if (wrap64 (a - 1)) < (l1.length:Int) then (if (rd l1 (wrap64 (a - 1)))≥(rd l1 a) then (some 1) else (zi.l0 k1 l1 l1 (l1.length:Int) (wrap64 (a+1)) b g i)) else (none)) else (none)) else (zi.l0 k1 l1 l1 (l1.length:Int) (wrap64 (a+1)) b g i))=some r:=by rw [if_pos rfl] at H;exact H
   clear H
   have H:=H1
   clear H1
   by_cases c13:a > 0
   rotate_left
   ·rw [if_neg c13] at H
    have ap:decide (0 < a)=false:=decide_eq_false c13
    clear c13
    have H':=zA.mk H
    clear H
    have l:0≤(a:Int):=dA
    have m:a < (l1.length:Int):=dA
    obtain ⟨v,e126,c⟩:=Kd.zAh HR1.out a l m
    cases e126
    replace c:=hC HB.out c
    replace l:=eq_true l
    replace m:=eq_true m
    obtain ⟨_,_,_,_,_,_⟩:=xC3 d.out
    go_wp2_with (first|((with_reducible refine zH (f:=52) rfl ?_);refine gL (some 25) Try.func52 #[.int .i64 (rd l1 a),.int .i64 0,.int .i64 (wrap64 ((b.length:Int) - 1))] ?_;(with_reducible refine (zk.calls (rd l1 a) 0 (wrap64 ((b.length:Int) - 1)) true _ A11.out).mono ?_);rintro e w' ⟨rfl,⟨nd,rfl⟩⟩;refine ⟨_,rfl,?_⟩))
    go_roundg k1
    case measure=>have:=HK1.out;omega
    case rel=>exact ⟨(wrap64 (a+1)),sA,H',⟨by have:=HK1.out;omega⟩,⟨by (repeat with_reducible first|apply zD|apply zF|apply zC);exact d.out⟩,⟨bA⟩⟩
   rw [if_pos c13] at H
   have ap:decide (0 < a)=true:=decide_eq_true c13
   clear c13
   obtain ⟨j,x⟩ : ∃ j_:Int,(wrap64 (a - 1))=j_:=⟨_,rfl⟩
   replace H:(if 0≤(j) then (if (j) < (l1.length:Int) then (if (rd l1 (j))≥(rd l1 a) then (some 1) else (zi.l0 k1 l1 l1 (l1.length:Int) (wrap64 (a+1)) b g i)) else (none)) else (none))=some r:=by first|(rw [x] at H;exact H)|(simp only [x] at H ⊢;exact H)
   (try rw [x] at A11)
   have au:(IntKind.i64.wrap (a - 1))=j:=(zBS _).trans x
   by_cases c15:0≤(j)
   rotate_left
   ·rw [if_neg c15] at H
    exact absurd H (by simp)
   rw [if_pos c15] at H
   have aw:decide (0≤(j))=true:=decide_eq_true c15
   clear c15
   by_cases c16:(j) < (l1.length:Int)
   rotate_left
   ·rw [if_neg c16] at H
    exact absurd H (by simp)
   rw [if_pos c16] at H
   have ax:decide ((j) < (l1.length:Int))=true:=decide_eq_true c16
   clear c16
   by_cases c17:(rd l1 (j))≥(rd l1 a)
   ·rw [if_pos c17] at H
    have aq:decide ((rd l1 a)≤(rd l1 (j)))=true:=decide_eq_true c17
    clear c17
    obtain rfl:=Option.some.inj H
    have l:0≤(a:Int):=dA
    have m:a < (l1.length:Int):=dA
    obtain ⟨v,e126,c⟩:=Kd.zAh HR1.out a l m
    cases e126
    replace c:=hC HB.out c
    replace l:=eq_true l
    replace m:=eq_true m
    obtain ⟨_,_,_,_,_,_⟩:=xC3 d.out
    go_wp2_with (first|((with_reducible refine zH (f:=52) rfl ?_);refine gL (some 25) Try.func52 #[.int .i64 (rd l1 a),.int .i64 0,.int .i64 (wrap64 ((b.length:Int) - 1))] ?_;(with_reducible refine (zk.calls (rd l1 a) 0 (wrap64 ((b.length:Int) - 1)) true _ A11.out).mono ?_);rintro e w' ⟨rfl,⟨nd,rfl⟩⟩;refine ⟨_,rfl,?_⟩;have t:0≤((j):Int):=dA;have u:(j) < (l1.length:Int):=dA;obtain ⟨aa,e128,o⟩:=Kd.zAh HR1.out (j) t u;obtain rfl:v=aa:=(by injection e128);replace o:=hC HB.out o;replace t:=eq_true t;replace u:=eq_true u))
    go_ret
    exact ⟨by first|rfl|(simp [zAQ,zAP] <;> rfl)|(simp only [← x];first|rfl|(simp [zAQ,zAP] <;> rfl))|(simp [*,zAQ,zAP] <;> rfl),bA⟩
   rw [if_neg c17] at H
   have aq:decide ((rd l1 a)≤(rd l1 (j)))=false:=decide_eq_false c17
   clear c17
   have H':=zA.mk H
   clear H
   have l:0≤(a:Int):=dA
   have m:a < (l1.length:Int):=dA
   obtain ⟨v,e126,c⟩:=Kd.zAh HR1.out a l m
   cases e126
   replace c:=hC HB.out c
   replace l:=eq_true l
   replace m:=eq_true m
   obtain ⟨_,_,_,_,_,_⟩:=xC3 d.out
   go_wp2_with (first|((with_reducible refine zH (f:=52) rfl ?_);refine gL (some 25) Try.func52 #[.int .i64 (rd l1 a),.int .i64 0,.int .i64 (wrap64 ((b.length:Int) - 1))] ?_;(with_reducible refine (zk.calls (rd l1 a) 0 (wrap64 ((b.length:Int) - 1)) true _ A11.out).mono ?_);rintro e w' ⟨rfl,⟨nd,rfl⟩⟩;refine ⟨_,rfl,?_⟩;have t:0≤((j):Int):=dA;have u:(j) < (l1.length:Int):=dA;obtain ⟨aa,e128,o⟩:=Kd.zAh HR1.out (j) t u;obtain rfl:v=aa:=(by injection e128);replace o:=hC HB.out o;replace t:=eq_true t;replace u:=eq_true u))
   go_roundg k1
   case measure=>have:=HK1.out;omega
   case rel=>exact ⟨(wrap64 (a+1)),sA,H',⟨by have:=HK1.out;omega⟩,⟨by (repeat with_reducible first|apply zD|apply zF|apply zC);exact d.out⟩,⟨bA⟩⟩
def zA2.f (k:Nat) (b:List (S50)) (c:Int) (d:Int) (l1:List Int) (a2:Int) (a3:Int):Option (Int):=(zi.f k b c d l1).bind fun a=>(if a=0 then (if a2≥a3 then (some 1) else (if a2 < (-1099511627776) then (some 1) else (if a3 > 1099511627776 then (some 1) else (some 0)))) else (some a))
set_option maxHeartbeats 8000000 in
set_option maxRecDepth 100000 in
theorem zA2.calls (k:Nat) (l:Option Addr) (m:Nat) (b:List (S50)) (c:Int) (d:Int) (A1:Option Addr) (c1:Nat) (l1:List Int) (a2:Int) (a3:Int) (r:Int) (w:World) (q:Kd.C k50 w l b.length b) (s:b.length≤m) (hr1:Kd.C (Kd.int .i64) w A1 l1.length l1) (hc1:l1.length≤c1) (h:zA2.f k b c d l1 a2 a3=some r) :
 Calls Try.prog 47 #[.agg #[.slice l b.length m,.int .i64 c,.int .i64 d],.slice A1 l1.length c1,.int .i64 a2,.int .i64 a3] w fun e w'=>e= .returned (.int .i64 r)∧Below w.heap.size w w':=by
 have aa:=Try.underlying26
 have n:=zA.mk q
 have HC0_0:=zA.mk s
 clear q s
 have HR1:=zA.mk hr1
 have HC1:=zA.mk hc1
 clear hr1 hc1
 have HB:=zA.mk (Below.refl w.heap.size w)
 have H:((zi.f k b c d l1).bind fun i=>(if i=0 then (if a2≥a3 then (some 1) else (if a2 < (-1099511627776) then (some 1) else (if a3 > 1099511627776 then (some 1) else (some 0)))) else (some i)))=some r:=h
 clear h
 replace H:=Option.bind_eq_some_iff.mp H
 obtain ⟨i,A50,H⟩:=H
 replace H:(if i=0 then (if a2≥a3 then (some 1) else (if a2 < (-1099511627776) then (some 1) else (if a3 > 1099511627776 then (some 1) else (some 0)))) else (some i))=some r:=H
 have A5:=zA.mk A50
 clear A50
 by_cases c6:i=0
 rotate_left
 ·rw [if_neg c6] at H
  have v:(i == 0)=false:=beq_eq_false_iff_ne.mpr c6
  have x:(i != 0)=true:=bne_iff_ne.mpr c6
  obtain rfl:=Option.some.inj H
  go_enter Try.func47,Try.ntmps47
  go_wp2_with (first|((with_reducible refine zL (N:=4) rfl ?_);refine bE #[.slice l b.length m,.int .i64 c,.int .i64 d] 26 ?_;intro g hg w22 j hb;have a:=qK (j);have o:=qK (gS hg:w.heap.size≤g);have p:=qK (gS hg:w.heap.size≤g);replace HB:=hQ hb;clear hb j hg;obtain ⟨_,_,_,_,_,_⟩:=xC3 a.out)|((with_reducible refine zH (f:=49) rfl ?_);refine gL (some 12) Try.func49 #[.agg #[.slice l b.length m,.int .i64 c,.int .i64 d],.slice A1 l1.length c1] ?_;(with_reducible refine (zi.calls k _ _ b c d _ _ l1 i _ ?side1 ?side2 ?side3 ?side4 A5.out).mono ?_);(case side1=>exact cS n.out);(case side2=>exact HC0_0.out);(case side3=>exact cS HR1.out);(case side4=>exact HC1.out);rintro e w24 ⟨rfl,hb⟩;refine ⟨_,rfl,?_⟩;replace a:=bQ a hb;replace HB:=hQ hb))
  go_ret
  exact ⟨eA,bA⟩
 rw [if_pos c6] at H
 have v:(i == 0)=true:=beq_iff_eq.mpr c6
 have x:(i != 0)=false:=bne_eq_false_iff_eq.mpr c6
 clear c6
 by_cases c7:a2≥a3
 ·rw [if_pos c7] at H
  have y:decide (a3≤a2)=true:=decide_eq_true c7
  clear c7
  obtain rfl:=Option.some.inj H
  go_enter Try.func47,Try.ntmps47
  go_wp2_with (first|((with_reducible refine zL (N:=4) rfl ?_);refine bE #[.slice l b.length m,.int .i64 c,.int .i64 d] 26 ?_;intro g hg w8 j hb;have a:=qK (j);have o:=qK (gS hg:w.heap.size≤g);have p:=qK (gS hg:w.heap.size≤g);replace HB:=hQ hb;clear hb j hg;obtain ⟨_,_,_,_,_,_⟩:=xC3 a.out)|((with_reducible refine zH (f:=49) rfl ?_);refine gL (some 12) Try.func49 #[.agg #[.slice l b.length m,.int .i64 c,.int .i64 d],.slice A1 l1.length c1] ?_;(with_reducible refine (zi.calls k _ _ b c d _ _ l1 i _ ?side1 ?side2 ?side3 ?side4 A5.out).mono ?_);(case side1=>exact cS n.out);(case side2=>exact HC0_0.out);(case side3=>exact cS HR1.out);(case side4=>exact HC1.out);rintro e w10 ⟨rfl,hb⟩;refine ⟨_,rfl,?_⟩;replace a:=bQ a hb;replace HB:=hQ hb))
  go_ret
  exact ⟨eA,bA⟩
 rw [if_neg c7] at H
 have y:decide (a3≤a2)=false:=decide_eq_false c7
 clear c7
 by_cases c11:a2 < (-1099511627776)
 ·rw [if_pos c11] at H
  have t:decide (a2 < (-1099511627776))=true:=decide_eq_true c11
  clear c11
  obtain rfl:=Option.some.inj H
  go_enter Try.func47,Try.ntmps47
  go_wp2_with (first|((with_reducible refine zL (N:=4) rfl ?_);refine bE #[.slice l b.length m,.int .i64 c,.int .i64 d] 26 ?_;intro g hg w12 j hb;have a:=qK (j);have o:=qK (gS hg:w.heap.size≤g);have p:=qK (gS hg:w.heap.size≤g);replace HB:=hQ hb;clear hb j hg;obtain ⟨_,_,_,_,_,_⟩:=xC3 a.out)|((with_reducible refine zH (f:=49) rfl ?_);refine gL (some 12) Try.func49 #[.agg #[.slice l b.length m,.int .i64 c,.int .i64 d],.slice A1 l1.length c1] ?_;(with_reducible refine (zi.calls k _ _ b c d _ _ l1 i _ ?side1 ?side2 ?side3 ?side4 A5.out).mono ?_);(case side1=>exact cS n.out);(case side2=>exact HC0_0.out);(case side3=>exact cS HR1.out);(case side4=>exact HC1.out);rintro e w14 ⟨rfl,hb⟩;refine ⟨_,rfl,?_⟩;replace a:=bQ a hb;replace HB:=hQ hb))
  go_ret
  exact ⟨eA,bA⟩
 rw [if_neg c11] at H
 have t:decide (a2 < (-1099511627776))=false:=decide_eq_false c11
 clear c11
 by_cases c15:a3 > 1099511627776
 ·rw [if_pos c15] at H
  have u:decide (1099511627776 < a3)=true:=decide_eq_true c15
  clear c15
  obtain rfl:=Option.some.inj H
  go_enter Try.func47,Try.ntmps47
  go_wp2_with (first|((with_reducible refine zL (N:=4) rfl ?_);refine bE #[.slice l b.length m,.int .i64 c,.int .i64 d] 26 ?_;intro g hg w16 j hb;have a:=qK (j);have o:=qK (gS hg:w.heap.size≤g);have p:=qK (gS hg:w.heap.size≤g);replace HB:=hQ hb;clear hb j hg;obtain ⟨_,_,_,_,_,_⟩:=xC3 a.out)|((with_reducible refine zH (f:=49) rfl ?_);refine gL (some 12) Try.func49 #[.agg #[.slice l b.length m,.int .i64 c,.int .i64 d],.slice A1 l1.length c1] ?_;(with_reducible refine (zi.calls k _ _ b c d _ _ l1 i _ ?side1 ?side2 ?side3 ?side4 A5.out).mono ?_);(case side1=>exact cS n.out);(case side2=>exact HC0_0.out);(case side3=>exact cS HR1.out);(case side4=>exact HC1.out);rintro e w18 ⟨rfl,hb⟩;refine ⟨_,rfl,?_⟩;replace a:=bQ a hb;replace HB:=hQ hb))
  go_ret
  exact ⟨eA,bA⟩
 rw [if_neg c15] at H
 have u:decide (1099511627776 < a3)=false:=decide_eq_false c15
 clear c15
 obtain rfl:=Option.some.inj H
 go_enter Try.func47,Try.ntmps47
 go_wp2_with (first|((with_reducible refine zL (N:=4) rfl ?_);refine bE #[.slice l b.length m,.int .i64 c,.int .i64 d] 26 ?_;intro g hg w19 j hb;have a:=qK (j);have o:=qK (gS hg:w.heap.size≤g);have p:=qK (gS hg:w.heap.size≤g);replace HB:=hQ hb;clear hb j hg;obtain ⟨_,_,_,_,_,_⟩:=xC3 a.out)|((with_reducible refine zH (f:=49) rfl ?_);refine gL (some 12) Try.func49 #[.agg #[.slice l b.length m,.int .i64 c,.int .i64 d],.slice A1 l1.length c1] ?_;(with_reducible refine (zi.calls k _ _ b c d _ _ l1 i _ ?side1 ?side2 ?side3 ?side4 A5.out).mono ?_);(case side1=>exact cS n.out);(case side2=>exact HC0_0.out);(case side3=>exact cS HR1.out);(case side4=>exact HC1.out);rintro e w21 ⟨rfl,hb⟩;refine ⟨_,rfl,?_⟩;replace a:=bQ a hb;replace HB:=hQ hb))
 go_ret
 exact ⟨eA,bA⟩
def zBK.f (a:Int) (b:Int) (d:Int) (c:Int):Option (Int):=some (mx 0 (wrap64 ((wrap64 (b - a)) - (wrap64 (2*c)))))
set_option maxHeartbeats 8000000 in
set_option maxRecDepth 100000 in
theorem zBK.calls (a:Int) (b:Int) (g:Int) (c:Int) (r:Int) (w:World) (h:zBK.f a b g c=some r) :
 Calls Try.prog 97 #[.agg #[.int .i64 a,.int .i64 b,.int .i64 g,.int .i64 c]] w fun e w'=>e= .returned (.int .i64 r)∧Below w.heap.size w w':=by
 have n:=Try.underlying50
 have HB:=zA.mk (Below.refl w.heap.size w)
 have H:(some (mx 0 (wrap64 ((wrap64 (b - a)) - (wrap64 (2*c))))))=some r:=h
 clear h
 obtain ⟨ji2,d⟩ : ∃ j_:Int,(mx 0 (wrap64 ((wrap64 (b - a)) - (wrap64 (2*c)))))=j_:=⟨_,rfl⟩
 replace H:(some ji2)=some r:=by first|(rw [d] at H;exact H)|(simp only [d] at H ⊢;exact H)
 (try (have hji2l:0≤ji2:=by (rw [← d];unfold mx;(repeat' split) <;> omega)))
 (try (have hji2m:0≤ji2:=by omega))
 have hji2_:(if 0 < (wrap64 ((wrap64 (b - a)) - (wrap64 (2*c)))) then (wrap64 ((wrap64 (b - a)) - (wrap64 (2*c)))) else 0)=ji2:=d
 obtain rfl:=Option.some.inj H
 go_enter Try.func97,Try.ntmps97
 go_wp2_with (first|((with_reducible refine zL (N:=1) rfl ?_);refine bE #[.int .i64 a,.int .i64 b,.int .i64 g,.int .i64 c] 50 ?_;intro i hg w3 j hb;have k:=qK (j);have l:=qK (gS hg:w.heap.size≤i);have m:=qK (gS hg:w.heap.size≤i);replace HB:=hQ hb;clear hb j hg;obtain ⟨_,_,_,_,_,_,_,_⟩:=xC4 k.out))
 go_ret
 exact ⟨by first|rfl|(simp [zAQ,zAP] <;> rfl)|(simp only [← d];first|rfl|(simp [zAQ,zAP] <;> rfl))|(simp [*,zAQ,zAP] <;> rfl),bA⟩
def zm.l0:Nat→List Int→List Int→Int→Int→List (S50)→Int→Int→Option (List Int)
 | 0,_,_,_,_,_,_,_=>none
 | k+1,x5,x8,x9,x10,a,b,c=>if x10 < x9 then (if 0≤x10 then (if x10 < (x8.length:Int) then (if 0≤(rd x8 x10) then (if (rd x8 x10) < (a.length:Int) then ((zBK.f ((zG a (rd x8 x10)).f0.f0) ((zG a (rd x8 x10)).f0.f1) ((zG a (rd x8 x10)).f1) ((zG a (rd x8 x10)).f2)).bind fun d=>(if x5.length < 17592186044416 then (zm.l0 k (x5 ++ [d]) x8 x9 (wrap64 (x10+1)) a b c) else (none))) else (none)) else (none)) else (none)) else (none)) else (some x5)
def zm.f (k:Nat) (a:List (S50)) (b:Int) (c:Int) (l1:List Int):Option (List Int):=zm.l0 k ([]:List Int) l1 (l1.length:Int) 0 a b c
set_option maxHeartbeats 8000000 in
set_option maxRecDepth 100000 in
theorem zm.calls (k:Nat) (aa:Option Addr) (q:Nat) (c:List (S50)) (i:Int) (j:Int) (A1:Option Addr) (c1:Nat) (l1:List Int) (r:List Int) (w:World) (af:Kd.C k50 w aa c.length c) (ag:c.length≤q) (hr1:Kd.C (Kd.int .i64) w A1 l1.length l1) (hc1:l1.length≤c1) (h:zm.f k c i j l1=some r) :
 Calls Try.prog 62 #[.agg #[.slice aa c.length q,.int .i64 i,.int .i64 j],.slice A1 l1.length c1] w fun e w'=>∃ v0_:Value,e= .returned (v0_)∧Kd.R (Kd.int .i64) 3 w' w.heap.size (fun _=>True) v0_ r∧Below w.heap.size w w':=by
 have ar:=Try.underlying26
 have au:=Try.underlying50
 have aj:=zA.mk af
 have HC0_0:=zA.mk ag
 clear af ag
 have HR1:=zA.mk hr1
 have HC1:=zA.mk hc1
 clear hr1 hc1
 have HB:=zA.mk (Below.refl w.heap.size w)
 have H:(zm.l0 k ([]:List Int) l1 (l1.length:Int) 0 c i j)=some r:=h
 clear h
 have H':=zA.mk H
 clear H
 go_enter Try.func62,Try.ntmps62
 go_wp2_with (first|((with_reducible refine zL (N:=2) rfl ?_);refine bE #[.slice aa c.length q,.int .i64 i,.int .i64 j] 26 ?_;intro p hg w3 ah hb;have d:=qK (ah);have ao:=qK (gS hg:w.heap.size≤p);have ap:=qK (gS hg:w.heap.size≤p);replace HB:=hQ hb;clear hb ah hg))
 go_loopg [5,10] k (fun kq v5 v10 w'=>∃ (l:List Int) (a:Int),v10= .int .i64 a∧zA (zm.l0 kq l l1 (l1.length:Int) a c i j=some r)∧zA (kq≤k)∧zA (Kd.R (Kd.int .i64) 3 w' w.heap.size (fun _=>True) v5 l)∧zA (w'.heap[p]? = some (.cells #[(.slice aa c.length q),.int .i64 i,.int .i64 j] 26 (0,0)))∧zA (Below w.heap.size w w'))
 case atStart=>exact ⟨(([]:List Int)),(0),sA,H',⟨Nat.le_refl _⟩,⟨by first|exact Kd.zBW _ _ _ _ _|exact Kd.zCK _ _ _ _ _|exact Kd.zCM _ _ _ _ _|exact Kd.zCL _ _ _ _ _|exact Kd.zCJ _ _ _ _ _⟩,⟨by (repeat with_reducible first|apply zD|apply zF|apply zC);exact d.out⟩,⟨bA⟩⟩
 case round =>
  clear H'
  try clear c1
  try clear p2
  obtain ⟨l,a,rfl,HA,HK1,n,d,HB⟩:=hrel
  cases gk with
  | zero=>exact absurd HA.out (by simp [zm.l0])
  | succ k1 =>
   have H:=HA.out
   clear HA
   simp only [zm.l0] at H
   by_cases c4:a < (l1.length:Int)
   rotate_left
   ·rw [if_neg c4] at H
    have an:decide (a < (l1.length:Int))=false:=decide_eq_false c4
    clear c4
    obtain rfl:=Option.some.inj H
    go_wp2
    go_ret
    exact ⟨_,eA,by (with_reducible repeat (first|apply Kd.zAp|apply Kd.zAn|apply Kd.zAv));exact n.out,bA⟩
   rw [if_pos c4] at H
   have an:decide (a < (l1.length:Int))=true:=decide_eq_true c4
   clear c4
   by_cases c5:0≤a
   rotate_left
   ·rw [if_neg c5] at H
    exact absurd H (by simp)
   rw [if_pos c5] at H
   have av:decide (0≤a)=true:=decide_eq_true c5
   clear c5
   by_cases c6:a < (l1.length:Int)
   rotate_left
   ·rw [if_neg c6] at H
    exact absurd H (by simp)
   rw [if_pos c6] at H
   have aw:decide (a < (l1.length:Int))=true:=decide_eq_true c6
   clear c6
   by_cases c7:0≤(rd l1 a)
   rotate_left
   ·rw [if_neg c7] at H
    exact absurd H (by simp)
   rw [if_pos c7] at H
   have ax:decide (0≤(rd l1 a))=true:=decide_eq_true c7
   clear c7
   by_cases c8:(rd l1 a) < (c.length:Int)
   rotate_left
   ·rw [if_neg c8] at H
    exact absurd H (by simp)
   rw [if_pos c8] at H
   have ay:decide ((rd l1 a) < (c.length:Int))=true:=decide_eq_true c8
   clear c8
   replace H:=Option.bind_eq_some_iff.mp H
   obtain ⟨s,A90,H⟩:=H
   replace H:(if l.length < 17592186044416 then (zm.l0 k1 (l ++ [s]) l1 (l1.length:Int) (wrap64 (a+1)) c i j) else (none))=some r:=H
   have A9:=zA.mk A90
   clear A90
   by_cases c10:l.length < 17592186044416
   rotate_left
   ·rw [if_neg c10] at H
    exact absurd H (by simp)
   rw [if_pos c10] at H
   have LMc10:=zA.mk c10
   clear c10
   obtain ⟨ai,m⟩ : ∃ y_:List Int,y_=(l ++ [s]):=⟨_,rfl⟩
   replace H:(zm.l0 k1 ai l1 (l1.length:Int) (wrap64 (a+1)) c i j)=some r:=by first|(rw [m];with_reducible exact H)|(have H2_:=(Option.bind_some _ _).symm.trans H;rw [m];with_reducible exact H2_)|(have H2_:=(Option.bind_some _ _).symm.trans H;with_reducible exact H2_)|with_reducible exact H|(rw [m];exact H)|exact H
   have ak:=zA.mk m
   clear m
   have H':=zA.mk H
   clear H
   have ab:0≤(a:Int):=dA
   have ac:a < (l1.length:Int):=dA
   obtain ⟨aq,e133,t⟩:=Kd.zAh HR1.out a ab ac
   cases e133
   replace t:=hC HB.out t
   replace ab:=eq_true ab
   replace ac:=eq_true ac
   obtain ⟨_,_,_,_,_,_⟩:=xC3 d.out
   have ad:0≤((rd l1 a):Int):=dA
   have ae:(rd l1 a) < (c.length:Int):=dA
   obtain ⟨al,e134,u,v,x,y⟩:=zA9 aj.out (rd l1 a) ad ae
   cases e134
   replace u:=hC HB.out u
   replace v:=hC HB.out v
   replace x:=hC HB.out x
   replace y:=hC HB.out y
   replace ad:=eq_true ad
   replace ae:=eq_true ae
   go_wp2_with (first|((with_reducible refine zH (f:=97) rfl ?_);refine gL (some 20) Try.func97 #[.agg #[.int .i64 ((zG c (rd l1 a)).f0.f0),.int .i64 ((zG c (rd l1 a)).f0.f1),.int .i64 ((zG c (rd l1 a)).f1),.int .i64 ((zG c (rd l1 a)).f2)]] ?_;(with_reducible refine (zBK.calls ((zG c (rd l1 a)).f0.f0) ((zG c (rd l1 a)).f0.f1) ((zG c (rd l1 a)).f1) ((zG c (rd l1 a)).f2) s _ A9.out).mono ?_);rintro e w12 ⟨rfl,hb⟩;refine ⟨_,rfl,?_⟩;replace n:=rB n hb;replace d:=bQ d hb;replace HB:=hQ hb)|((with_reducible refine zBF (b:=.append) (xs:=#[.tmp 14,.tmp 21]) rfl ?_);at_builtin;refine Kd.zBq (Kd.int .i64) (w0:=w) w.heap.size rfl (.tmp 14) (.tmp 21) 27 3 (.int .i64 0) 8 rfl Try.underlying27 info3 rfl (by decide) (by omega) u5 l s [.int .i64 s] (fun _=>True) (fun _=>False) rfl rfl ?aP (fun _ hk=>hk.elim) ?aF ?aO ?aB ?aS ?aL ?_;(case aP=>exact rfl);(case aB=>exact bA);(case aF=>exact (fun _ _=>trivial));(case aO=>exact (rS n.out));(case aS=>exact bZ);(case aL=>have:=LMc10.out;omega);intro v137 w13 ho hb hg hat;rw [← ak.out] at ho;replace d:=qK (zA0 (g:=p) (o:=.cells #[.slice (some al) c.length q,.int .i64 i,.int .i64 j] 26 (0,0)) (bX d.out) hg (Kd.zA6 n.out d.out (by decide)));replace HB:=qK (hb);have am:=qK (ho);clear n;clear ho hb hg hat))
   go_roundg k1
   case measure=>have:=HK1.out;omega
   case rel=>exact ⟨(ai),(wrap64 (a+1)),sA,H',⟨by have:=HK1.out;omega⟩,⟨by (with_reducible repeat (first|apply Kd.zAp|apply Kd.zAn|apply Kd.zAv));exact am.out⟩,⟨by (repeat with_reducible first|apply zD|apply zF|apply zC);exact d.out⟩,⟨bA⟩⟩
def za.f (k:Nat) (d:List (S50)) (b:Int) (c:Int) (a1:Int):Option (Int × Int × Int × Int × Int):=(zAA.f k d b c).bind fun a=>(some (a.1,wrap64 (a.2 - a1),a1,b,c))
set_option maxHeartbeats 8000000 in
set_option maxRecDepth 100000 in
theorem za.calls (k:Nat) (q:Option Addr) (r:Nat) (d:List (S50)) (c:Int) (g:Int) (a1:Int) (r1:Int) (r2:Int) (r3:Int) (r4:Int) (r5:Int) (w:World) (y:Kd.C k50 w q d.length d) (aa:d.length≤r) (h:za.f k d c g a1=some (r1,r2,r3,r4,r5)) :
 Calls Try.prog 64 #[.agg #[.slice q d.length r,.int .i64 c,.int .i64 g],.int .i64 a1] w fun e w'=>e= .returned (.agg #[.int .i64 r1,.int .i64 r2,.int .i64 r3,.int .i64 r4,.int .i64 r5])∧Below w.heap.size w w':=by
 have ap:=Try.underlying26
 have ae:=Try.underlying105
 have aq:=Try.underlying24
 have ac:=zA.mk y
 have HC0_0:=zA.mk aa
 clear y aa
 have HB:=zA.mk (Below.refl w.heap.size w)
 have H:((zAA.f k d c g).bind fun ab=>(some (ab.1,wrap64 (ab.2 - a1),a1,c,g)))=some (r1,r2,r3,r4,r5):=h
 clear h
 replace H:=Option.bind_eq_some_iff.mp H
 obtain ⟨⟨o,p⟩,A30,H⟩:=H
 replace H:(some (o,wrap64 (p - a1),a1,c,g))=some (r1,r2,r3,r4,r5):=H
 have A3:=zA.mk A30
 clear A30
 simp only [Option.some.injEq,Prod.mk.injEq] at H
 obtain ⟨rfl,rfl,rfl,rfl,rfl⟩:=H
 go_enter Try.func64,Try.ntmps64
 go_wp2_with (first|((with_reducible refine zL (N:=2) rfl ?_);refine bE #[.slice q d.length r,.int .i64 c,.int .i64 g] 26 ?_;intro m hg w4 j hb;have a:=qK (j);have af:=qK (gS hg:w.heap.size≤m);have ag:=qK (gS hg:w.heap.size≤m);replace HB:=hQ hb;clear hb j hg)|((with_reducible refine zL (N:=4) rfl ?_);refine bE #[.int .i64 0,.int .i64 0,.int .i64 0,.int .i64 0,.int .i64 0] 105 ?_;intro i hg w5 j hb;have b:=qK (j);have ah:=qK (gS hg:w.heap.size≤i);have ai:=qK (gS hg:w.heap.size≤i);replace HB:=hQ hb;have s:=qK (nL hg a.out:m≠i);have t:=qK (nG hg a.out:i≠m);replace a:=bQ a hb;clear hb j hg;have ar:=s.out;have au:=t.out;obtain ⟨_,_,_,_,_,_⟩:=xC3 a.out)|((with_reducible refine zH (f:=54) rfl ?_);refine gL (some 7) Try.func54 #[.agg #[.slice q d.length r,.int .i64 c,.int .i64 g]] ?_;(with_reducible refine (zAA.calls k _ _ d c g o p _ ?side1 ?side2 A3.out).mono ?_);(case side1=>exact cS ac.out);(case side2=>exact HC0_0.out);rintro e w8 ⟨rfl,hb⟩;refine ⟨_,rfl,?_⟩;replace a:=bQ a hb;replace b:=bQ b hb;replace HB:=hQ hb)|((with_reducible refine zL (N:=5) rfl ?_);refine bE #[.int .i64 0,.int .i64 0] 24 ?_;intro n hg w9 j hb;have ad:=qK (j);have aj:=qK (gS hg:w.heap.size≤n);have ak:=qK (gS hg:w.heap.size≤n);replace HB:=hQ hb;have u:=qK (nL hg a.out:m≠n);have v:=qK (nG hg a.out:n≠m);replace a:=bQ a hb;have l:=qK (nL hg b.out:i≠n);have x:=qK (nG hg b.out:n≠i);replace b:=bQ b hb;clear hb j hg;have al:=v.out;have am:=u.out;have an:=x.out;have ao:=l.out;obtain ⟨_,_,_,_⟩:=xC2 ad.out;obtain ⟨_,_,_,_,_,_⟩:=xC3 a.out;obtain ⟨_,_,_,_,_,_,_,_,_,_⟩:=xC5 b.out))
 refine bodyPost_ret (results_cell_row rfl _ _ i 105 #[.int .i64 o,.int .i64 (wrap64 (p - a1)),.int .i64 a1,.int .i64 c,.int .i64 g] (0,0) _ rfl (by (repeat with_reducible first|apply zD|apply zF|apply zC);refine zP (cs:=#[.int .i64 o,.int .i64 (wrap64 (p - a1)),.int .i64 a1,.int .i64 c,.int .i64 0]) ?_ 4 _ rfl;(repeat with_reducible first|apply zD|apply zF|apply zC);refine zP (cs:=#[.int .i64 o,.int .i64 (wrap64 (p - a1)),.int .i64 a1,.int .i64 0,.int .i64 0]) ?_ 3 _ rfl;(repeat with_reducible first|apply zD|apply zF|apply zC);refine zP (cs:=#[.int .i64 o,.int .i64 (wrap64 (p - a1)),.int .i64 0,.int .i64 0,.int .i64 0]) ?_ 2 _ rfl;(repeat with_reducible first|apply zD|apply zF|apply zC);refine zP (cs:=#[.int .i64 o,.int .i64 0,.int .i64 0,.int .i64 0,.int .i64 0]) ?_ 1 _ rfl;(repeat with_reducible first|apply zD|apply zF|apply zC);refine zP (cs:=#[.int .i64 0,.int .i64 0,.int .i64 0,.int .i64 0,.int .i64 0]) ?_ 0 _ rfl;(repeat with_reducible first|apply zD|apply zF|apply zC);refine zO ?_ l.out _;(repeat with_reducible first|apply zD|apply zF|apply zC);refine zO ?_ l.out _;(repeat with_reducible first|apply zD|apply zF|apply zC);exact b.out) Try.underlying105 rfl (by kernel_rfl)) rfl ?_
 exact ⟨eA,bA⟩
def zl.l0:Nat→Int→List Int→Int→Int→Option (Int)
 | 0,_,_,_,_=>none
 | k+1,x3,x6,x7,x8=>if x8 < x7 then (if 0≤x8 then (if x8 < (x6.length:Int) then (zl.l0 k (wrap64 (x3+(rd x6 x8))) x6 x7 (wrap64 (x8+1))) else (none)) else (none)) else (some x3)
def zl.f (k:Nat) (l0:List Int):Option (Int):=zl.l0 k 0 l0 (l0.length:Int) 0
set_option maxHeartbeats 8000000 in
set_option maxRecDepth 100000 in
theorem zl.calls (k:Nat) (A0:Option Addr) (c0:Nat) (l0:List Int) (r:Int) (w:World) (hr0:Kd.C (Kd.int .i64) w A0 l0.length l0) (hc0:l0.length≤c0) (h:zl.f k l0=some r) :
 Calls Try.prog 66 #[.slice A0 l0.length c0] w fun e w'=>e= .returned (.int .i64 r)∧zY w w':=by
 have HR0:=zA.mk hr0
 have HC0:=zA.mk hc0
 clear hr0 hc0
 have H:(zl.l0 k 0 l0 (l0.length:Int) 0)=some r:=h
 clear h
 have H':=zA.mk H
 clear H
 go_enter Try.func66,Try.ntmps66
 go_wp2
 go_loopg [3,8] k (fun kq v3 v8 w'=>∃ (b:Int) (a:Int),v3= .int .i64 b∧v8= .int .i64 a∧zA (zl.l0 kq b l0 (l0.length:Int) a=some r)∧zA (kq≤k)∧zY w w')
 case atStart=>exact ⟨(0),(0),sA,sA,H',⟨Nat.le_refl _⟩,by repeat (first|exact zY.refl _|apply zY.step)⟩
 case round =>
  clear H'
  obtain ⟨b,a,rfl,rfl,HA,HK1,⟨m1,rfl⟩⟩:=hrel
  cases gk with
  | zero=>exact absurd HA.out (by simp [zl.l0])
  | succ k1 =>
   have H:=HA.out
   clear HA
   simp only [zl.l0] at H
   by_cases c2:a < (l0.length:Int)
   rotate_left
   ·rw [if_neg c2] at H
    have g:decide (a < (l0.length:Int))=false:=decide_eq_false c2
    clear c2
    obtain rfl:=Option.some.inj H
    go_wp2
    go_ret
    exact ⟨by first|rfl|(simp;done)|(simp [*];done),by repeat (first|exact zY.refl _|apply zY.step)⟩
   rw [if_pos c2] at H
   have g:decide (a < (l0.length:Int))=true:=decide_eq_true c2
   clear c2
   by_cases c3:0≤a
   rotate_left
   ·rw [if_neg c3] at H
    exact absurd H (by simp)
   rw [if_pos c3] at H
   have l:decide (0≤a)=true:=decide_eq_true c3
   clear c3
   by_cases c4:a < (l0.length:Int)
   rotate_left
   ·rw [if_neg c4] at H
    exact absurd H (by simp)
   rw [if_pos c4] at H
   have m:decide (a < (l0.length:Int))=true:=decide_eq_true c4
   clear c4
   have H':=zA.mk H
   clear H
   have c:0≤(a:Int):=dA
   have d:a < (l0.length:Int):=dA
   obtain ⟨j,e144,i⟩:=Kd.zAh HR0.out a c d
   cases e144
   replace c:=eq_true c
   replace d:=eq_true d
   go_wp2
   go_roundg k1
   case measure=>have:=HK1.out;omega
   case rel=>exact ⟨(wrap64 (b+(rd l0 a))),(wrap64 (a+1)),sA,sA,H',⟨by have:=HK1.out;omega⟩,by repeat (first|exact zY.refl _|apply zY.step)⟩
def zw.l0:Nat→Int→List Int→List Int→Int→Int→List (S50)→Int→Int→Option (List Int)
 | 0,_,_,_,_,_,_,_,_=>none
 | k+1,x2,x7,x12,x13,x14,a,b,c=>if x14 < x13 then (if 0≤x14 then (if x14 < (x12.length:Int) then (if 0≤(rd x12 x14) then (if (rd x12 x14) < (a.length:Int) then ((zBK.f ((zG a (rd x12 x14)).f0.f0) ((zG a (rd x12 x14)).f0.f1) ((zG a (rd x12 x14)).f1) ((zG a (rd x12 x14)).f2)).bind fun d=>(if x7.length < 17592186044416 then (zw.l0 k (wrap64 (x2 - (mn x2 d))) (x7 ++ [wrap64 ((wrap64 (((zG a (rd x12 x14)).f0.f0)+((zG a (rd x12 x14)).f2)))+(mn x2 d))]) x12 x13 (wrap64 (x14+1)) a b c) else (none))) else (none)) else (none)) else (none)) else (none)) else (some x7)
def zw.f (k:Nat) (a:List (S50)) (b:Int) (c:Int) (l1:List Int) (a2:Int):Option (List Int):=zw.l0 k a2 ([]:List Int) l1 (l1.length:Int) 0 a b c
set_option maxHeartbeats 8000000 in
set_option maxRecDepth 100000 in
theorem zw.calls (k:Nat) (ai:Option Addr) (aa:Nat) (c:List (S50)) (m:Int) (n:Int) (A1:Option Addr) (c1:Nat) (l1:List Int) (a2:Int) (r:List Int) (w:World) (ao:Kd.C k50 w ai c.length c) (ap:c.length≤aa) (hr1:Kd.C (Kd.int .i64) w A1 l1.length l1) (hc1:l1.length≤c1) (h:zw.f k c m n l1 a2=some r) :
 Calls Try.prog 71 #[.agg #[.slice ai c.length aa,.int .i64 m,.int .i64 n],.slice A1 l1.length c1,.int .i64 a2] w fun e w'=>∃ v0_:Value,e= .returned (v0_)∧Kd.R (Kd.int .i64) 3 w' w.heap.size (fun _=>True) v0_ r∧Below w.heap.size w w':=by
 have a6:=Try.underlying26
 have a7:=Try.underlying50
 have au:=zA.mk ao
 have HC0_0:=zA.mk ap
 clear ao ap
 have HR1:=zA.mk hr1
 have HC1:=zA.mk hc1
 clear hr1 hc1
 have HB:=zA.mk (Below.refl w.heap.size w)
 have H:(zw.l0 k a2 ([]:List Int) l1 (l1.length:Int) 0 c m n)=some r:=h
 clear h
 have H':=zA.mk H
 clear H
 go_enter Try.func71,Try.ntmps71
 go_wp2_with (first|((with_reducible refine zL (N:=3) rfl ?_);refine bE #[.slice ai c.length aa,.int .i64 m,.int .i64 n] 26 ?_;intro t hg w4 ac hb;have d:=qK (ac);have ay:=qK (gS hg:w.heap.size≤t);have az:=qK (gS hg:w.heap.size≤t);replace HB:=hQ hb;clear hb ac hg))
 go_loopg [2,7,14] k (fun kq v2 v7 v14 w'=>∃ (l:Int) (s:List Int) (a:Int),v2= .int .i64 l∧v14= .int .i64 a∧zA (zw.l0 kq l s l1 (l1.length:Int) a c m n=some r)∧zA (kq≤k)∧zA (Kd.R (Kd.int .i64) 3 w' w.heap.size (fun _=>True) v7 s)∧zA (w'.heap[t]? = some (.cells #[(.slice ai c.length aa),.int .i64 m,.int .i64 n] 26 (0,0)))∧zA (Below w.heap.size w w'))
 case atStart=>exact ⟨(a2),(([]:List Int)),(0),sA,sA,H',⟨Nat.le_refl _⟩,⟨by first|exact Kd.zBW _ _ _ _ _|exact Kd.zCK _ _ _ _ _|exact Kd.zCM _ _ _ _ _|exact Kd.zCL _ _ _ _ _|exact Kd.zCJ _ _ _ _ _⟩,⟨by (repeat with_reducible first|apply zD|apply zF|apply zC);exact d.out⟩,⟨bA⟩⟩
 case round =>
  clear H'
  try clear c1
  try clear p2
  obtain ⟨l,s,a,rfl,rfl,HA,HK1,u,d,HB⟩:=hrel
  cases gk with
  | zero=>exact absurd HA.out (by simp [zw.l0])
  | succ k1 =>
   have H:=HA.out
   clear HA
   simp only [zw.l0] at H
   by_cases c5:a < (l1.length:Int)
   rotate_left
   ·rw [if_neg c5] at H
    have ax:decide (a < (l1.length:Int))=false:=decide_eq_false c5
    clear c5
    obtain rfl:=Option.some.inj H
    go_wp2
    go_ret
    exact ⟨_,eA,by (with_reducible repeat (first|apply Kd.zAp|apply Kd.zAn|apply Kd.zAv));exact u.out,bA⟩
   rw [if_pos c5] at H
   have ax:decide (a < (l1.length:Int))=true:=decide_eq_true c5
   clear c5
   by_cases c6:0≤a
   rotate_left
   ·rw [if_neg c6] at H
    exact absurd H (by simp)
   rw [if_pos c6] at H
   have a8:decide (0≤a)=true:=decide_eq_true c6
   clear c6
   by_cases c7:a < (l1.length:Int)
   rotate_left
   ·rw [if_neg c7] at H
    exact absurd H (by simp)
   rw [if_pos c7] at H
   have a9:decide (a < (l1.length:Int))=true:=decide_eq_true c7
   clear c7
   by_cases c8:0≤(rd l1 a)
   rotate_left
   ·rw [if_neg c8] at H
    exact absurd H (by simp)
   rw [if_pos c8] at H
   have ba:decide (0≤(rd l1 a))=true:=decide_eq_true c8
   clear c8
   by_cases c9:(rd l1 a) < (c.length:Int)
   rotate_left
   ·rw [if_neg c9] at H
    exact absurd H (by simp)
   rw [if_pos c9] at H
   have bb:decide ((rd l1 a) < (c.length:Int))=true:=decide_eq_true c9
   clear c9
   replace H:=Option.bind_eq_some_iff.mp H
   obtain ⟨ab,A100,H⟩:=H
   replace H:(if s.length < 17592186044416 then (zw.l0 k1 (wrap64 (l - (mn l ab))) (s ++ [wrap64 ((wrap64 (((zG c (rd l1 a)).f0.f0)+((zG c (rd l1 a)).f2)))+(mn l ab))]) l1 (l1.length:Int) (wrap64 (a+1)) c m n) else (none))=some r:=H
   have A10:=zA.mk A100
   clear A100
   obtain ⟨v,x⟩ : ∃ j_:Int,(mn l ab)=j_:=⟨_,rfl⟩
   replace H:(if s.length < 17592186044416 then (zw.l0 k1 (wrap64 (l - (v))) (s ++ [wrap64 ((wrap64 (((zG c (rd l1 a)).f0.f0)+((zG c (rd l1 a)).f2)))+(v))]) l1 (l1.length:Int) (wrap64 (a+1)) c m n) else (none))=some r:=by first|(rw [x] at H;exact H)|(simp only [x] at H ⊢;exact H)
   (try rw [x] at A10)
   have hji11_:(if ab < l then ab else l)=v:=x
   by_cases c12:s.length < 17592186044416
   rotate_left
   ·rw [if_neg c12] at H
    exact absurd H (by simp)
   rw [if_pos c12] at H
   have LMc12:=zA.mk c12
   clear c12
   obtain ⟨ar,y⟩ : ∃ y_:List Int,y_=(s ++ [wrap64 ((wrap64 (((zG c (rd l1 a)).f0.f0)+((zG c (rd l1 a)).f2)))+(v))]):=⟨_,rfl⟩
   replace H:(zw.l0 k1 (wrap64 (l - (v))) ar l1 (l1.length:Int) (wrap64 (a+1)) c m n)=some r:=by first|(rw [y];with_reducible exact H)|(have H2_:=(Option.bind_some _ _).symm.trans H;rw [y];with_reducible exact H2_)|(have H2_:=(Option.bind_some _ _).symm.trans H;with_reducible exact H2_)|with_reducible exact H|(rw [y];exact H)|exact H
   have av:=zA.mk y
   clear y
   have H':=zA.mk H
   clear H
   have ak:0≤(a:Int):=dA
   have al:a < (l1.length:Int):=dA
   obtain ⟨a0,e146,ad⟩:=Kd.zAh HR1.out a ak al
   cases e146
   replace ad:=hC HB.out ad
   replace ak:=eq_true ak
   replace al:=eq_true al
   obtain ⟨_,_,_,_,_,_⟩:=xC3 d.out
   have am:0≤((rd l1 a):Int):=dA
   have an:(rd l1 a) < (c.length:Int):=dA
   obtain ⟨aq,e147,ae,af,ag,ah⟩:=zA9 au.out (rd l1 a) am an
   cases e147
   replace ae:=hC HB.out ae
   replace af:=hC HB.out af
   replace ag:=hC HB.out ag
   replace ah:=hC HB.out ah
   replace am:=eq_true am
   replace an:=eq_true an
   go_wp2_with (first|((with_reducible refine zL (N:=10) rfl ?_);refine bE #[.int .i64 0,.int .i64 0,.int .i64 0,.int .i64 0] 50 ?_;intro i hg w14 ac hb;replace u:=rB u hb;have q:=qK (ac);have a1:=qK (gS hg:w.heap.size≤i);have a3:=qK (gS hg:w.heap.size≤i);replace HB:=hQ hb;have j:=qK (nL hg d.out:t≠i);have aj:=qK (nG hg d.out:i≠t);replace d:=bQ d hb;clear hb ac hg;have a4:=aj.out;have a5:=j.out;obtain ⟨_,_,_,_,_,_,_,_⟩:=xC4 q.out)|((with_reducible refine zH (f:=97) rfl ?_);refine gL (some 25) Try.func97 #[.agg #[.int .i64 ((zG c (rd l1 a)).f0.f0),.int .i64 ((zG c (rd l1 a)).f0.f1),.int .i64 ((zG c (rd l1 a)).f1),.int .i64 ((zG c (rd l1 a)).f2)]] ?_;(with_reducible refine (zBK.calls ((zG c (rd l1 a)).f0.f0) ((zG c (rd l1 a)).f0.f1) ((zG c (rd l1 a)).f1) ((zG c (rd l1 a)).f2) ab _ A10.out).mono ?_);rintro e w17 ⟨rfl,hb⟩;refine ⟨_,rfl,?_⟩;replace u:=qK (Kd.z8 (rS ((Kd.zR (Kd.zM (p:=⟨i,3,none⟩) (Kd.zM (p:=⟨i,2,none⟩) (Kd.zM (p:=⟨i,1,none⟩) (Kd.zM (p:=⟨i,0,none⟩) (Kd.ze u.out q.out (by decide)) (fun _ hk=>hk.2) (.int .i64 ((zG c (rd l1 a)).f0.f0))) (fun _ hk=>hk.2) (.int .i64 ((zG c (rd l1 a)).f0.f1))) (fun _ hk=>hk.2) (.int .i64 ((zG c (rd l1 a)).f1))) (fun _ hk=>hk.2) (.int .i64 ((zG c (rd l1 a)).f2))) (fun _ h_=>h_.1)))) hb);replace d:=qK (zT (g:=t) (o:=.cells #[.slice (some aq) c.length aa,.int .i64 m,.int .i64 n] 26 (0,0)) (by (repeat with_reducible first|apply zD|apply zF|apply zC);refine zO ?_ j.out _;(repeat with_reducible first|apply zD|apply zF|apply zC);refine zO ?_ j.out _;(repeat with_reducible first|apply zD|apply zF|apply zC);refine zO ?_ j.out _;(repeat with_reducible first|apply zD|apply zF|apply zC);refine zO ?_ j.out _;(repeat with_reducible first|apply zD|apply zF|apply zC);exact d.out) hb);replace q:=qK (zT (g:=i) (o:=.cells #[.int .i64 ((zG c (rd l1 a)).f0.f0),.int .i64 ((zG c (rd l1 a)).f0.f1),.int .i64 ((zG c (rd l1 a)).f1),.int .i64 ((zG c (rd l1 a)).f2)] 50 (0,0)) (by (repeat with_reducible first|apply zD|apply zF|apply zC);refine zP (cs:=#[.int .i64 ((zG c (rd l1 a)).f0.f0),.int .i64 ((zG c (rd l1 a)).f0.f1),.int .i64 ((zG c (rd l1 a)).f1),.int .i64 0]) ?_ 3 _ rfl;(repeat with_reducible first|apply zD|apply zF|apply zC);refine zP (cs:=#[.int .i64 ((zG c (rd l1 a)).f0.f0),.int .i64 ((zG c (rd l1 a)).f0.f1),.int .i64 0,.int .i64 0]) ?_ 2 _ rfl;(repeat with_reducible first|apply zD|apply zF|apply zC);refine zP (cs:=#[.int .i64 ((zG c (rd l1 a)).f0.f0),.int .i64 0,.int .i64 0,.int .i64 0]) ?_ 1 _ rfl;(repeat with_reducible first|apply zD|apply zF|apply zC);refine zP (cs:=#[.int .i64 0,.int .i64 0,.int .i64 0,.int .i64 0]) ?_ 0 _ rfl;(repeat with_reducible first|apply zD|apply zF|apply zC);exact q.out) hb);replace HB:=hQ hb;obtain ⟨_,_,_,_,_,_,_,_⟩:=xC4 q.out)|((with_reducible refine zBF (b:=.append) (xs:=#[.tmp 30,.tmp 39]) rfl ?_);at_builtin;refine Kd.zBq (Kd.int .i64) (w0:=w) w.heap.size rfl (.tmp 30) (.tmp 39) 27 3 (.int .i64 0) 8 rfl Try.underlying27 info3 rfl (by decide) (by omega) u7 s (wrap64 ((wrap64 (((zG c (rd l1 a)).f0.f0)+((zG c (rd l1 a)).f2)))+(v))) [.int .i64 (wrap64 ((wrap64 (((zG c (rd l1 a)).f0.f0)+((zG c (rd l1 a)).f2)))+(v)))] (fun _=>True) (fun _=>False) rfl rfl ?aP (fun _ hk=>hk.elim) ?aF ?aO ?aB ?aS ?aL ?_;(case aP=>exact rfl);(case aB=>exact bA);(case aF=>exact (fun _ _=>trivial));(case aO=>exact (rS u.out));(case aS=>exact bZ);(case aL=>have:=LMc12.out;omega);intro v151 w19 ho hb hg hat;rw [← av.out] at ho;replace d:=qK (zA0 (g:=t) (o:=.cells #[.slice (some aq) c.length aa,.int .i64 m,.int .i64 n] 26 (0,0)) (bX d.out) hg (Kd.zA6 u.out d.out (by decide)));replace q:=qK (zA0 (g:=i) (o:=.cells #[.int .i64 ((zG c (rd l1 a)).f0.f0),.int .i64 ((zG c (rd l1 a)).f0.f1),.int .i64 ((zG c (rd l1 a)).f1),.int .i64 ((zG c (rd l1 a)).f2)] 50 (0,0)) (bX q.out) hg (Kd.zA6 u.out q.out (by decide)));replace HB:=qK (hb);have aw:=qK (ho);clear u;clear ho hb hg hat))
   go_roundg k1
   case measure=>have:=HK1.out;omega
   case rel=>exact ⟨(wrap64 (l - (v))),(ar),(wrap64 (a+1)),(by first|rfl|(simp;done)|(simp only [← x] <;> (first|rfl|simp))|(simp [*];done)),sA,H',⟨by have:=HK1.out;omega⟩,⟨by (with_reducible repeat (first|apply Kd.zAp|apply Kd.zAn|apply Kd.zAv));exact aw.out⟩,⟨by (repeat with_reducible first|apply zD|apply zF|apply zC);exact d.out⟩,⟨bA⟩⟩
def zAM.f (a:Int) (b:Int) (c:Int) (d:Int) (e:Int):Option (Int × Int):=some (mx 0 (wrap64 (d - b)),mn c (wrap64 (e - a)))
set_option maxHeartbeats 8000000 in
set_option maxRecDepth 100000 in
theorem zAM.calls (b:Int) (g:Int) (c:Int) (i:Int) (d:Int) (r1:Int) (r2:Int) (w:World) (h:zAM.f b g c i d=some (r1,r2)) :
 Calls Try.prog 78 #[.agg #[.int .i64 b,.int .i64 g,.int .i64 c,.int .i64 i,.int .i64 d]] w fun e w'=>e= .returned (.tuple #[.int .i64 r1,.int .i64 r2])∧Below w.heap.size w w':=by
 have p:=Try.underlying105
 have HB:=zA.mk (Below.refl w.heap.size w)
 have H:(some (mx 0 (wrap64 (i - g)),mn c (wrap64 (d - b))))=some (r1,r2):=h
 clear h
 obtain ⟨ji2,l⟩ : ∃ j_:Int,(mx 0 (wrap64 (i - g)))=j_:=⟨_,rfl⟩
 replace H:(some (ji2,mn c (wrap64 (d - b))))=some (r1,r2):=by first|(rw [l] at H;exact H)|(simp only [l] at H ⊢;exact H)
 (try (have hji2l:0≤ji2:=by (rw [← l];unfold mx;(repeat' split) <;> omega)))
 (try (have hji2m:0≤ji2:=by omega))
 have hji2_:(if 0 < (wrap64 (i - g)) then (wrap64 (i - g)) else 0)=ji2:=l
 obtain ⟨ji3,m⟩ : ∃ j_:Int,(mn c (wrap64 (d - b)))=j_:=⟨_,rfl⟩
 replace H:(some (ji2,ji3))=some (r1,r2):=by first|(rw [m] at H;exact H)|(simp only [m] at H ⊢;exact H)
 have hji3_:(if (wrap64 (d - b)) < c then (wrap64 (d - b)) else c)=ji3:=m
 simp only [Option.some.injEq,Prod.mk.injEq] at H
 obtain ⟨rfl,rfl⟩:=H
 go_enter Try.func78,Try.ntmps78
 go_wp2_with (first|((with_reducible refine zL (N:=1) rfl ?_);refine bE #[.int .i64 b,.int .i64 g,.int .i64 c,.int .i64 i,.int .i64 d] 105 ?_;intro a hg w4 j hb;have k:=qK (j);have n:=qK (gS hg:w.heap.size≤a);have o:=qK (gS hg:w.heap.size≤a);replace HB:=hQ hb;clear hb j hg;obtain ⟨_,_,_,_,_,_,_,_,_,_⟩:=xC5 k.out))
 repeat (go_quiet (first|((with_reducible refine zL (N:=1) rfl ?_);refine bE #[.int .i64 b,.int .i64 g,.int .i64 c,.int .i64 i,.int .i64 d] 105 ?_;intro a hg w4 j hb;have k:=qK (j);have n:=qK (gS hg:w.heap.size≤a);have o:=qK (gS hg:w.heap.size≤a);replace HB:=hQ hb;clear hb j hg;obtain ⟨_,_,_,_,_,_,_,_,_,_⟩:=xC5 k.out));try go_wp2_with (first|((with_reducible refine zL (N:=1) rfl ?_);refine bE #[.int .i64 b,.int .i64 g,.int .i64 c,.int .i64 i,.int .i64 d] 105 ?_;intro a hg w4 j hb;have k:=qK (j);have n:=qK (gS hg:w.heap.size≤a);have o:=qK (gS hg:w.heap.size≤a);replace HB:=hQ hb;clear hb j hg;obtain ⟨_,_,_,_,_,_,_,_,_,_⟩:=xC5 k.out)))
 go_ret2
 exact ⟨by first|rfl|(simp [zAQ,zAP] <;> rfl)|(simp only [← l,← m];first|rfl|(simp [zAQ,zAP] <;> rfl))|(simp [*,zAQ,zAP] <;> rfl),bA⟩
def zAE.f (b:Int) (c:Int) (g:Int) (d:Int) (e:Int) (a1:Int):Option (Int × Int):=(zh.f (wrap64 (b+a1)) (wrap64 (c+a1)) d e).bind fun a=>(some (a.1,a.2.1))
set_option maxHeartbeats 8000000 in
set_option maxRecDepth 100000 in
theorem zAE.calls (k:Int) (l:Int) (u:Int) (m:Int) (n:Int) (a1:Int) (r1:Int) (r2:Int) (w:World) (h:zAE.f k l u m n a1=some (r1,r2)) :
 Calls Try.prog 79 #[.agg #[.int .i64 k,.int .i64 l,.int .i64 u,.int .i64 m,.int .i64 n],.int .i64 a1] w fun e w'=>e= .returned (.agg #[.int .i64 r1,.int .i64 r2])∧Below w.heap.size w w':=by
 have ab:=Try.underlying105
 have am:=Try.underlying24
 have HB:=zA.mk (Below.refl w.heap.size w)
 have H:((zh.f (wrap64 (k+a1)) (wrap64 (l+a1)) m n).bind fun x=>(some (x.1,x.2.1)))=some (r1,r2):=h
 clear h
 replace H:=Option.bind_eq_some_iff.mp H
 obtain ⟨⟨o,v,aa⟩,A30,H⟩:=H
 replace H:(some (o,v))=some (r1,r2):=H
 have A3:=zA.mk A30
 clear A30
 simp only [Option.some.injEq,Prod.mk.injEq] at H
 obtain ⟨rfl,rfl⟩:=H
 go_enter Try.func79,Try.ntmps79
 go_wp2_with (first|((with_reducible refine zL (N:=2) rfl ?_);refine bE #[.int .i64 k,.int .i64 l,.int .i64 u,.int .i64 m,.int .i64 n] 105 ?_;intro i hg w4 d hb;have a:=qK (d);have ac:=qK (gS hg:w.heap.size≤i);have ad:=qK (gS hg:w.heap.size≤i);replace HB:=hQ hb;clear hb d hg)|((with_reducible refine zL (N:=4) rfl ?_);refine bE #[.int .i64 0,.int .i64 0] 24 ?_;intro c hg w5 d hb;have b:=qK (d);have ae:=qK (gS hg:w.heap.size≤c);have af:=qK (gS hg:w.heap.size≤c);replace HB:=hQ hb;have p:=qK (nL hg a.out:i≠c);have q:=qK (nG hg a.out:c≠i);replace a:=bQ a hb;clear hb d hg;have an:=p.out;have ao:=q.out;obtain ⟨_,_,_,_,_,_,_,_,_,_⟩:=xC5 a.out)|((with_reducible refine zH (f:=53) rfl ?_);refine gL (some 21) Try.func53 #[.agg #[.int .i64 (wrap64 (k+a1)),.int .i64 (wrap64 (l+a1))],.agg #[.int .i64 m,.int .i64 n]] ?_;(with_reducible refine (zh.calls (wrap64 (k+a1)) (wrap64 (l+a1)) m n o v aa _ A3.out).mono ?_);rintro e w8 ⟨rfl,hb⟩;refine ⟨_,rfl,?_⟩;replace a:=bQ a hb;replace b:=bQ b hb;replace HB:=hQ hb)|((with_reducible refine zL (N:=5) rfl ?_);refine bE #[.int .i64 0,.int .i64 0] 24 ?_;intro j hg w9 d hb;have y:=qK (d);have ag:=qK (gS hg:w.heap.size≤j);have ah:=qK (gS hg:w.heap.size≤j);replace HB:=hQ hb;have r:=qK (nL hg a.out:i≠j);have s:=qK (nG hg a.out:j≠i);replace a:=bQ a hb;have g:=qK (nL hg b.out:c≠j);have t:=qK (nG hg b.out:j≠c);replace b:=bQ b hb;clear hb d hg;have ai:=s.out;have aj:=r.out;have ak:=t.out;have al:=g.out;obtain ⟨_,_,_,_⟩:=xC2 y.out;obtain ⟨_,_,_,_⟩:=xC2 b.out))
 refine bodyPost_ret (results_cell_row rfl _ _ c 24 #[.int .i64 o,.int .i64 v] (0,0) _ rfl (by (repeat with_reducible first|apply zD|apply zF|apply zC);refine zP (cs:=#[.int .i64 o,.int .i64 0]) ?_ 1 _ rfl;(repeat with_reducible first|apply zD|apply zF|apply zC);refine zP (cs:=#[.int .i64 0,.int .i64 0]) ?_ 0 _ rfl;(repeat with_reducible first|apply zD|apply zF|apply zC);refine zO ?_ g.out _;(repeat with_reducible first|apply zD|apply zF|apply zC);refine zO ?_ g.out _;(repeat with_reducible first|apply zD|apply zF|apply zC);exact b.out) Try.underlying24 rfl (by kernel_rfl)) rfl ?_
 exact ⟨eA,bA⟩
end Go.Proofs.Ythimaecnpkcmeaa.K
