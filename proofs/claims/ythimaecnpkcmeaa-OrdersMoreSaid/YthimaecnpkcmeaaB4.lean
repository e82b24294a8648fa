/- Contracts of Go functions and lemmas for them: each theorem states what one function returns and what it leaves of memory; its conditions stand in its statement. -/
import Derived.Test.YthimaecnpkcmeaaB3
set_option linter.unusedVariables false
set_option linter.unusedSimpArgs false
namespace Go.Proofs.Ythimaecnpkcmeaa.K
open Go.RowKit Go.Proofs.YthimaecnpkcmeaaW.PrintWords Go.Proofs.YthimaecnpkcmeaaW.PrintLast Go.Proofs.YthimaecnpkcmeaaW.PrintMore
attribute [local go_sem] zAX zAW zAg zAf zAF zAG zAU zAV   -- for this text's walks alone
set_option linter.unusedVariables false
set_option linter.unusedSimpArgs false
mutual
def zK.j0:Nat→Bool→List (S50)→Int→Int→Option (Int)
 | 0,_,_,_,_=>none
 | k+1,x17,a,b,c=>if x17=true then (some 80) else (zK.l0 k a (a.length:Int) 0 a b c)
def zK.l0:Nat→List (S50)→Int→Int→List (S50)→Int→Int→Option (Int)
 | 0,_,_,_,_,_,_=>none
 | k+1,x19,x20,x21,a,b,c=>if x21 < x20 then (if 0≤x21 then (if x21 < (x19.length:Int) then ((zA5.f ((zG x19 x21).f0.f0) ((zG x19 x21).f0.f1) 1073741824).bind fun g=>(if g=true then ((zk.f ((zG x19 x21).f1) 0 10000).bind fun h=>(if h=true then ((zk.f ((zG x19 x21).f2) 0 1048576).bind fun i=>(if i=true then (zK.l0 k x19 x20 (wrap64 (x21+1)) a b c) else (some 80))) else (some 80))) else (some 80))) else (none)) else (none)) else ((zAA.f k a b c).bind fun d=>((zh.f d.1 d.2 b c).bind fun e=>(if e.2.2=true then (some 0) else (some 80))))
end
def zK.f (k:Nat) (a:List (S50)) (b:Int) (c:Int):Option (Int):=(zk.f (a.length:Int) 1 12).bind fun d=>(if d=true then ((zA5.f b c 17179869184).bind fun e=>(zK.j0 k (!e) a b c)) else (zK.j0 k true a b c))
def zK.T9:Bool × List (List Nat × List Nat):=(true,[([],[]),([0],[0]),([],[]),([2],[2]),([1,3,1],[1,3]),([4],[4]),([5],[5]),([5],[5]),([],[]),([8,6,4,0,1,2,3,4,5,6,8],[6,8]),([7,9,0,1,2,3,4,5,6,7,8,9],[7])])
def zK.B9:List Nat:=[0,1,0,4,15,31,63,63,0,383,1023]
theorem zK.tab9:zBQ .any (opsOf Try.f45 9)=zK.T9:=by kernel_rfl
theorem zK.bits9:zBA zK.T9.2 zK.B9=true:=by kernel_rfl
set_option maxHeartbeats 8000000 in
set_option maxRecDepth 100000 in
theorem zK.calls (k:Nat) (ai:Option Addr) (ac:Nat) (b:List (S50)) (q:Int) (s:Int) (r:Int) (w:World) (bg:Kd.C k50 w ai b.length b) (bh:b.length≤ac) (h:zK.f k b q s=some r) :
 Calls Try.prog 45 #[.agg #[.slice ai b.length ac,.int .i64 q,.int .i64 s]] w fun e w'=>e= .returned (.int .i64 r)∧Below w.heap.size w w':=by
 have ch:=Try.underlying26
 have ci:=Try.underlying24
 have cj:=Try.underlying50
 have au:=zA.mk bg
 have HC0_0:=zA.mk bh
 clear bg bh
 have HB:=zA.mk (Below.refl w.heap.size w)
 have H:((zk.f (b.length:Int) 1 12).bind fun a1=>(if a1=true then ((zA5.f q s 17179869184).bind fun aw=>(zK.j0 k (!aw) b q s)) else (zK.j0 k true b q s)))=some r:=h
 clear h
 have HC2:=zA.mk H
 clear H
 go_enter Try.func45,Try.ntmps45
 go_upto_region 1 with (first|((with_reducible refine zL (N:=1) rfl ?_);refine bE #[.slice ai b.length ac,.int .i64 q,.int .i64 s] 26 ?_;intro l hg w3 aa hb;have a:=qK (aa);have b1:=qK (gS hg:w.heap.size≤l);have b2:=qK (gS hg:w.heap.size≤l);replace HB:=hQ hb;clear hb aa hg))
 (try simp only [Act.put,List.setIfInBounds_toArray,List.set_cons_zero,List.set_cons_succ])
 go_cut [17] (fun v17 wc=>∃ (kq:Nat) (a0:Bool),v17= .bool a0∧zA (zK.j0 kq a0 b q s=some r)∧zA (kq≤k)∧zA (wc.heap[l]? = some (.cells #[(.slice ai b.length ac),.int .i64 q,.int .i64 s] 26 (0,0)))∧zA (Below w.heap.size w wc))
 case first =>
  have H:=HC2.out
  clear HC2
  replace H:=Option.bind_eq_some_iff.mp H
  obtain ⟨a1,A40,H⟩:=H
  replace H:(if a1=true then ((zA5.f q s 17179869184).bind fun aw=>(zK.j0 k (!aw) b q s)) else (zK.j0 k true b q s))=some r:=H
  have A4:=zA.mk A40
  clear A40
  by_cases c5:a1=true
  rotate_left
  ·replace c5:=Bool.eq_false_iff.mpr c5
   subst c5
   have H1:(zK.j0 k true b q s)=some r:=by rw [if_neg (show ¬ (false=true) by decide)] at H;exact H
   clear H
   have H:=H1
   clear H1
   have H':=zA.mk H
   clear H
   obtain ⟨a4,a5,a6,a7,a8,a9⟩:=xC3 a.out
   go_wp2_with (first|((with_reducible refine zH (f:=52) rfl ?_);refine gL (some 10) Try.func52 #[.int .i64 (b.length:Int),.int .i64 1,.int .i64 12] ?_;(with_reducible refine (zk.calls (b.length:Int) 1 12 false _ A4.out).mono ?_);rintro e w' ⟨rfl,⟨nd,rfl⟩⟩;refine ⟨_,rfl,?_⟩))
   go_meet
   case rel=>exact ⟨_,(true),sA,H',⟨by first|omega|exact Nat.le_refl _⟩,⟨by (repeat with_reducible first|apply zD|apply zF|apply zC);exact a.out⟩,⟨bA⟩⟩
  subst c5
  have H1:((zA5.f q s 17179869184).bind fun aw=>(zK.j0 k (!aw) b q s))=some r:=by rw [if_pos rfl] at H;exact H
  clear H
  have H:=H1
  clear H1
  replace H:=Option.bind_eq_some_iff.mp H
  obtain ⟨aw,A60,H⟩:=H
  replace H:(zK.j0 k (!aw) b q s)=some r:=H
  have A6:=zA.mk A60
  clear A60
  have H':=zA.mk H
  clear H
  obtain ⟨ba,bb,bc,bd,be,bf⟩:=xC3 a.out
  go_wp2_with (first|((with_reducible refine zH (f:=52) rfl ?_);refine gL (some 10) Try.func52 #[.int .i64 (b.length:Int),.int .i64 1,.int .i64 12] ?_;(with_reducible refine (zk.calls (b.length:Int) 1 12 true _ A4.out).mono ?_);rintro e w' ⟨rfl,⟨nd,rfl⟩⟩;refine ⟨_,rfl,?_⟩)|(go_at_call 77;(with_reducible refine (zA5.calls q s 17179869184 aw _ A6.out).mono ?_);rintro e w8 ⟨rfl,hb⟩;replace a:=bQ a hb;replace HB:=hQ hb))
  go_meet
  case rel=>exact ⟨_,(!aw),sA,H',⟨by first|omega|exact Nat.le_refl _⟩,⟨by (repeat with_reducible first|apply zD|apply zF|apply zC);exact a.out⟩,⟨bA⟩⟩
 case rest =>
  clear HC2
  try clear p2
  try clear c4
  try clear c5
  try clear ba
  try clear bb
  try clear bc
  try clear a4
  try clear a5
  try clear a6
  try clear bd
  try clear be
  try clear bf
  try clear a7
  try clear a8
  try clear a9
  obtain ⟨kq,a0,rfl,HA,HJ1,a,HB⟩:=hcut
  cases kq with
  | zero=>exact absurd HA.out (by simp [zK.j0])
  | succ kj1 =>
   have H:=HA.out
   clear HA
   simp only [zK.j0] at H
   by_cases c10:a0=true
   ·subst c10
    have H1:(some 80)=some r:=by rw [if_pos rfl] at H;exact H
    clear H
    have H:=H1
    clear H1
    obtain rfl:=Option.some.inj H
    go_wp2
    go_ret
    exact ⟨eA,bA⟩
   replace c10:=Bool.eq_false_iff.mpr c10
   subst c10
   have H1:(zK.l0 kj1 b (b.length:Int) 0 b q s)=some r:=by rw [if_neg (show ¬ (false=true) by decide)] at H;exact H
   clear H
   have H:=H1
   clear H1
   have H':=zA.mk H
   clear H
   obtain ⟨bi,bj,bk,bl,bm,bn⟩:=xC3 a.out
   go_wp2
   go_loopg [21] kj1 (fun kq v21 w'=>∃ (c:Int),v21= .int .i64 c∧zA (zK.l0 kq b (b.length:Int) c b q s=some r)∧zA (kq≤kj1)∧zA (w'.heap[l]? = some (.cells #[(.slice ai b.length ac),.int .i64 q,.int .i64 s] 26 (0,0)))∧zA (Below w.heap.size w w'))
   case atStart=>exact ⟨(0),sA,H',⟨Nat.le_refl _⟩,⟨by (repeat with_reducible first|apply zD|apply zF|apply zC);exact a.out⟩,⟨bA⟩⟩
   case round =>
    clear H'
    try clear c1
    try clear p2
    try clear c4
    try clear c5
    try clear c10
    try clear bi
    try clear bj
    try clear bk
    try clear ba
    try clear bb
    try clear bc
    try clear a4
    try clear a5
    try clear a6
    try clear bl
    try clear bm
    try clear bn
    try clear bd
    try clear be
    try clear bf
    try clear a7
    try clear a8
    try clear a9
    try clear p2
    obtain ⟨c,rfl,HA,HK2,a,HB⟩:=hrel
    cases gk with
    | zero=>exact absurd HA.out (by simp [zK.l0])
    | succ k2 =>
     have H:=HA.out
     clear HA
     simp only [zK.l0] at H
     by_cases c12:c < (b.length:Int)
     ·rw [if_pos c12] at H
      have bq:decide (c < (b.length:Int))=true:=decide_eq_true c12
      clear c12
      by_cases c13:0≤c
      rotate_left
      ·rw [if_neg c13] at H
       exact absurd H (by simp)
      rw [if_pos c13] at H
      have b3:decide (0≤c)=true:=decide_eq_true c13
      clear c13
      by_cases c14:c < (b.length:Int)
      rotate_left
      ·rw [if_neg c14] at H
       exact absurd H (by simp)
      rw [if_pos c14] at H
      have b4:decide (c < (b.length:Int))=true:=decide_eq_true c14
      clear c14
      replace H:=Option.bind_eq_some_iff.mp H
      obtain ⟨bo,A150,H⟩:=H
      replace H:(if bo=true then ((zk.f ((zG b c).f1) 0 10000).bind fun az=>(if az=true then ((zk.f ((zG b c).f2) 0 1048576).bind fun av=>(if av=true then (zK.l0 k2 b (b.length:Int) (wrap64 (c+1)) b q s) else (some 80))) else (some 80))) else (some 80))=some r:=H
      have A15:=zA.mk A150
      clear A150
      by_cases c16:bo=true
      rotate_left
      ·replace c16:=Bool.eq_false_iff.mpr c16
       subst c16
       have H1:(some 80)=some r:=by rw [if_neg (show ¬ (false=true) by decide)] at H;exact H
       clear H
       have H:=H1
       clear H1
       obtain rfl:=Option.some.inj H
       have ao:0≤(c:Int):=dA
       have ap:c < (b.length:Int):=dA
       obtain ⟨ax,e113,ae,af,ag,ah⟩:=zA9 au.out c ao ap
       cases e113
       replace ae:=hC HB.out ae
       replace af:=hC HB.out af
       replace ag:=hC HB.out ag
       replace ah:=hC HB.out ah
       replace ao:=eq_true ao
       replace ap:=eq_true ap
       go_wp2_with (first|((with_reducible refine zL (N:=4) rfl ?_);refine bE #[.int .i64 0,.int .i64 0,.int .i64 0,.int .i64 0] 50 ?_;intro ab hg w36 aa hb;have ad:=qK (aa);have a2:=qK (gS hg:w.heap.size≤ab);have a3:=qK (gS hg:w.heap.size≤ab);replace HB:=hQ hb;have u:=qK (nL hg a.out:l≠ab);have al:=qK (nG hg a.out:ab≠l);replace a:=bQ a hb;clear hb aa hg;have b5:=al.out;have b6:=u.out;obtain ⟨_,_,_,_,_,_,_,_⟩:=xC4 ad.out)|((with_reducible refine zH (f:=77) rfl ?_);refine gL (some 27) Try.func77 #[.agg #[.int .i64 ((zG b c).f0.f0),.int .i64 ((zG b c).f0.f1)],.int .i64 1073741824] ?_;(with_reducible refine (zA5.calls ((zG b c).f0.f0) ((zG b c).f0.f1) 1073741824 false _ A15.out).mono ?_);rintro e w39 ⟨rfl,hb⟩;refine ⟨_,rfl,?_⟩;replace a:=qK (zT (g:=l) (o:=.cells #[.slice (some ax) b.length ac,.int .i64 q,.int .i64 s] 26 (0,0)) (by (repeat with_reducible first|apply zD|apply zF|apply zC);refine zO ?_ u.out _;(repeat with_reducible first|apply zD|apply zF|apply zC);refine zO ?_ u.out _;(repeat with_reducible first|apply zD|apply zF|apply zC);refine zO ?_ u.out _;(repeat with_reducible first|apply zD|apply zF|apply zC);refine zO ?_ u.out _;(repeat with_reducible first|apply zD|apply zF|apply zC);exact a.out) hb);replace ad:=qK (zT (g:=ab) (o:=.cells #[.int .i64 ((zG b c).f0.f0),.int .i64 ((zG b c).f0.f1),.int .i64 ((zG b c).f1),.int .i64 ((zG b c).f2)] 50 (0,0)) (by (repeat with_reducible first|apply zD|apply zF|apply zC);refine zP (cs:=#[.int .i64 ((zG b c).f0.f0),.int .i64 ((zG b c).f0.f1),.int .i64 ((zG b c).f1),.int .i64 0]) ?_ 3 _ rfl;(repeat with_reducible first|apply zD|apply zF|apply zC);refine zP (cs:=#[.int .i64 ((zG b c).f0.f0),.int .i64 ((zG b c).f0.f1),.int .i64 0,.int .i64 0]) ?_ 2 _ rfl;(repeat with_reducible first|apply zD|apply zF|apply zC);refine zP (cs:=#[.int .i64 ((zG b c).f0.f0),.int .i64 0,.int .i64 0,.int .i64 0]) ?_ 1 _ rfl;(repeat with_reducible first|apply zD|apply zF|apply zC);refine zP (cs:=#[.int .i64 0,.int .i64 0,.int .i64 0,.int .i64 0]) ?_ 0 _ rfl;(repeat with_reducible first|apply zD|apply zF|apply zC);exact ad.out) hb);replace HB:=hQ hb))
       go_ret
       exact ⟨eA,bA⟩
      subst c16
      have H1:((zk.f ((zG b c).f1) 0 10000).bind fun az=>(if az=true then ((zk.f ((zG b c).f2) 0 1048576).bind fun av=>(if av=true then (zK.l0 k2 b (b.length:Int) (wrap64 (c+1)) b q s) else (some 80))) else (some 80)))=some r:=by rw [if_pos rfl] at H;exact H
      clear H
      have H:=H1
      clear H1
      replace H:=Option.bind_eq_some_iff.mp H
      obtain ⟨az,A170,H⟩:=H
      replace H:(if az=true then ((zk.f ((zG b c).f2) 0 1048576).bind fun av=>(if av=true then (zK.l0 k2 b (b.length:Int) (wrap64 (c+1)) b q s) else (some 80))) else (some 80))=some r:=H
      have A17:=zA.mk A170
      clear A170
      by_cases c18:az=true
      rotate_left
      ·replace c18:=Bool.eq_false_iff.mpr c18
       subst c18
       have H1:(some 80)=some r:=by rw [if_neg (show ¬ (false=true) by decide)] at H;exact H
       clear H
       have H:=H1
       clear H1
       obtain rfl:=Option.some.inj H
       have ao:0≤(c:Int):=dA
       have ap:c < (b.length:Int):=dA
       obtain ⟨ax,e113,ae,af,ag,ah⟩:=zA9 au.out c ao ap
       cases e113
       replace ae:=hC HB.out ae
       replace af:=hC HB.out af
       replace ag:=hC HB.out ag
       replace ah:=hC HB.out ah
       replace ao:=eq_true ao
       replace ap:=eq_true ap
       go_wp2_with (first|((with_reducible refine zL (N:=4) rfl ?_);refine bE #[.int .i64 0,.int .i64 0,.int .i64 0,.int .i64 0] 50 ?_;intro ab hg w31 aa hb;have ad:=qK (aa);have a2:=qK (gS hg:w.heap.size≤ab);have a3:=qK (gS hg:w.heap.size≤ab);replace HB:=hQ hb;have u:=qK (nL hg a.out:l≠ab);have al:=qK (nG hg a.out:ab≠l);replace a:=bQ a hb;clear hb aa hg;have b7:=al.out;have b8:=u.out;obtain ⟨_,_,_,_,_,_,_,_⟩:=xC4 ad.out)|((with_reducible refine zH (f:=77) rfl ?_);refine gL (some 27) Try.func77 #[.agg #[.int .i64 ((zG b c).f0.f0),.int .i64 ((zG b c).f0.f1)],.int .i64 1073741824] ?_;(with_reducible refine (zA5.calls ((zG b c).f0.f0) ((zG b c).f0.f1) 1073741824 true _ A15.out).mono ?_);rintro e w34 ⟨rfl,hb⟩;refine ⟨_,rfl,?_⟩;replace a:=qK (zT (g:=l) (o:=.cells #[.slice (some ax) b.length ac,.int .i64 q,.int .i64 s] 26 (0,0)) (by (repeat with_reducible first|apply zD|apply zF|apply zC);refine zO ?_ u.out _;(repeat with_reducible first|apply zD|apply zF|apply zC);refine zO ?_ u.out _;(repeat with_reducible first|apply zD|apply zF|apply zC);refine zO ?_ u.out _;(repeat with_reducible first|apply zD|apply zF|apply zC);refine zO ?_ u.out _;(repeat with_reducible first|apply zD|apply zF|apply zC);exact a.out) hb);replace ad:=qK (zT (g:=ab) (o:=.cells #[.int .i64 ((zG b c).f0.f0),.int .i64 ((zG b c).f0.f1),.int .i64 ((zG b c).f1),.int .i64 ((zG b c).f2)] 50 (0,0)) (by (repeat with_reducible first|apply zD|apply zF|apply zC);refine zP (cs:=#[.int .i64 ((zG b c).f0.f0),.int .i64 ((zG b c).f0.f1),.int .i64 ((zG b c).f1),.int .i64 0]) ?_ 3 _ rfl;(repeat with_reducible first|apply zD|apply zF|apply zC);refine zP (cs:=#[.int .i64 ((zG b c).f0.f0),.int .i64 ((zG b c).f0.f1),.int .i64 0,.int .i64 0]) ?_ 2 _ rfl;(repeat with_reducible first|apply zD|apply zF|apply zC);refine zP (cs:=#[.int .i64 ((zG b c).f0.f0),.int .i64 0,.int .i64 0,.int .i64 0]) ?_ 1 _ rfl;(repeat with_reducible first|apply zD|apply zF|apply zC);refine zP (cs:=#[.int .i64 0,.int .i64 0,.int .i64 0,.int .i64 0]) ?_ 0 _ rfl;(repeat with_reducible first|apply zD|apply zF|apply zC);exact ad.out) hb);replace HB:=hQ hb;obtain ⟨_,_,_,_,_,_,_,_⟩:=xC4 ad.out)|(go_at_call 52;(with_reducible refine (zk.calls ((zG b c).f1) 0 10000 false _ A17.out).mono ?_);rintro e w' ⟨rfl,⟨nd,rfl⟩⟩))
       go_ret
       exact ⟨eA,bA⟩
      subst c18
      have H1:((zk.f ((zG b c).f2) 0 1048576).bind fun av=>(if av=true then (zK.l0 k2 b (b.length:Int) (wrap64 (c+1)) b q s) else (some 80)))=some r:=by rw [if_pos rfl] at H;exact H
      clear H
      have H:=H1
      clear H1
      replace H:=Option.bind_eq_some_iff.mp H
      obtain ⟨av,A190,H⟩:=H
      replace H:(if av=true then (zK.l0 k2 b (b.length:Int) (wrap64 (c+1)) b q s) else (some 80))=some r:=H
      have A19:=zA.mk A190
      clear A190
      by_cases c20:av=true
      rotate_left
      ·replace c20:=Bool.eq_false_iff.mpr c20
       subst c20
       have H1:(some 80)=some r:=by rw [if_neg (show ¬ (false=true) by decide)] at H;exact H
       clear H
       have H:=H1
       clear H1
       obtain rfl:=Option.some.inj H
       have ao:0≤(c:Int):=dA
       have ap:c < (b.length:Int):=dA
       obtain ⟨ax,e113,ae,af,ag,ah⟩:=zA9 au.out c ao ap
       cases e113
       replace ae:=hC HB.out ae
       replace af:=hC HB.out af
       replace ag:=hC HB.out ag
       replace ah:=hC HB.out ah
       replace ao:=eq_true ao
       replace ap:=eq_true ap
       go_wp2_with (first|((with_reducible refine zL (N:=4) rfl ?_);refine bE #[.int .i64 0,.int .i64 0,.int .i64 0,.int .i64 0] 50 ?_;intro ab hg w26 aa hb;have ad:=qK (aa);have a2:=qK (gS hg:w.heap.size≤ab);have a3:=qK (gS hg:w.heap.size≤ab);replace HB:=hQ hb;have u:=qK (nL hg a.out:l≠ab);have al:=qK (nG hg a.out:ab≠l);replace a:=bQ a hb;clear hb aa hg;have b9:=al.out;have ca:=u.out;obtain ⟨_,_,_,_,_,_,_,_⟩:=xC4 ad.out)|((with_reducible refine zH (f:=77) rfl ?_);refine gL (some 27) Try.func77 #[.agg #[.int .i64 ((zG b c).f0.f0),.int .i64 ((zG b c).f0.f1)],.int .i64 1073741824] ?_;(with_reducible refine (zA5.calls ((zG b c).f0.f0) ((zG b c).f0.f1) 1073741824 true _ A15.out).mono ?_);rintro e w29 ⟨rfl,hb⟩;refine ⟨_,rfl,?_⟩;replace a:=qK (zT (g:=l) (o:=.cells #[.slice (some ax) b.length ac,.int .i64 q,.int .i64 s] 26 (0,0)) (by (repeat with_reducible first|apply zD|apply zF|apply zC);refine zO ?_ u.out _;(repeat with_reducible first|apply zD|apply zF|apply zC);refine zO ?_ u.out _;(repeat with_reducible first|apply zD|apply zF|apply zC);refine zO ?_ u.out _;(repeat with_reducible first|apply zD|apply zF|apply zC);refine zO ?_ u.out _;(repeat with_reducible first|apply zD|apply zF|apply zC);exact a.out) hb);replace ad:=qK (zT (g:=ab) (o:=.cells #[.int .i64 ((zG b c).f0.f0),.int .i64 ((zG b c).f0.f1),.int .i64 ((zG b c).f1),.int .i64 ((zG b c).f2)] 50 (0,0)) (by (repeat with_reducible first|apply zD|apply zF|apply zC);refine zP (cs:=#[.int .i64 ((zG b c).f0.f0),.int .i64 ((zG b c).f0.f1),.int .i64 ((zG b c).f1),.int .i64 0]) ?_ 3 _ rfl;(repeat with_reducible first|apply zD|apply zF|apply zC);refine zP (cs:=#[.int .i64 ((zG b c).f0.f0),.int .i64 ((zG b c).f0.f1),.int .i64 0,.int .i64 0]) ?_ 2 _ rfl;(repeat with_reducible first|apply zD|apply zF|apply zC);refine zP (cs:=#[.int .i64 ((zG b c).f0.f0),.int .i64 0,.int .i64 0,.int .i64 0]) ?_ 1 _ rfl;(repeat with_reducible first|apply zD|apply zF|apply zC);refine zP (cs:=#[.int .i64 0,.int .i64 0,.int .i64 0,.int .i64 0]) ?_ 0 _ rfl;(repeat with_reducible first|apply zD|apply zF|apply zC);exact ad.out) hb);replace HB:=hQ hb;obtain ⟨_,_,_,_,_,_,_,_⟩:=xC4 ad.out)|(go_at_call 52;(with_reducible refine (zk.calls ((zG b c).f1) 0 10000 true _ A17.out).mono ?_);rintro e w' ⟨rfl,⟨nd,rfl⟩⟩)|(go_at_call 52;(with_reducible refine (zk.calls ((zG b c).f2) 0 1048576 false _ A19.out).mono ?_);rintro e w' ⟨rfl,⟨nd,rfl⟩⟩))
       go_ret
       exact ⟨eA,bA⟩
      subst c20
      have H1:(zK.l0 k2 b (b.length:Int) (wrap64 (c+1)) b q s)=some r:=by rw [if_pos rfl] at H;exact H
      clear H
      have H:=H1
      clear H1
      have H':=zA.mk H
      clear H
      have ao:0≤(c:Int):=dA
      have ap:c < (b.length:Int):=dA
      obtain ⟨ax,e113,ae,af,ag,ah⟩:=zA9 au.out c ao ap
      cases e113
      replace ae:=hC HB.out ae
      replace af:=hC HB.out af
      replace ag:=hC HB.out ag
      replace ah:=hC HB.out ah
      replace ao:=eq_true ao
      replace ap:=eq_true ap
      go_wp2_with (first|((with_reducible refine zL (N:=4) rfl ?_);refine bE #[.int .i64 0,.int .i64 0,.int .i64 0,.int .i64 0] 50 ?_;intro ab hg w21 aa hb;have ad:=qK (aa);have a2:=qK (gS hg:w.heap.size≤ab);have a3:=qK (gS hg:w.heap.size≤ab);replace HB:=hQ hb;have u:=qK (nL hg a.out:l≠ab);have al:=qK (nG hg a.out:ab≠l);replace a:=bQ a hb;clear hb aa hg;have cb:=al.out;have cc:=u.out;obtain ⟨_,_,_,_,_,_,_,_⟩:=xC4 ad.out)|((with_reducible refine zH (f:=77) rfl ?_);refine gL (some 27) Try.func77 #[.agg #[.int .i64 ((zG b c).f0.f0),.int .i64 ((zG b c).f0.f1)],.int .i64 1073741824] ?_;(with_reducible refine (zA5.calls ((zG b c).f0.f0) ((zG b c).f0.f1) 1073741824 true _ A15.out).mono ?_);rintro e w24 ⟨rfl,hb⟩;refine ⟨_,rfl,?_⟩;replace a:=qK (zT (g:=l) (o:=.cells #[.slice (some ax) b.length ac,.int .i64 q,.int .i64 s] 26 (0,0)) (by (repeat with_reducible first|apply zD|apply zF|apply zC);refine zO ?_ u.out _;(repeat with_reducible first|apply zD|apply zF|apply zC);refine zO ?_ u.out _;(repeat with_reducible first|apply zD|apply zF|apply zC);refine zO ?_ u.out _;(repeat with_reducible first|apply zD|apply zF|apply zC);refine zO ?_ u.out _;(repeat with_reducible first|apply zD|apply zF|apply zC);exact a.out) hb);replace ad:=qK (zT (g:=ab) (o:=.cells #[.int .i64 ((zG b c).f0.f0),.int .i64 ((zG b c).f0.f1),.int .i64 ((zG b c).f1),.int .i64 ((zG b c).f2)] 50 (0,0)) (by (repeat with_reducible first|apply zD|apply zF|apply zC);refine zP (cs:=#[.int .i64 ((zG b c).f0.f0),.int .i64 ((zG b c).f0.f1),.int .i64 ((zG b c).f1),.int .i64 0]) ?_ 3 _ rfl;(repeat with_reducible first|apply zD|apply zF|apply zC);refine zP (cs:=#[.int .i64 ((zG b c).f0.f0),.int .i64 ((zG b c).f0.f1),.int .i64 0,.int .i64 0]) ?_ 2 _ rfl;(repeat with_reducible first|apply zD|apply zF|apply zC);refine zP (cs:=#[.int .i64 ((zG b c).f0.f0),.int .i64 0,.int .i64 0,.int .i64 0]) ?_ 1 _ rfl;(repeat with_reducible first|apply zD|apply zF|apply zC);refine zP (cs:=#[.int .i64 0,.int .i64 0,.int .i64 0,.int .i64 0]) ?_ 0 _ rfl;(repeat with_reducible first|apply zD|apply zF|apply zC);exact ad.out) hb);replace HB:=hQ hb;obtain ⟨_,_,_,_,_,_,_,_⟩:=xC4 ad.out)|(go_at_call 52;(with_reducible refine (zk.calls ((zG b c).f1) 0 10000 true _ A17.out).mono ?_);rintro e w' ⟨rfl,⟨nd,rfl⟩⟩)|(go_at_call 52;(with_reducible refine (zk.calls ((zG b c).f2) 0 1048576 true _ A19.out).mono ?_);rintro e w' ⟨rfl,⟨nd,rfl⟩⟩))
      go_roundg k2
      case measure=>have:=HJ1.out;have:=HK2.out;omega
      case rel=>exact ⟨(wrap64 (c+1)),sA,H',⟨by have:=HJ1.out;have:=HK2.out;omega⟩,⟨by (repeat with_reducible first|apply zD|apply zF|apply zC);exact a.out⟩,⟨bA⟩⟩
     rw [if_neg c12] at H
     have bq:decide (c < (b.length:Int))=false:=decide_eq_false c12
     clear c12
     replace H:=Option.bind_eq_some_iff.mp H
     obtain ⟨⟨aj,ak⟩,A400,H⟩:=H
     replace H:((zh.f aj ak q s).bind fun br=>(if br.2.2=true then (some 0) else (some 80)))=some r:=H
     have A40:=zA.mk A400
     clear A400
     replace H:=Option.bind_eq_some_iff.mp H
     obtain ⟨⟨aq,ar,bp⟩,A410,H⟩:=H
     replace H:(if bp=true then (some 0) else (some 80))=some r:=H
     have A41:=zA.mk A410
     clear A410
     by_cases c42:bp=true
     ·subst c42
      have H1:(some 0)=some r:=by rw [if_pos rfl] at H;exact H
      clear H
      have H:=H1
      clear H1
      obtain rfl:=Option.some.inj H
      try go_wp2
      replace a:=qK (zF a.out)
      replace HB:=qK (zx HB.out)
      refine zBH (n:=11) (S:=fun w'=>w'.cell? ⟨l,0,none⟩=some (.slice ai b.length ac)∧w'.cell? ⟨l,1,none⟩=some (.int .i64 q)∧w'.cell? ⟨l,2,none⟩=some (.int .i64 s)) (ds:=[]) #[false,false,false,false,false,false,false,false,false,false,false] (by kernel_rfl) rfl rfl ⟨(zB a.out 0).trans rfl,(zB a.out 1).trans rfl,(zB a.out 2).trans rfl⟩ (fun v=>?_);refine zAj zK.tab9 zK.bits9 (fun HT_ HW_=>?_)
      generalize wr.drew=w43 at a HB v ⊢
      refine pP 2 (some 45) HT_ ?_
      refine tP 0 (some 43) HT_ HW_ v ?_
      refine tP 3 (some 46) HT_ HW_ v ?_
      refine zBz (σ:=Nat) 2 #[true,true,true,true,true,true,true,true,true,false,false] (fun s_=>[(44,.agg #[.int .i64 aj,.int .i64 ak]),(47,.tuple #[.agg #[.int .i64 aq,.int .i64 ar],.bool true]),(5,.pointer (some ⟨s_,0,none⟩)),(42,.tuple #[.agg #[.int .i64 aq,.int .i64 ar],.bool true]),(48,.agg #[.int .i64 aq,.int .i64 ar]),(49,.bool true)]) (fun s_ w'=>(w'.cell? ⟨l,0,none⟩=some (.slice ai b.length ac)∧w'.cell? ⟨l,1,none⟩=some (.int .i64 q)∧w'.cell? ⟨l,2,none⟩=some (.int .i64 s))∧(w'.heap[l]? = some (.cells #[.slice ai b.length ac,.int .i64 q,.int .i64 s] 26 (0,0)))∧(w'.heap[s_]? = some (.cells #[.int .i64 0,.int .i64 0] 24 (0,0)))∧(w.heap.size≤s_)∧(w.heap.size≤s_)∧(l≠s_)∧(s_≠l)∧(Below w.heap.size w w')) ?_ ?_
      rotate_left
      ·intro ay
       refine zB6 (i:=1) (j:=8) (Ni:=some 44) (Nj:=some 5) #[true,true,true,true,false,false,false,false,false,false,false] #[true,false,true,true,false,false,false,false,true,false,false] rfl rfl rfl rfl (zBG HT_.out (by kernel_rfl)) (by decide) (by decide) (fun K hK=>?_) (fun K hK=>?_)
       ·skip
        refine gO Try.func54 #[.agg #[.slice ai b.length ac,.int .i64 q,.int .i64 s]] ?_
        with_reducible refine (zAA.calls k2 _ _ b q s aj ak _ ?side1 ?side2 A40.out).mono ?_
        (case side1=>exact cS au.out)
        (case side2=>exact HC0_0.out)
        rintro e w44 ⟨rfl,hb⟩
        refine ⟨_,rfl,?_⟩
        replace a:=bQ a hb
        replace HB:=hQ hb
        (try clear hb)
        (try clear hb2)
        (try clear hk)
        (try clear hi)
        refine hK.out _ _ ⟨(zB a.out 0).trans rfl,(zB a.out 1).trans rfl,(zB a.out 2).trans rfl⟩ (fun v=>?_)
        clear hK K
        refine nP ?_
        refine zB6 (i:=4) (j:=8) (Ni:=some 47) (Nj:=some 5) #[true,true,true,true,true,false,false,false,false,false,false] #[true,true,true,true,false,false,false,false,true,false,false] rfl rfl rfl rfl (zBG HT_.out (by kernel_rfl)) (by decide) (by decide) (fun K hK=>?_) (fun K hK=>?_)
        ·skip
         refine gO Try.func53 #[.agg #[.int .i64 aj,.int .i64 ak],.agg #[.int .i64 q,.int .i64 s]] ?_
         with_reducible refine (zh.calls aj ak q s aq ar true _ A41.out).mono ?_
         rintro e w45 ⟨rfl,hb⟩
         refine ⟨_,rfl,?_⟩
         replace a:=bQ a hb
         replace HB:=hQ hb
         (try clear hb)
         (try clear hb2)
         (try clear hk)
         (try clear hi)
         refine hK.out _ _ ⟨(zB a.out 0).trans rfl,(zB a.out 1).trans rfl,(zB a.out 2).trans rfl⟩ (fun v=>?_)
         clear hK K
         refine nP ?_
         refine pP 5 (some 42) HT_ ?_
         refine pP 6 (some 48) HT_ ?_
         refine pP 7 (some 49) HT_ ?_
         refine oP 8 (some 5) HT_ (fun K hK=>?_)
         refine zAK ?hg (N:=5) ?hd (cs:=#[.int .i64 0,.int .i64 0]) (t:=24) ?hr ?_;(case hd=>rfl);(case hg=>rfl);(case hr=>first|(go_simp;done)|(go_simp;rfl))
         intro d hg w46 aa hb
         have x:=qK (aa)
         have am:=qK (gS hg:w.heap.size≤d)
         have an:=qK (gS hg:w.heap.size≤d)
         replace HB:=hQ hb
         have m:=qK (nL hg a.out:l≠d)
         have y:=qK (nG hg a.out:d≠l)
         replace a:=bQ a hb
         clear hb aa hg
         refine hK.out _ _ ⟨(zB a.out 0).trans rfl,(zB a.out 1).trans rfl,(zB a.out 2).trans rfl⟩ (fun v=>?_)
         clear hK K
         refine nP ?_
         exact zAe (by simp only [zy,Act.put,List.setIfInBounds_toArray,List.set_cons_zero,List.set_cons_succ]) (ay (d) _ ⟨v,(bX a.out),(bX x.out),am.out,an.out,m.out,y.out,bA⟩)
        ·skip
         refine zAK ?hg (N:=5) ?hd (cs:=#[.int .i64 0,.int .i64 0]) (t:=24) ?hr ?_;(case hd=>rfl);(case hg=>rfl);(case hr=>first|(go_simp;done)|(go_simp;rfl))
         intro d hg w45 aa hb
         have x:=qK (aa)
         have am:=qK (gS hg:w.heap.size≤d)
         have an:=qK (gS hg:w.heap.size≤d)
         replace HB:=hQ hb
         have m:=qK (nL hg a.out:l≠d)
         have y:=qK (nG hg a.out:d≠l)
         replace a:=bQ a hb
         clear hb aa hg
         refine hK.out _ _ ⟨(zB a.out 0).trans rfl,(zB a.out 1).trans rfl,(zB a.out 2).trans rfl⟩ (fun v=>?_)
         clear hK K
         refine nP ?_
         refine oP 4 (some 47) HT_ (fun K hK=>?_)
         refine gO Try.func53 #[.agg #[.int .i64 aj,.int .i64 ak],.agg #[.int .i64 q,.int .i64 s]] ?_
         with_reducible refine (zh.calls aj ak q s aq ar true _ A41.out).mono ?_
         rintro e w46 ⟨rfl,hb⟩
         refine ⟨_,rfl,?_⟩
         replace a:=bQ a hb
         replace x:=bQ x hb
         replace HB:=hQ hb
         (try clear hb)
         (try clear hb2)
         (try clear hk)
         (try clear hi)
         refine hK.out _ _ ⟨(zB a.out 0).trans rfl,(zB a.out 1).trans rfl,(zB a.out 2).trans rfl⟩ (fun v=>?_)
         clear hK K
         refine nP ?_
         refine pP 5 (some 42) HT_ ?_
         refine pP 6 (some 48) HT_ ?_
         refine pP 7 (some 49) HT_ ?_
         exact zAe (by simp only [zy,Act.put,List.setIfInBounds_toArray,List.set_cons_zero,List.set_cons_succ]) (ay (d) _ ⟨v,(bX a.out),(bX x.out),am.out,an.out,m.out,y.out,bA⟩)
       ·skip
        refine zAK ?hg (N:=5) ?hd (cs:=#[.int .i64 0,.int .i64 0]) (t:=24) ?hr ?_;(case hd=>rfl);(case hg=>rfl);(case hr=>first|(go_simp;done)|(go_simp;rfl))
        intro d hg w44 aa hb
        have x:=qK (aa)
        have am:=qK (gS hg:w.heap.size≤d)
        have an:=qK (gS hg:w.heap.size≤d)
        replace HB:=hQ hb
        have m:=qK (nL hg a.out:l≠d)
        have y:=qK (nG hg a.out:d≠l)
        replace a:=bQ a hb
        clear hb aa hg
        refine hK.out _ _ ⟨(zB a.out 0).trans rfl,(zB a.out 1).trans rfl,(zB a.out 2).trans rfl⟩ (fun v=>?_)
        clear hK K
        refine nP ?_
        refine oP 1 (some 44) HT_ (fun K hK=>?_)
        refine gO Try.func54 #[.agg #[.slice ai b.length ac,.int .i64 q,.int .i64 s]] ?_
        with_reducible refine (zAA.calls k2 _ _ b q s aj ak _ ?side1 ?side2 A40.out).mono ?_
        (case side1=>exact cS au.out)
        (case side2=>exact HC0_0.out)
        rintro e w45 ⟨rfl,hb⟩
        refine ⟨_,rfl,?_⟩
        replace a:=bQ a hb
        replace x:=bQ x hb
        replace HB:=hQ hb
        (try clear hb)
        (try clear hb2)
        (try clear hk)
        (try clear hi)
        refine hK.out _ _ ⟨(zB a.out 0).trans rfl,(zB a.out 1).trans rfl,(zB a.out 2).trans rfl⟩ (fun v=>?_)
        clear hK K
        refine nP ?_
        refine oP 4 (some 47) HT_ (fun K hK=>?_)
        refine gO Try.func53 #[.agg #[.int .i64 aj,.int .i64 ak],.agg #[.int .i64 q,.int .i64 s]] ?_
        with_reducible refine (zh.calls aj ak q s aq ar true _ A41.out).mono ?_
        rintro e w46 ⟨rfl,hb⟩
        refine ⟨_,rfl,?_⟩
        replace a:=bQ a hb
        replace x:=bQ x hb
        replace HB:=hQ hb
        (try clear hb)
        (try clear hb2)
        (try clear hk)
        (try clear hi)
        refine hK.out _ _ ⟨(zB a.out 0).trans rfl,(zB a.out 1).trans rfl,(zB a.out 2).trans rfl⟩ (fun v=>?_)
        clear hK K
        refine nP ?_
        refine pP 5 (some 42) HT_ ?_
        refine pP 6 (some 48) HT_ ?_
        refine pP 7 (some 49) HT_ ?_
        exact zAe (by simp only [zy,Act.put,List.setIfInBounds_toArray,List.set_cons_zero,List.set_cons_succ]) (ay (d) _ ⟨v,(bX a.out),(bX x.out),am.out,an.out,m.out,y.out,bA⟩)
      rintro d w47 ⟨hS_,h0_,h1_,h2_,h3_,h4_,h5_,h6_⟩
      have n0_:zA (w47.heap[l]? = some (.cells #[.slice ai b.length ac,.int .i64 q,.int .i64 s] 26 (0,0))):=⟨h0_⟩
      have n1_:zA (w47.heap[d]? = some (.cells #[.int .i64 0,.int .i64 0] 24 (0,0))):=⟨h1_⟩
      have n2_:zA (w.heap.size≤d):=⟨h2_⟩
      have n3_:zA (w.heap.size≤d):=⟨h3_⟩
      have n4_:zA (l≠d):=⟨h4_⟩
      have n5_:zA (d≠l):=⟨h5_⟩
      have n6_:zA (Below w.heap.size w w47):=⟨h6_⟩
      clear a
      clear HB
      clear h0_ h1_ h2_ h3_ h4_ h5_ h6_
      have a:=n0_
      have x:=n1_
      have am:=n2_
      have an:=n3_
      have m:=n4_
      have y:=n5_
      have HB:=n6_
      clear n0_ n1_ n2_ n3_ n4_ n5_ n6_
      have v:w47.cell? ⟨l,0,none⟩=some (.slice ai b.length ac)∧w47.cell? ⟨l,1,none⟩=some (.int .i64 q)∧w47.cell? ⟨l,2,none⟩=some (.int .i64 s):=hS_
      refine zAe (a':=?_) ?_ ?_
      rotate_left
      ·simp only [zy,Act.put,List.setIfInBounds_toArray,List.set_cons_zero,List.set_cons_succ]
       rfl
      refine oP 9 none HT_ (fun K hK=>?_)
      have ck:w47.cell? ⟨d,0,none⟩=some (.int .i64 0):=(zB x.out 0).trans rfl
      have cd:=zW x.out 0
      have bs:=m.out
      have bt:=y.out
      have cl:w47.cell? ⟨d,1,none⟩=some (.int .i64 0):=(zB x.out 1).trans rfl
      have ce:=zW x.out 1
      have bu:=m.out
      have bv:=y.out
      refine zB0 (w1:=?_) (by rfl) rfl ?_ ?_
      rotate_left
      ·go_simp
       rfl
      refine hK.out _ _ ⟨((cell_far (p:=⟨d,_,none⟩) m.out _).trans (((cell_far (p:=⟨d,_,none⟩) m.out _).trans (v.1)))),((cell_far (p:=⟨d,_,none⟩) m.out _).trans (((cell_far (p:=⟨d,_,none⟩) m.out _).trans (v.2.1)))),((cell_far (p:=⟨d,_,none⟩) m.out _).trans (((cell_far (p:=⟨d,_,none⟩) m.out _).trans (v.2.2))))⟩ (fun v=>?_)
      clear hK K
      refine pP 10 (some 6) HT_ ?_
      refine zBZ (zA8 HT_.out (by kernel_rfl)) ?_
      try go_wp2
      go_ret
      exact ⟨eA,bA⟩
     replace c42:=Bool.eq_false_iff.mpr c42
     subst c42
     have H1:(some 80)=some r:=by rw [if_neg (show ¬ (false=true) by decide)] at H;exact H
     clear H
     have H:=H1
     clear H1
     obtain rfl:=Option.some.inj H
     try go_wp2
     replace a:=qK (zF a.out)
     replace HB:=qK (zx HB.out)
     refine zBH (n:=11) (S:=fun w'=>w'.cell? ⟨l,0,none⟩=some (.slice ai b.length ac)∧w'.cell? ⟨l,1,none⟩=some (.int .i64 q)∧w'.cell? ⟨l,2,none⟩=some (.int .i64 s)) (ds:=[]) #[false,false,false,false,false,false,false,false,false,false,false] (by kernel_rfl) rfl rfl ⟨(zB a.out 0).trans rfl,(zB a.out 1).trans rfl,(zB a.out 2).trans rfl⟩ (fun v=>?_);refine zAj zK.tab9 zK.bits9 (fun HT_ HW_=>?_)
     generalize wr.drew=w50 at a HB v ⊢
     refine pP 2 (some 45) HT_ ?_
     refine tP 0 (some 43) HT_ HW_ v ?_
     refine tP 3 (some 46) HT_ HW_ v ?_
     refine zBz (σ:=Nat) 2 #[true,true,true,true,true,true,true,true,true,false,false] (fun s_=>[(44,.agg #[.int .i64 aj,.int .i64 ak]),(47,.tuple #[.agg #[.int .i64 aq,.int .i64 ar],.bool false]),(5,.pointer (some ⟨s_,0,none⟩)),(42,.tuple #[.agg #[.int .i64 aq,.int .i64 ar],.bool false]),(48,.agg #[.int .i64 aq,.int .i64 ar]),(49,.bool false)]) (fun s_ w'=>(w'.cell? ⟨l,0,none⟩=some (.slice ai b.length ac)∧w'.cell? ⟨l,1,none⟩=some (.int .i64 q)∧w'.cell? ⟨l,2,none⟩=some (.int .i64 s))∧(w'.heap[l]? = some (.cells #[.slice ai b.length ac,.int .i64 q,.int .i64 s] 26 (0,0)))∧(w'.heap[s_]? = some (.cells #[.int .i64 0,.int .i64 0] 24 (0,0)))∧(w.heap.size≤s_)∧(w.heap.size≤s_)∧(l≠s_)∧(s_≠l)∧(Below w.heap.size w w')) ?_ ?_
     rotate_left
     ·intro ay
      refine zB6 (i:=1) (j:=8) (Ni:=some 44) (Nj:=some 5) #[true,true,true,true,false,false,false,false,false,false,false] #[true,false,true,true,false,false,false,false,true,false,false] rfl rfl rfl rfl (zBG HT_.out (by kernel_rfl)) (by decide) (by decide) (fun K hK=>?_) (fun K hK=>?_)
      ·skip
       refine gO Try.func54 #[.agg #[.slice ai b.length ac,.int .i64 q,.int .i64 s]] ?_
       with_reducible refine (zAA.calls k2 _ _ b q s aj ak _ ?side1 ?side2 A40.out).mono ?_
       (case side1=>exact cS au.out)
       (case side2=>exact HC0_0.out)
       rintro e w51 ⟨rfl,hb⟩
       refine ⟨_,rfl,?_⟩
       replace a:=bQ a hb
       replace HB:=hQ hb
       (try clear hb)
       (try clear hb2)
       (try clear hk)
       (try clear hi)
       refine hK.out _ _ ⟨(zB a.out 0).trans rfl,(zB a.out 1).trans rfl,(zB a.out 2).trans rfl⟩ (fun v=>?_)
       clear hK K
       refine nP ?_
       refine zB6 (i:=4) (j:=8) (Ni:=some 47) (Nj:=some 5) #[true,true,true,true,true,false,false,false,false,false,false] #[true,true,true,true,false,false,false,false,true,false,false] rfl rfl rfl rfl (zBG HT_.out (by kernel_rfl)) (by decide) (by decide) (fun K hK=>?_) (fun K hK=>?_)
       ·skip
        refine gO Try.func53 #[.agg #[.int .i64 aj,.int .i64 ak],.agg #[.int .i64 q,.int .i64 s]] ?_
        with_reducible refine (zh.calls aj ak q s aq ar false _ A41.out).mono ?_
        rintro e w52 ⟨rfl,hb⟩
        refine ⟨_,rfl,?_⟩
        replace a:=bQ a hb
        replace HB:=hQ hb
        (try clear hb)
        (try clear hb2)
        (try clear hk)
        (try clear hi)
        refine hK.out _ _ ⟨(zB a.out 0).trans rfl,(zB a.out 1).trans rfl,(zB a.out 2).trans rfl⟩ (fun v=>?_)
        clear hK K
        refine nP ?_
        refine pP 5 (some 42) HT_ ?_
        refine pP 6 (some 48) HT_ ?_
        refine pP 7 (some 49) HT_ ?_
        refine oP 8 (some 5) HT_ (fun K hK=>?_)
        refine zAK ?hg (N:=5) ?hd (cs:=#[.int .i64 0,.int .i64 0]) (t:=24) ?hr ?_;(case hd=>rfl);(case hg=>rfl);(case hr=>first|(go_simp;done)|(go_simp;rfl))
        intro d hg w53 aa hb
        have x:=qK (aa)
        have am:=qK (gS hg:w.heap.size≤d)
        have an:=qK (gS hg:w.heap.size≤d)
        replace HB:=hQ hb
        have m:=qK (nL hg a.out:l≠d)
        have y:=qK (nG hg a.out:d≠l)
        replace a:=bQ a hb
        clear hb aa hg
        refine hK.out _ _ ⟨(zB a.out 0).trans rfl,(zB a.out 1).trans rfl,(zB a.out 2).trans rfl⟩ (fun v=>?_)
        clear hK K
        refine nP ?_
        exact zAe (by simp only [zy,Act.put,List.setIfInBounds_toArray,List.set_cons_zero,List.set_cons_succ]) (ay (d) _ ⟨v,(bX a.out),(bX x.out),am.out,an.out,m.out,y.out,bA⟩)
       ·skip
        refine zAK ?hg (N:=5) ?hd (cs:=#[.int .i64 0,.int .i64 0]) (t:=24) ?hr ?_;(case hd=>rfl);(case hg=>rfl);(case hr=>first|(go_simp;done)|(go_simp;rfl))
        intro d hg w52 aa hb
        have x:=qK (aa)
        have am:=qK (gS hg:w.heap.size≤d)
        have an:=qK (gS hg:w.heap.size≤d)
        replace HB:=hQ hb
        have m:=qK (nL hg a.out:l≠d)
        have y:=qK (nG hg a.out:d≠l)
        replace a:=bQ a hb
        clear hb aa hg
        refine hK.out _ _ ⟨(zB a.out 0).trans rfl,(zB a.out 1).trans rfl,(zB a.out 2).trans rfl⟩ (fun v=>?_)
        clear hK K
        refine nP ?_
        refine oP 4 (some 47) HT_ (fun K hK=>?_)
        refine gO Try.func53 #[.agg #[.int .i64 aj,.int .i64 ak],.agg #[.int .i64 q,.int .i64 s]] ?_
        with_reducible refine (zh.calls aj ak q s aq ar false _ A41.out).mono ?_
        rintro e w53 ⟨rfl,hb⟩
        refine ⟨_,rfl,?_⟩
        replace a:=bQ a hb
        replace x:=bQ x hb
        replace HB:=hQ hb
        (try clear hb)
        (try clear hb2)
        (try clear hk)
        (try clear hi)
        refine hK.out _ _ ⟨(zB a.out 0).trans rfl,(zB a.out 1).trans rfl,(zB a.out 2).trans rfl⟩ (fun v=>?_)
        clear hK K
        refine nP ?_
        refine pP 5 (some 42) HT_ ?_
        refine pP 6 (some 48) HT_ ?_
        refine pP 7 (some 49) HT_ ?_
        exact zAe (by simp only [zy,Act.put,List.setIfInBounds_toArray,List.set_cons_zero,List.set_cons_succ]) (ay (d) _ ⟨v,(bX a.out),(bX x.out),am.out,an.out,m.out,y.out,bA⟩)
      ·skip
       refine zAK ?hg (N:=5) ?hd (cs:=#[.int .i64 0,.int .i64 0]) (t:=24) ?hr ?_;(case hd=>rfl);(case hg=>rfl);(case hr=>first|(go_simp;done)|(go_simp;rfl))
       intro d hg w51 aa hb
       have x:=qK (aa)
       have am:=qK (gS hg:w.heap.size≤d)
       have an:=qK (gS hg:w.heap.size≤d)
       replace HB:=hQ hb
       have m:=qK (nL hg a.out:l≠d)
       have y:=qK (nG hg a.out:d≠l)
       replace a:=bQ a hb
       clear hb aa hg
       refine hK.out _ _ ⟨(zB a.out 0).trans rfl,(zB a.out 1).trans rfl,(zB a.out 2).trans rfl⟩ (fun v=>?_)
       clear hK K
       refine nP ?_
       refine oP 1 (some 44) HT_ (fun K hK=>?_)
       refine gO Try.func54 #[.agg #[.slice ai b.length ac,.int .i64 q,.int .i64 s]] ?_
       with_reducible refine (zAA.calls k2 _ _ b q s aj ak _ ?side1 ?side2 A40.out).mono ?_
       (case side1=>exact cS au.out)
       (case side2=>exact HC0_0.out)
       rintro e w52 ⟨rfl,hb⟩
       refine ⟨_,rfl,?_⟩
       replace a:=bQ a hb
       replace x:=bQ x hb
       replace HB:=hQ hb
       (try clear hb)
       (try clear hb2)
       (try clear hk)
       (try clear hi)
       refine hK.out _ _ ⟨(zB a.out 0).trans rfl,(zB a.out 1).trans rfl,(zB a.out 2).trans rfl⟩ (fun v=>?_)
       clear hK K
       refine nP ?_
       refine oP 4 (some 47) HT_ (fun K hK=>?_)
       refine gO Try.func53 #[.agg #[.int .i64 aj,.int .i64 ak],.agg #[.int .i64 q,.int .i64 s]] ?_
       with_reducible refine (zh.calls aj ak q s aq ar false _ A41.out).mono ?_
       rintro e w53 ⟨rfl,hb⟩
       refine ⟨_,rfl,?_⟩
       replace a:=bQ a hb
       replace x:=bQ x hb
       replace HB:=hQ hb
       (try clear hb)
       (try clear hb2)
       (try clear hk)
       (try clear hi)
       refine hK.out _ _ ⟨(zB a.out 0).trans rfl,(zB a.out 1).trans rfl,(zB a.out 2).trans rfl⟩ (fun v=>?_)
       clear hK K
       refine nP ?_
       refine pP 5 (some 42) HT_ ?_
       refine pP 6 (some 48) HT_ ?_
       refine pP 7 (some 49) HT_ ?_
       exact zAe (by simp only [zy,Act.put,List.setIfInBounds_toArray,List.set_cons_zero,List.set_cons_succ]) (ay (d) _ ⟨v,(bX a.out),(bX x.out),am.out,an.out,m.out,y.out,bA⟩)
     rintro d w54 ⟨hS_,h0_,h1_,h2_,h3_,h4_,h5_,h6_⟩
     have n0_:zA (w54.heap[l]? = some (.cells #[.slice ai b.length ac,.int .i64 q,.int .i64 s] 26 (0,0))):=⟨h0_⟩
     have n1_:zA (w54.heap[d]? = some (.cells #[.int .i64 0,.int .i64 0] 24 (0,0))):=⟨h1_⟩
     have n2_:zA (w.heap.size≤d):=⟨h2_⟩
     have n3_:zA (w.heap.size≤d):=⟨h3_⟩
     have n4_:zA (l≠d):=⟨h4_⟩
     have n5_:zA (d≠l):=⟨h5_⟩
     have n6_:zA (Below w.heap.size w w54):=⟨h6_⟩
     clear a
     clear HB
     clear h0_ h1_ h2_ h3_ h4_ h5_ h6_
     have a:=n0_
     have x:=n1_
     have am:=n2_
     have an:=n3_
     have m:=n4_
     have y:=n5_
     have HB:=n6_
     clear n0_ n1_ n2_ n3_ n4_ n5_ n6_
     have v:w54.cell? ⟨l,0,none⟩=some (.slice ai b.length ac)∧w54.cell? ⟨l,1,none⟩=some (.int .i64 q)∧w54.cell? ⟨l,2,none⟩=some (.int .i64 s):=hS_
     refine zAe (a':=?_) ?_ ?_
     rotate_left
     ·simp only [zy,Act.put,List.setIfInBounds_toArray,List.set_cons_zero,List.set_cons_succ]
      rfl
     refine oP 9 none HT_ (fun K hK=>?_)
     have cm:w54.cell? ⟨d,0,none⟩=some (.int .i64 0):=(zB x.out 0).trans rfl
     have cf:=zW x.out 0
     have bw:=m.out
     have bx:=y.out
     have cn:w54.cell? ⟨d,1,none⟩=some (.int .i64 0):=(zB x.out 1).trans rfl
     have cg:=zW x.out 1
     have bz:=m.out
     have b0:=y.out
     refine zB0 (w1:=?_) (by rfl) rfl ?_ ?_
     rotate_left
     ·go_simp
      rfl
     refine hK.out _ _ ⟨((cell_far (p:=⟨d,_,none⟩) m.out _).trans (((cell_far (p:=⟨d,_,none⟩) m.out _).trans (v.1)))),((cell_far (p:=⟨d,_,none⟩) m.out _).trans (((cell_far (p:=⟨d,_,none⟩) m.out _).trans (v.2.1)))),((cell_far (p:=⟨d,_,none⟩) m.out _).trans (((cell_far (p:=⟨d,_,none⟩) m.out _).trans (v.2.2))))⟩ (fun v=>?_)
     clear hK K
     refine pP 10 (some 6) HT_ ?_
     refine zBZ (zA8 HT_.out (by kernel_rfl)) ?_
     try go_wp2
     go_ret
     exact ⟨eA,bA⟩
end Go.Proofs.Ythimaecnpkcmeaa.K
