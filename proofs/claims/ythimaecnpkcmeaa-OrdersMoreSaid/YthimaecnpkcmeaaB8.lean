/- Contracts of Go functions and lemmas for them: each theorem states what one function returns and what it leaves of memory; its conditions stand in its statement. -/
import Derived.Test.YthimaecnpkcmeaaB3
import Derived.Test.YthimaecnpkcmeaaB5
import Derived.Test.YthimaecnpkcmeaaB7
set_option linter.unusedVariables false
set_option linter.unusedSimpArgs false
namespace Go.Proofs.Ythimaecnpkcmeaa.K
open Go.RowKit Go.Proofs.YthimaecnpkcmeaaW.PrintWords Go.Proofs.YthimaecnpkcmeaaW.PrintLast Go.Proofs.YthimaecnpkcmeaaW.PrintMore
attribute [local go_sem] zAX zAW zAg zAf zAF zAG zAU zAV   -- for this text's walks alone
set_option linter.unusedVariables false
set_option linter.unusedSimpArgs false
mutual
def zN.j0:Nat→List Int→List Int→Bool→List (S50)→Int→Int→Option ((List (S50)) × Int × Int × Int)
 | 0,_,_,_,_,_,_=>none
 | k+1,x1,x2,x32,g,h,i=>if x32=true then (some (([]:List (S50)),0,0,1)) else ((zAy.f g).bind fun l=>(zN.l0 k x2 x1 (x1.length:Int) 0 l h i))
def zN.l0:Nat→List Int→List Int→Int→Int→List (S50)→Int→Int→Option ((List (S50)) × Int × Int × Int)
 | 0,_,_,_,_,_,_,_=>none
 | k+1,x2,x40,x41,x42,a,b,c=>if x42 < x41 then (if 0≤x42 then (if x42 < (x40.length:Int) then (if 0≤(rd x40 x42) then (if (rd x40 x42) < (a.length:Int) then (if x42 < (x2.length:Int) then ((zh.f ((zG a (rd x40 x42)).f0.f0) ((zG a (rd x40 x42)).f0.f1) (wrap64 ((rd x2 x42) - ((zG a (rd x40 x42)).f2))) (wrap64 ((rd x2 x42)+((zG a (rd x40 x42)).f2)))).bind fun d=>(if d.2.2=true then (zN.l0 k x2 x40 x41 (wrap64 (x42+1)) (a.set ((rd x40 x42):Int).toNat (⟨(⟨d.1,d.2.1⟩:S24),(zG a (rd x40 x42)).f1,(zG a (rd x40 x42)).f2⟩:S50)) b c) else (some (([]:List (S50)),0,0,4)))) else (none)) else (none)) else (none)) else (none)) else (none)) else ((zAA.f k a b c).bind fun e=>((zh.f e.1 e.2 b c).bind fun j=>(if j.2.2=true then (some (a,b,c,0)) else (some (([]:List (S50)),0,0,4)))))
end
def zN.f (k:Nat) (a:List (S50)) (b:Int) (c:Int) (l1:List Int) (l2:List Int):Option ((List (S50)) × Int × Int × Int):=(zi.f k a b c l1).bind fun d=>(if d=0 then (if (l2.length:Int)=(l1.length:Int) then ((zAi.f l2).bind fun e=>(zN.j0 k l1 l2 e a b c)) else (zN.j0 k l1 l2 true a b c)) else (some (([]:List (S50)),0,0,d)))
def zN.T6:Bool × List (List Nat × List Nat):=(true,[([],[]),([0],[0]),([1],[1]),([],[]),([3],[3]),([2,4],[2,4]),([],[]),([6,5,2,0,1,2,3,4,5,6],[5,6])])
def zN.B6:List Nat:=[0,1,3,0,8,31,0,127]
theorem zN.tab6:zBQ .any (opsOf Try.f14 6)=zN.T6:=by kernel_rfl
theorem zN.bits6:zBA zN.T6.2 zN.B6=true:=by kernel_rfl
def zN.T11:Bool × List (List Nat × List Nat):=(true,[([],[]),([0],[0]),([1],[1]),([2],[2]),([],[]),([],[]),([4,5],[4,5]),([6],[6]),([],[]),([8],[8]),([9],[9]),([10],[10]),([7,11],[7,11]),([],[]),([],[]),([13,14],[13,14]),([15],[15]),([],[]),([17],[17]),([18],[18]),([19],[19]),([16,20],[16,20]),([12,21],[12,21]),([3,22],[3,22]),([23],[23]),([24],[24]),([24],[24]),([],[]),([27,25,23,0,1,2,3,4,5,6,7,8,9,10,11,12,13,14,15,16,17,18,19,20,21,22,23,24,25,27],[25,27]),([26,28,0,1,2,3,4,5,6,7,8,9,10,11,12,13,14,15,16,17,18,19,20,21,22,23,24,25,26,27,28],[26])])
def zN.B11:List Nat:=[0,1,3,7,0,0,48,112,0,256,768,1792,4080,0,0,24576,57344,0,131072,393216,917504,2088960,4194288,8388607,16777215,33554431,33554431,0,201326591,536870911]
theorem zN.tab11:zBQ .any (opsOf Try.f14 11)=zN.T11:=by kernel_rfl
theorem zN.bits11:zBA zN.T11.2 zN.B11=true:=by kernel_rfl
def zN.T16:Bool × List (List Nat × List Nat):=(true,[([],[]),([0],[0]),([],[]),([2],[2]),([1,3,1],[1,3]),([4],[4]),([5],[5]),([5],[5]),([],[]),([8,6,4,0,1,2,3,4,5,6,8],[6,8]),([7,9,0,1,2,3,4,5,6,7,8,9],[7])])
def zN.B16:List Nat:=[0,1,0,4,15,31,63,63,0,383,1023]
theorem zN.tab16:zBQ .any (opsOf Try.f14 16)=zN.T16:=by kernel_rfl
theorem zN.bits16:zBA zN.T16.2 zN.B16=true:=by kernel_rfl
set_option maxHeartbeats 8000000 in
set_option maxRecDepth 100000 in
theorem zN.calls (k:Nat) (a5:Option Addr) (a6:Nat) (ar:List (S50)) (ac:Int) (ad:Int) (A1:Option Addr) (c1:Nat) (l1:List Int) (A2:Option Addr) (c2:Nat) (l2:List Int) (r1:List (S50)) (r2:Int) (r3:Int) (r4:Int) (w:World) (d3:Kd.C k50 w a5 ar.length ar) (d4:ar.length≤a6) (hr1:Kd.C (Kd.int .i64) w A1 l1.length l1) (hc1:l1.length≤c1) (hr2:Kd.C (Kd.int .i64) w A2 l2.length l2) (hc2:l2.length≤c2) (h:zN.f k ar ac ad l1 l2=some (r1,r2,r3,r4)) :
 Calls Try.prog 14 #[.agg #[.slice a5 ar.length a6,.int .i64 ac,.int .i64 ad],.slice A1 l1.length c1,.slice A2 l2.length c2] w fun e w'=>∃ v0_:Value,e= .returned (.tuple #[.agg #[v0_,.int .i64 r2,.int .i64 r3],.int .i64 r4])∧Kd.R k50 50 w' w.heap.size (fun _=>True) v0_ r1∧Below w.heap.size w w':=by
 have i3:=Try.underlying26
 have i4:=Try.underlying24
 have c7:=zA.mk d3
 have HC0_0:=zA.mk d4
 clear d3 d4
 have HR1:=zA.mk hr1
 have HC1:=zA.mk hc1
 clear hr1 hc1
 have HR2:=zA.mk hr2
 have HC2:=zA.mk hc2
 clear hr2 hc2
 have HB:=zA.mk (Below.refl w.heap.size w)
 have H:((zi.f k ar ac ad l1).bind fun b1=>(if b1=0 then (if (l2.length:Int)=(l1.length:Int) then ((zAi.f l2).bind fun ck=>(zN.j0 k l1 l2 ck ar ac ad)) else (zN.j0 k l1 l2 true ar ac ad)) else (some (([]:List (S50)),0,0,b1))))=some (r1,r2,r3,r4):=h
 clear h
 replace H:=Option.bind_eq_some_iff.mp H
 obtain ⟨b1,A40,H⟩:=H
 replace H:(if b1=0 then (if (l2.length:Int)=(l1.length:Int) then ((zAi.f l2).bind fun ck=>(zN.j0 k l1 l2 ck ar ac ad)) else (zN.j0 k l1 l2 true ar ac ad)) else (some (([]:List (S50)),0,0,b1)))=some (r1,r2,r3,r4):=H
 have A4:=zA.mk A40
 clear A40
 by_cases c5:b1=0
 rotate_left
 ·rw [if_neg c5] at H
  have dz:(b1 == 0)=false:=beq_eq_false_iff_ne.mpr c5
  have d0:(b1 != 0)=true:=bne_iff_ne.mpr c5
  simp only [Option.some.injEq,Prod.mk.injEq] at H
  obtain ⟨rfl,rfl,rfl,rfl⟩:=H
  go_enter Try.func14,Try.ntmps14
  go_wp2_with (first|((with_reducible refine zL (N:=3) rfl ?_);refine bE #[.slice a5 ar.length a6,.int .i64 ac,.int .i64 ad] 26 ?_;intro aa hg w96 al hb;have m:=qK (al);have ep:=qK (gS hg:w.heap.size≤aa);have eq:=qK (gS hg:w.heap.size≤aa);replace HB:=hQ hb;clear hb al hg)|((with_reducible refine zL (N:=6) rfl ?_);refine bE #[.slice none 0 0,.int .i64 0,.int .i64 0] 26 ?_;intro ab hg w97 al hb;have q:=qK (al);have er:=qK (gS hg:w.heap.size≤ab);have es:=qK (gS hg:w.heap.size≤ab);replace HB:=hQ hb;have bg:=qK (nL hg m.out:aa≠ab);have bh:=qK (nG hg m.out:ab≠aa);replace m:=bQ m hb;clear hb al hg;have g8:=bg.out;have g9:=bh.out;obtain ⟨_,_,_,_,_,_⟩:=xC3 m.out)|((with_reducible refine zH (f:=49) rfl ?_);refine gL (some 19) Try.func49 #[.agg #[.slice a5 ar.length a6,.int .i64 ac,.int .i64 ad],.slice A1 l1.length c1] ?_;(with_reducible refine (zi.calls k _ _ ar ac ad _ _ l1 b1 _ ?side1 ?side2 ?side3 ?side4 A4.out).mono ?_);(case side1=>exact cS c7.out);(case side2=>exact HC0_0.out);(case side3=>exact cS HR1.out);(case side4=>exact HC1.out);rintro e i5 ⟨rfl,hb⟩;refine ⟨_,rfl,?_⟩;replace m:=bQ m hb;replace q:=bQ q hb;replace HB:=hQ hb;obtain ⟨_,_,_,_,_,_⟩:=xC3 q.out))
  refine bodyPost_ret (zBd rfl _ _ ab 26 #[.slice none 0 0,.int .i64 0,.int .i64 0] (0,0) _ rfl (by (repeat with_reducible first|apply zD|apply zF|apply zC);refine zP (cs:=#[.slice none 0 0,.int .i64 0,.int .i64 0]) ?_ 2 _ rfl;(repeat with_reducible first|apply zD|apply zF|apply zC);refine zP (cs:=#[.slice none 0 0,.int .i64 0,.int .i64 0]) ?_ 1 _ rfl;(repeat with_reducible first|apply zD|apply zF|apply zC);refine zP (cs:=#[.slice none 0 0,.int .i64 0,.int .i64 0]) ?_ 0 _ rfl;(repeat with_reducible first|apply zD|apply zF|apply zC);exact q.out) Try.underlying26 rfl (by kernel_rfl)) rfl ?_
  exact ⟨_,eA,by first|exact Kd.zBW _ _ _ _ _|exact Kd.zCK _ _ _ _ _|exact Kd.zCM _ _ _ _ _|exact Kd.zCL _ _ _ _ _|exact Kd.zCJ _ _ _ _ _,bA⟩
 rw [if_pos c5] at H
 have dz:(b1 == 0)=true:=beq_iff_eq.mpr c5
 have d0:(b1 != 0)=false:=bne_eq_false_iff_eq.mpr c5
 clear c5
 have HC6:=zA.mk H
 clear H
 go_enter Try.func14,Try.ntmps14
 go_upto_region 4 with (first|((with_reducible refine zL (N:=3) rfl ?_);refine bE #[.slice a5 ar.length a6,.int .i64 ac,.int .i64 ad] 26 ?_;intro aa hg w7 al hb;have m:=qK (al);have ep:=qK (gS hg:w.heap.size≤aa);have eq:=qK (gS hg:w.heap.size≤aa);replace HB:=hQ hb;clear hb al hg)|((with_reducible refine zL (N:=6) rfl ?_);refine bE #[.slice none 0 0,.int .i64 0,.int .i64 0] 26 ?_;intro ab hg w8 al hb;have q:=qK (al);have er:=qK (gS hg:w.heap.size≤ab);have es:=qK (gS hg:w.heap.size≤ab);replace HB:=hQ hb;have bg:=qK (nL hg m.out:aa≠ab);have bh:=qK (nG hg m.out:ab≠aa);replace m:=bQ m hb;clear hb al hg;have i6:=bg.out;have i7:=bh.out;obtain ⟨dd,de,df,dg,dh,di⟩:=xC3 m.out)|((with_reducible refine zH (f:=49) rfl ?_);refine gL (some 19) Try.func49 #[.agg #[.slice a5 ar.length a6,.int .i64 ac,.int .i64 ad],.slice A1 l1.length c1] ?_;(with_reducible refine (zi.calls k _ _ ar ac ad _ _ l1 b1 _ ?side1 ?side2 ?side3 ?side4 A4.out).mono ?_);(case side1=>exact cS c7.out);(case side2=>exact HC0_0.out);(case side3=>exact cS HR1.out);(case side4=>exact HC1.out);rintro e w11 ⟨rfl,hb⟩;refine ⟨_,rfl,?_⟩;replace m:=bQ m hb;replace q:=bQ q hb;replace HB:=hQ hb))
 (try simp only [Act.put,List.setIfInBounds_toArray,List.set_cons_zero,List.set_cons_succ])
 go_cut [32] (fun v32 wc=>∃ (kq:Nat) (c8:Bool),v32= .bool c8∧zA (zN.j0 kq l1 l2 c8 ar ac ad=some (r1,r2,r3,r4))∧zA (kq≤k)∧zA (wc.heap[aa]? = some (.cells #[(.slice a5 ar.length a6),.int .i64 ac,.int .i64 ad] 26 (0,0)))∧zA (wc.heap[ab]? = some (.cells #[(.slice none 0 0),.int .i64 0,.int .i64 0] 26 (0,0)))∧zA (Below w.heap.size w wc))
 case first =>
  have H:=HC6.out
  clear HC6
  by_cases c12:(l2.length:Int)=(l1.length:Int)
  rotate_left
  ·rw [if_neg c12] at H
   have ch:((l2.length:Int) == (l1.length:Int))=false:=beq_eq_false_iff_ne.mpr c12
   have dn:((l2.length:Int) != (l1.length:Int))=true:=bne_iff_ne.mpr c12
   have dp:(l2.length == l1.length)=false:=by first|simpa using c12|(simp at c12 ⊢;omega)
   (first|rw [ch]|(simp only [zBS,zBg];rw [ch])|skip)
   have H':=zA.mk H
   clear H
   go_wp2
   go_meet
   case rel=>exact ⟨_,(true),sA,H',⟨by first|omega|exact Nat.le_refl _⟩,⟨by (repeat with_reducible first|apply zD|apply zF|apply zC);exact m.out⟩,⟨by (repeat with_reducible first|apply zD|apply zF|apply zC);exact q.out⟩,⟨bA⟩⟩
  rw [if_pos c12] at H
  have ch:((l2.length:Int) == (l1.length:Int))=true:=beq_iff_eq.mpr c12
  have dn:((l2.length:Int) != (l1.length:Int))=false:=bne_eq_false_iff_eq.mpr c12
  have dp:(l2.length == l1.length)=true:=by first|simpa using c12|(simp at c12 ⊢;omega)
  clear c12
  (first|rw [ch]|(simp only [zBS,zBg];rw [ch])|skip)
  replace H:=Option.bind_eq_some_iff.mp H
  obtain ⟨ck,A130,H⟩:=H
  replace H:(zN.j0 k l1 l2 ck ar ac ad)=some (r1,r2,r3,r4):=H
  have A13:=zA.mk A130
  clear A130
  have H':=zA.mk H
  clear H
  go_wp2_with (first|(go_at_call 50;(with_reducible refine (zAi.calls _ _ l2 ck _ ?side1 ?side2 A13.out).mono ?_);(case side1=>exact cS HR2.out);(case side2=>exact HC2.out);rintro e w' ⟨rfl,⟨nd,rfl⟩⟩))
  go_meet
  case rel=>exact ⟨_,(ck),sA,H',⟨by first|omega|exact Nat.le_refl _⟩,⟨by (repeat with_reducible first|apply zD|apply zF|apply zC);exact m.out⟩,⟨by (repeat with_reducible first|apply zD|apply zF|apply zC);exact q.out⟩,⟨bA⟩⟩
 case rest =>
  clear HC6
  try clear c1
  try clear c2
  try clear p2
  try clear c4
  try clear c5
  try clear dz
  try clear d0
  try clear c9
  try clear c12
  try clear ch
  try clear dn
  try clear dp
  try clear dd
  try clear de
  try clear df
  try clear dg
  try clear dh
  try clear di
  obtain ⟨kq,c8,rfl,HA,HJ5,m,q,HB⟩:=hcut
  cases kq with
  | zero=>exact absurd HA.out (by simp [zN.j0])
  | succ kj5 =>
   have H:=HA.out
   clear HA
   simp only [zN.j0] at H
   by_cases c14:c8=true
   ·subst c14
    have H1:(some (([]:List (S50)),0,0,1))=some (r1,r2,r3,r4):=by rw [if_pos rfl] at H;exact H
    clear H
    have H:=H1
    clear H1
    simp only [Option.some.injEq,Prod.mk.injEq] at H
    obtain ⟨rfl,rfl,rfl,rfl⟩:=H
    have ha:=bh.out
    have hc:=bg.out
    obtain ⟨d6,d7,d8,d9,ea,eb⟩:=xC3 q.out
    go_wp2
    refine bodyPost_ret (zBd rfl _ _ ab 26 #[.slice none 0 0,.int .i64 0,.int .i64 0] (0,0) _ rfl (by (repeat with_reducible first|apply zD|apply zF|apply zC);refine zP (cs:=#[.slice none 0 0,.int .i64 0,.int .i64 0]) ?_ 2 _ rfl;(repeat with_reducible first|apply zD|apply zF|apply zC);refine zP (cs:=#[.slice none 0 0,.int .i64 0,.int .i64 0]) ?_ 1 _ rfl;(repeat with_reducible first|apply zD|apply zF|apply zC);refine zP (cs:=#[.slice none 0 0,.int .i64 0,.int .i64 0]) ?_ 0 _ rfl;(repeat with_reducible first|apply zD|apply zF|apply zC);exact q.out) Try.underlying26 rfl (by kernel_rfl)) rfl ?_
    exact ⟨_,eA,by first|exact Kd.zBW _ _ _ _ _|exact Kd.zCK _ _ _ _ _|exact Kd.zCM _ _ _ _ _|exact Kd.zCL _ _ _ _ _|exact Kd.zCJ _ _ _ _ _,bA⟩
   replace c14:=Bool.eq_false_iff.mpr c14
   subst c14
   have H1:((zAy.f ar).bind fun bu=>(zN.l0 kj5 l2 l1 (l1.length:Int) 0 bu ac ad))=some (r1,r2,r3,r4):=by rw [if_neg (show ¬ (false=true) by decide)] at H;exact H
   clear H
   have H:=H1
   clear H1
   replace H:=Option.bind_eq_some_iff.mp H
   obtain ⟨bu,A170,H⟩:=H
   replace H:(zN.l0 kj5 l2 l1 (l1.length:Int) 0 bu ac ad)=some (r1,r2,r3,r4):=H
   have A17:=zA.mk A170
   clear A170
   have H':=zA.mk H
   clear H
   try go_wp2
   replace m:=qK (zF m.out)
   replace q:=qK (zF q.out)
   replace HB:=qK (zx HB.out)
   refine zBH (n:=8) (S:=fun w'=>w'.cell? ⟨aa,0,none⟩=some (.slice a5 ar.length a6)∧w'.cell? ⟨aa,1,none⟩=some (.int .i64 ac)∧w'.cell? ⟨aa,2,none⟩=some (.int .i64 ad)) (ds:=[]) #[false,false,false,false,false,false,false,false] (by kernel_rfl) rfl rfl ⟨(zB m.out 0).trans rfl,(zB m.out 1).trans rfl,(zB m.out 2).trans rfl⟩ (fun c=>?_);refine zAj zN.tab6 zN.bits6 (fun HT_ HW_=>?_)
   generalize wc.drew=w18 at m q HB c ⊢
   refine pP 0 (some 34) HT_ ?_
   refine pP 3 (some 37) HT_ ?_
   refine tP 1 (some 35) HT_ HW_ c ?_
   refine tP 4 (some 38) HT_ HW_ c ?_
   refine zBz (σ:=Value × Nat) 1 #[true,true,true,true,true,true,true,false] (fun s_=>[(36,s_.1),(9,.pointer (some ⟨s_.2,0,none⟩)),(39,.agg #[s_.1,.int .i64 ac,.int .i64 ad])]) (fun s_ w'=>(w'.cell? ⟨aa,0,none⟩=some (.slice a5 ar.length a6)∧w'.cell? ⟨aa,1,none⟩=some (.int .i64 ac)∧w'.cell? ⟨aa,2,none⟩=some (.int .i64 ad))∧(Kd.R k50 50 w' w.heap.size (fun _=>True) s_.1 bu)∧(w'.heap[aa]? = some (.cells #[.slice a5 ar.length a6,.int .i64 ac,.int .i64 ad] 26 (0,0)))∧(w'.heap[ab]? = some (.cells #[.slice none 0 0,.int .i64 0,.int .i64 0] 26 (0,0)))∧(w'.heap[s_.2]? = some (.cells #[.slice none 0 0,.int .i64 0,.int .i64 0] 26 (0,0)))∧(w.heap.size≤s_.2)∧(w.heap.size≤s_.2)∧(aa≠s_.2)∧(s_.2≠aa)∧(ab≠s_.2)∧(s_.2≠ab)∧(Below w.heap.size w w')) ?_ ?_
   rotate_left
   ·intro a8
    refine zB6 (i:=2) (j:=6) (Ni:=some 36) (Nj:=some 9) #[true,true,true,true,true,false,false,false] #[true,true,false,true,true,false,true,false] rfl rfl rfl rfl (zBG HT_.out (by kernel_rfl)) (by decide) (by decide) (fun K hK=>?_) (fun K hK=>?_)
    ·skip
     refine gO Try.func22 #[.slice a5 ar.length a6] ?_
     with_reducible refine (zAy.calls _ _ ar bu _ ?side1 ?side2 A17.out).mono ?_
     (case side1=>exact cS c7.out)
     (case side2=>exact HC0_0.out)
     rintro e w19 ⟨v196,rfl,ho0,hb⟩
     refine ⟨_,rfl,?_⟩
     have b0:=qK (Kd.zAH ho0 bZ)
     replace m:=bQ m hb
     replace q:=bQ q hb
     replace HB:=hQ hb
     (try clear hb)
     (try clear hb2)
     (try clear hk)
     (try clear hi)
     (try clear ho0)
     obtain ⟨ez,e0,ec⟩:=Kd.zq b0.out
     (first|subst ec|(injection ec with f1_ f2_ f3_;have f4_:=f1_.symm;have f5_:=f3_.symm;clear f1_ f2_ f3_;subst f4_;subst f5_))
     refine hK.out _ _ ⟨(zB m.out 0).trans rfl,(zB m.out 1).trans rfl,(zB m.out 2).trans rfl⟩ (fun c=>?_)
     clear hK K
     refine nP ?_
     refine pP 5 (some 39) HT_ ?_
     refine oP 6 (some 9) HT_ (fun K hK=>?_)
     refine zAK ?hg (N:=9) ?hd (cs:=#[.slice none 0 0,.int .i64 0,.int .i64 0]) (t:=26) ?hr ?_;(case hd=>rfl);(case hg=>rfl);(case hr=>first|(go_simp;done)|(go_simp;rfl))
     intro u hg w21 al hb
     replace b0:=rB b0 hb
     have l:=qK (al)
     have da:=qK (gS hg:w.heap.size≤u)
     have db:=qK (gS hg:w.heap.size≤u)
     replace HB:=hQ hb
     have ah:=qK (nL hg m.out:aa≠u)
     have a7:=qK (nG hg m.out:u≠aa)
     replace m:=bQ m hb
     have az:=qK (nL hg q.out:ab≠u)
     have a4:=qK (nG hg q.out:u≠ab)
     replace q:=bQ q hb
     clear hb al hg
     refine hK.out _ _ ⟨(zB m.out 0).trans rfl,(zB m.out 1).trans rfl,(zB m.out 2).trans rfl⟩ (fun c=>?_)
     clear hK K
     refine nP ?_
     exact zAe (by simp only [zy,Act.put,List.setIfInBounds_toArray,List.set_cons_zero,List.set_cons_succ]) (a8 (.slice ez bu.length e0,u) _ ⟨c,(rS b0.out),(bX m.out),(bX q.out),(bX l.out),da.out,db.out,ah.out,a7.out,az.out,a4.out,bA⟩)
    ·skip
     refine zAK ?hg (N:=9) ?hd (cs:=#[.slice none 0 0,.int .i64 0,.int .i64 0]) (t:=26) ?hr ?_;(case hd=>rfl);(case hg=>rfl);(case hr=>first|(go_simp;done)|(go_simp;rfl))
     intro u hg w19 al hb
     have l:=qK (al)
     have da:=qK (gS hg:w.heap.size≤u)
     have db:=qK (gS hg:w.heap.size≤u)
     replace HB:=hQ hb
     have ah:=qK (nL hg m.out:aa≠u)
     have a7:=qK (nG hg m.out:u≠aa)
     replace m:=bQ m hb
     have az:=qK (nL hg q.out:ab≠u)
     have a4:=qK (nG hg q.out:u≠ab)
     replace q:=bQ q hb
     clear hb al hg
     refine hK.out _ _ ⟨(zB m.out 0).trans rfl,(zB m.out 1).trans rfl,(zB m.out 2).trans rfl⟩ (fun c=>?_)
     clear hK K
     refine nP ?_
     refine oP 2 (some 36) HT_ (fun K hK=>?_)
     refine gO Try.func22 #[.slice a5 ar.length a6] ?_
     with_reducible refine (zAy.calls _ _ ar bu _ ?side1 ?side2 A17.out).mono ?_
     (case side1=>exact cS c7.out)
     (case side2=>exact HC0_0.out)
     rintro e w20 ⟨v196,rfl,ho0,hb⟩
     refine ⟨_,rfl,?_⟩
     have b0:=qK (Kd.zAH ho0 bZ)
     replace m:=bQ m hb
     replace q:=bQ q hb
     replace l:=bQ l hb
     replace HB:=hQ hb
     (try clear hb)
     (try clear hb2)
     (try clear hk)
     (try clear hi)
     (try clear ho0)
     obtain ⟨e1,e2,ed⟩:=Kd.zq b0.out
     (first|subst ed|(injection ed with f1_ f2_ f3_;have f4_:=f1_.symm;have f5_:=f3_.symm;clear f1_ f2_ f3_;subst f4_;subst f5_))
     refine hK.out _ _ ⟨(zB m.out 0).trans rfl,(zB m.out 1).trans rfl,(zB m.out 2).trans rfl⟩ (fun c=>?_)
     clear hK K
     refine nP ?_
     refine pP 5 (some 39) HT_ ?_
     exact zAe (by simp only [zy,Act.put,List.setIfInBounds_toArray,List.set_cons_zero,List.set_cons_succ]) (a8 (.slice e1 bu.length e2,u) _ ⟨c,(rS b0.out),(bX m.out),(bX q.out),(bX l.out),da.out,db.out,ah.out,a7.out,az.out,a4.out,bA⟩)
   rintro ⟨v196,u⟩ w22 ⟨hS_,h0_,h1_,h2_,h3_,h4_,h5_,h6_,h7_,h8_,h9_,h10_⟩
   have n0_:zA (Kd.R k50 50 w22 w.heap.size (fun _=>True) v196 bu):=⟨h0_⟩
   have n1_:zA (w22.heap[aa]? = some (.cells #[.slice a5 ar.length a6,.int .i64 ac,.int .i64 ad] 26 (0,0))):=⟨h1_⟩
   have n2_:zA (w22.heap[ab]? = some (.cells #[.slice none 0 0,.int .i64 0,.int .i64 0] 26 (0,0))):=⟨h2_⟩
   have n3_:zA (w22.heap[u]? = some (.cells #[.slice none 0 0,.int .i64 0,.int .i64 0] 26 (0,0))):=⟨h3_⟩
   have n4_:zA (w.heap.size≤u):=⟨h4_⟩
   have n5_:zA (w.heap.size≤u):=⟨h5_⟩
   have n6_:zA (aa≠u):=⟨h6_⟩
   have n7_:zA (u≠aa):=⟨h7_⟩
   have n8_:zA (ab≠u):=⟨h8_⟩
   have n9_:zA (u≠ab):=⟨h9_⟩
   have n10_:zA (Below w.heap.size w w22):=⟨h10_⟩
   clear m
   clear q
   clear HB
   clear h0_ h1_ h2_ h3_ h4_ h5_ h6_ h7_ h8_ h9_ h10_
   have b0:=n0_
   have m:=n1_
   have q:=n2_
   have l:=n3_
   have da:=n4_
   have db:=n5_
   have ah:=n6_
   have a7:=n7_
   have az:=n8_
   have a4:=n9_
   have HB:=n10_
   clear n0_ n1_ n2_ n3_ n4_ n5_ n6_ n7_ n8_ n9_ n10_
   have c:w22.cell? ⟨aa,0,none⟩=some (.slice a5 ar.length a6)∧w22.cell? ⟨aa,1,none⟩=some (.int .i64 ac)∧w22.cell? ⟨aa,2,none⟩=some (.int .i64 ad):=hS_
   obtain ⟨dq,dr,ee⟩:=Kd.zq b0.out
   (first|subst ee|(injection ee with f1_ f2_ f3_;have f4_:=f1_.symm;have f5_:=f3_.symm;clear f1_ f2_ f3_;subst f4_;subst f5_))
   refine zAe (a':=?_) ?_ ?_
   rotate_left
   ·simp only [zy,Act.put,List.setIfInBounds_toArray,List.set_cons_zero,List.set_cons_succ]
    rfl
   refine oP 7 none HT_ (fun K hK=>?_)
   have i8:w22.cell? ⟨u,0,none⟩=some (.slice none 0 0):=(zB l.out 0).trans rfl
   have he:=zW l.out 0
   have e7:=ah.out
   have e8:=az.out
   have e9:=a7.out
   have fa:=a4.out
   have i9:w22.cell? ⟨u,1,none⟩=some (.int .i64 0):=(zB l.out 1).trans rfl
   have hf:=zW l.out 1
   have fb:=ah.out
   have fc:=az.out
   have fd:=a7.out
   have fe:=a4.out
   have ja:w22.cell? ⟨u,2,none⟩=some (.int .i64 0):=(zB l.out 2).trans rfl
   have hh:=zW l.out 2
   have ff:=ah.out
   have fg:=az.out
   have fh:=a7.out
   have fi:=a4.out
   refine zB0 (w1:=?_) (by rfl) rfl ?_ ?_
   rotate_left
   ·go_simp
    rfl
   refine hK.out _ _ ⟨((cell_far (p:=⟨u,_,none⟩) ah.out _).trans (((cell_far (p:=⟨u,_,none⟩) ah.out _).trans (((cell_far (p:=⟨u,_,none⟩) ah.out _).trans (c.1)))))),((cell_far (p:=⟨u,_,none⟩) ah.out _).trans (((cell_far (p:=⟨u,_,none⟩) ah.out _).trans (((cell_far (p:=⟨u,_,none⟩) ah.out _).trans (c.2.1)))))),((cell_far (p:=⟨u,_,none⟩) ah.out _).trans (((cell_far (p:=⟨u,_,none⟩) ah.out _).trans (((cell_far (p:=⟨u,_,none⟩) ah.out _).trans (c.2.2))))))⟩ (fun c=>?_)
   clear hK K
   refine zBZ (zA8 HT_.out (by kernel_rfl)) ?_
   try go_wp2
   go_loopg [42] kj5 (fun kq v42 w'=>∃ (a:Int) (am:Int) (ai:Int) (b:List (S50)) (u199000:Value),v42= .int .i64 a∧zA (zN.l0 kq l2 l1 (l1.length:Int) a b ac ad=some (r1,r2,r3,r4))∧zA (kq≤kj5)∧zA (Kd.R k50 50 w' w.heap.size (fun _=>True) u199000 b)∧zA (w'.heap[aa]? = some (.cells #[(.slice a5 ar.length a6),.int .i64 ac,.int .i64 ad] 26 (0,0)))∧zA (w'.heap[ab]? = some (.cells #[(.slice none 0 0),.int .i64 am,.int .i64 ai] 26 (0,0)))∧zA (w'.heap[u]? = some (.cells #[u199000,.int .i64 ac,.int .i64 ad] 26 (0,0)))∧zA (Below w.heap.size w w'))
   case atStart=>exact ⟨(0),(0),(0),(bu),(.slice dq bu.length dr),sA,H',⟨Nat.le_refl _⟩,⟨by (with_reducible repeat (first|apply Kd.zAp|apply Kd.zAn|apply Kd.zAv));exact Kd.zR (Kd.zM (p:=⟨u,2,none⟩) (Kd.zM (p:=⟨u,1,none⟩) (Kd.zM (p:=⟨u,0,none⟩) (Kd.ze b0.out l.out (by decide)) (fun _ hk=>hk.2) (.slice dq bu.length dr)) (fun _ hk=>hk.2) (.int .i64 ac)) (fun _ hk=>hk.2) (.int .i64 ad)) (fun _ hk=>trivial)⟩,⟨by (repeat with_reducible first|apply zD|apply zF|apply zC);refine zO ?_ ah.out _;(repeat with_reducible first|apply zD|apply zF|apply zC);refine zO ?_ ah.out _;(repeat with_reducible first|apply zD|apply zF|apply zC);refine zO ?_ ah.out _;(repeat with_reducible first|apply zD|apply zF|apply zC);exact m.out⟩,⟨by (repeat with_reducible first|apply zD|apply zF|apply zC);refine zO ?_ az.out _;(repeat with_reducible first|apply zD|apply zF|apply zC);refine zO ?_ az.out _;(repeat with_reducible first|apply zD|apply zF|apply zC);refine zO ?_ az.out _;(repeat with_reducible first|apply zD|apply zF|apply zC);exact q.out⟩,⟨by (repeat with_reducible first|apply zD|apply zF|apply zC);refine zP (cs:=#[.slice dq bu.length dr,.int .i64 ac,.int .i64 0]) ?_ 2 _ rfl;(repeat with_reducible first|apply zD|apply zF|apply zC);refine zP (cs:=#[.slice dq bu.length dr,.int .i64 0,.int .i64 0]) ?_ 1 _ rfl;(repeat with_reducible first|apply zD|apply zF|apply zC);refine zP (cs:=#[.slice none 0 0,.int .i64 0,.int .i64 0]) ?_ 0 _ rfl;(repeat with_reducible first|apply zD|apply zF|apply zC);exact l.out⟩,⟨bA⟩⟩
   case round =>
    clear H'
    try clear c1
    try clear c2
    try clear p2
    try clear c4
    try clear c5
    try clear dz
    try clear d0
    try clear c9
    try clear c12
    try clear ch
    try clear dn
    try clear dp
    try clear c14
    try clear c15
    try clear c22
    try clear dd
    try clear de
    try clear df
    try clear d6
    try clear d7
    try clear d8
    try clear dg
    try clear dh
    try clear di
    try clear d9
    try clear ea
    try clear eb
    try clear p2
    obtain ⟨a,am,ai,b,u199000,rfl,HA,HK2,d,m,q,l,HB⟩:=hrel
    cases gk with
    | zero=>exact absurd HA.out (by simp [zN.l0])
    | succ k2 =>
     have H:=HA.out
     clear HA
     simp only [zN.l0] at H
     by_cases c27:a < (l1.length:Int)
     rotate_left
     ·rw [if_neg c27] at H
      have et:decide (a < (l1.length:Int))=false:=decide_eq_false c27
      clear c27
      replace H:=Option.bind_eq_some_iff.mp H
      obtain ⟨⟨a9,ba⟩,A660,H⟩:=H
      replace H:((zh.f a9 ba ac ad).bind fun eu=>(if eu.2.2=true then (some (b,ac,ad,0)) else (some (([]:List (S50)),0,0,4))))=some (r1,r2,r3,r4):=H
      have A66:=zA.mk A660
      clear A660
      replace H:=Option.bind_eq_some_iff.mp H
      obtain ⟨⟨bv,bw,ef⟩,A670,H⟩:=H
      replace H:(if ef=true then (some (b,ac,ad,0)) else (some (([]:List (S50)),0,0,4)))=some (r1,r2,r3,r4):=H
      have A67:=zA.mk A670
      clear A670
      by_cases c68:ef=true
      rotate_left
      ·replace c68:=Bool.eq_false_iff.mpr c68
       subst c68
       have H1:(some (([]:List (S50)),0,0,4))=some (r1,r2,r3,r4):=by rw [if_neg (show ¬ (false=true) by decide)] at H;exact H
       clear H
       have H:=H1
       clear H1
       simp only [Option.some.injEq,Prod.mk.injEq] at H
       obtain ⟨rfl,rfl,rfl,rfl⟩:=H
       obtain ⟨ci,cj,e3⟩:=Kd.zq d.out
       subst e3
       try go_wp2
       replace d:=qK (Kd.zAv d.out)
       replace m:=qK (zF m.out)
       replace q:=qK (zF q.out)
       replace l:=qK (zF l.out)
       replace HB:=qK (zx HB.out)
       refine zBH (n:=11) (S:=fun w'=>w'.cell? ⟨u,0,none⟩=some (.slice ci b.length cj)∧w'.cell? ⟨u,1,none⟩=some (.int .i64 ac)∧w'.cell? ⟨u,2,none⟩=some (.int .i64 ad)) (ds:=[]) #[false,false,false,false,false,false,false,false,false,false,false] (by kernel_rfl) rfl rfl ⟨(zB l.out 0).trans rfl,(zB l.out 1).trans rfl,(zB l.out 2).trans rfl⟩ (fun c=>?_);refine zAj zN.tab16 zN.bits16 (fun HT_ HW_=>?_)
       generalize wr.drew=w85 at d m q l HB c ⊢
       refine pP 2 (some 89) HT_ ?_
       refine tP 0 (some 87) HT_ HW_ c ?_
       refine tP 3 (some 90) HT_ HW_ c ?_
       refine zBz (σ:=Nat) 2 #[true,true,true,true,true,true,true,true,true,false,false] (fun s_=>[(88,.agg #[.int .i64 a9,.int .i64 ba]),(91,.tuple #[.agg #[.int .i64 bv,.int .i64 bw],.bool false]),(15,.pointer (some ⟨s_,0,none⟩)),(86,.tuple #[.agg #[.int .i64 bv,.int .i64 bw],.bool false]),(92,.agg #[.int .i64 bv,.int .i64 bw]),(93,.bool false)]) (fun s_ w'=>(w'.cell? ⟨u,0,none⟩=some (.slice ci b.length cj)∧w'.cell? ⟨u,1,none⟩=some (.int .i64 ac)∧w'.cell? ⟨u,2,none⟩=some (.int .i64 ad))∧(Kd.R k50 50 w' w.heap.size (fun _=>True) (.slice ci b.length cj) b)∧(w'.heap[aa]? = some (.cells #[.slice a5 ar.length a6,.int .i64 ac,.int .i64 ad] 26 (0,0)))∧(w'.heap[ab]? = some (.cells #[.slice none 0 0,.int .i64 am,.int .i64 ai] 26 (0,0)))∧(w'.heap[u]? = some (.cells #[.slice ci b.length cj,.int .i64 ac,.int .i64 ad] 26 (0,0)))∧(w'.heap[s_]? = some (.cells #[.int .i64 0,.int .i64 0] 24 (0,0)))∧(w.heap.size≤s_)∧(w.heap.size≤s_)∧(aa≠s_)∧(s_≠aa)∧(ab≠s_)∧(s_≠ab)∧(u≠s_)∧(s_≠u)∧(Below w.heap.size w w')) ?_ ?_
       rotate_left
       ·intro a8
        refine zB6 (i:=1) (j:=8) (Ni:=some 88) (Nj:=some 15) #[true,true,true,true,false,false,false,false,false,false,false] #[true,false,true,true,false,false,false,false,true,false,false] rfl rfl rfl rfl (zBG HT_.out (by kernel_rfl)) (by decide) (by decide) (fun K hK=>?_) (fun K hK=>?_)
        ·skip
         refine gO Try.func54 #[.agg #[.slice ci b.length cj,.int .i64 ac,.int .i64 ad]] ?_
         with_reducible refine (zAA.calls k2 _ _ b ac ad a9 ba _ ?side1 ?side2 A66.out).mono ?_
         (case side1=>exact cR (Kd.zJ d.out).2.2)
         (case side2=>exact (Kd.zJ d.out).2.1)
         rintro e w86 ⟨rfl,hb⟩
         refine ⟨_,rfl,?_⟩
         replace d:=rB d hb
         replace m:=bQ m hb
         replace q:=bQ q hb
         replace l:=bQ l hb
         replace HB:=hQ hb
         (try clear hb)
         (try clear hb2)
         (try clear hk)
         (try clear hi)
         refine hK.out _ _ ⟨(zB l.out 0).trans rfl,(zB l.out 1).trans rfl,(zB l.out 2).trans rfl⟩ (fun c=>?_)
         clear hK K
         refine nP ?_
         refine zB6 (i:=4) (j:=8) (Ni:=some 91) (Nj:=some 15) #[true,true,true,true,true,false,false,false,false,false,false] #[true,true,true,true,false,false,false,false,true,false,false] rfl rfl rfl rfl (zBG HT_.out (by kernel_rfl)) (by decide) (by decide) (fun K hK=>?_) (fun K hK=>?_)
         ·skip
          refine gO Try.func53 #[.agg #[.int .i64 a9,.int .i64 ba],.agg #[.int .i64 ac,.int .i64 ad]] ?_
          with_reducible refine (zh.calls a9 ba ac ad bv bw false _ A67.out).mono ?_
          rintro e w87 ⟨rfl,hb⟩
          refine ⟨_,rfl,?_⟩
          replace d:=rB d hb
          replace m:=bQ m hb
          replace q:=bQ q hb
          replace l:=bQ l hb
          replace HB:=hQ hb
          (try clear hb)
          (try clear hb2)
          (try clear hk)
          (try clear hi)
          refine hK.out _ _ ⟨(zB l.out 0).trans rfl,(zB l.out 1).trans rfl,(zB l.out 2).trans rfl⟩ (fun c=>?_)
          clear hK K
          refine nP ?_
          refine pP 5 (some 86) HT_ ?_
          refine pP 6 (some 92) HT_ ?_
          refine pP 7 (some 93) HT_ ?_
          refine oP 8 (some 15) HT_ (fun K hK=>?_)
          refine zAK ?hg (N:=15) ?hd (cs:=#[.int .i64 0,.int .i64 0]) (t:=24) ?hr ?_;(case hd=>rfl);(case hg=>rfl);(case hr=>first|(go_simp;done)|(go_simp;rfl))
          intro x hg w88 al hb
          replace d:=rB d hb
          have ap:=qK (al)
          have bi:=qK (gS hg:w.heap.size≤x)
          have bj:=qK (gS hg:w.heap.size≤x)
          replace HB:=hQ hb
          have au:=qK (nL hg m.out:aa≠x)
          have av:=qK (nG hg m.out:x≠aa)
          replace m:=bQ m hb
          have af:=qK (nL hg q.out:ab≠x)
          have an:=qK (nG hg q.out:x≠ab)
          replace q:=bQ q hb
          have ae:=qK (nL hg l.out:u≠x)
          have aq:=qK (nG hg l.out:x≠u)
          replace l:=bQ l hb
          clear hb al hg
          refine hK.out _ _ ⟨(zB l.out 0).trans rfl,(zB l.out 1).trans rfl,(zB l.out 2).trans rfl⟩ (fun c=>?_)
          clear hK K
          refine nP ?_
          exact zAe (by simp only [zy,Act.put,List.setIfInBounds_toArray,List.set_cons_zero,List.set_cons_succ]) (a8 (x) _ ⟨c,(rS d.out),(bX m.out),(bX q.out),(bX l.out),(bX ap.out),bi.out,bj.out,au.out,av.out,af.out,an.out,ae.out,aq.out,bA⟩)
         ·skip
          refine zAK ?hg (N:=15) ?hd (cs:=#[.int .i64 0,.int .i64 0]) (t:=24) ?hr ?_;(case hd=>rfl);(case hg=>rfl);(case hr=>first|(go_simp;done)|(go_simp;rfl))
          intro x hg w87 al hb
          replace d:=rB d hb
          have ap:=qK (al)
          have bi:=qK (gS hg:w.heap.size≤x)
          have bj:=qK (gS hg:w.heap.size≤x)
          replace HB:=hQ hb
          have au:=qK (nL hg m.out:aa≠x)
          have av:=qK (nG hg m.out:x≠aa)
          replace m:=bQ m hb
          have af:=qK (nL hg q.out:ab≠x)
          have an:=qK (nG hg q.out:x≠ab)
          replace q:=bQ q hb
          have ae:=qK (nL hg l.out:u≠x)
          have aq:=qK (nG hg l.out:x≠u)
          replace l:=bQ l hb
          clear hb al hg
          refine hK.out _ _ ⟨(zB l.out 0).trans rfl,(zB l.out 1).trans rfl,(zB l.out 2).trans rfl⟩ (fun c=>?_)
          clear hK K
          refine nP ?_
          refine oP 4 (some 91) HT_ (fun K hK=>?_)
          refine gO Try.func53 #[.agg #[.int .i64 a9,.int .i64 ba],.agg #[.int .i64 ac,.int .i64 ad]] ?_
          with_reducible refine (zh.calls a9 ba ac ad bv bw false _ A67.out).mono ?_
          rintro e w88 ⟨rfl,hb⟩
          refine ⟨_,rfl,?_⟩
          replace d:=rB d hb
          replace m:=bQ m hb
          replace q:=bQ q hb
          replace l:=bQ l hb
          replace ap:=bQ ap hb
          replace HB:=hQ hb
          (try clear hb)
          (try clear hb2)
          (try clear hk)
          (try clear hi)
          refine hK.out _ _ ⟨(zB l.out 0).trans rfl,(zB l.out 1).trans rfl,(zB l.out 2).trans rfl⟩ (fun c=>?_)
          clear hK K
          refine nP ?_
          refine pP 5 (some 86) HT_ ?_
          refine pP 6 (some 92) HT_ ?_
          refine pP 7 (some 93) HT_ ?_
          exact zAe (by simp only [zy,Act.put,List.setIfInBounds_toArray,List.set_cons_zero,List.set_cons_succ]) (a8 (x) _ ⟨c,(rS d.out),(bX m.out),(bX q.out),(bX l.out),(bX ap.out),bi.out,bj.out,au.out,av.out,af.out,an.out,ae.out,aq.out,bA⟩)
        ·skip
         refine zAK ?hg (N:=15) ?hd (cs:=#[.int .i64 0,.int .i64 0]) (t:=24) ?hr ?_;(case hd=>rfl);(case hg=>rfl);(case hr=>first|(go_simp;done)|(go_simp;rfl))
         intro x hg w86 al hb
         replace d:=rB d hb
         have ap:=qK (al)
         have bi:=qK (gS hg:w.heap.size≤x)
         have bj:=qK (gS hg:w.heap.size≤x)
         replace HB:=hQ hb
         have au:=qK (nL hg m.out:aa≠x)
         have av:=qK (nG hg m.out:x≠aa)
         replace m:=bQ m hb
         have af:=qK (nL hg q.out:ab≠x)
         have an:=qK (nG hg q.out:x≠ab)
         replace q:=bQ q hb
         have ae:=qK (nL hg l.out:u≠x)
         have aq:=qK (nG hg l.out:x≠u)
         replace l:=bQ l hb
         clear hb al hg
         refine hK.out _ _ ⟨(zB l.out 0).trans rfl,(zB l.out 1).trans rfl,(zB l.out 2).trans rfl⟩ (fun c=>?_)
         clear hK K
         refine nP ?_
         refine oP 1 (some 88) HT_ (fun K hK=>?_)
         refine gO Try.func54 #[.agg #[.slice ci b.length cj,.int .i64 ac,.int .i64 ad]] ?_
         with_reducible refine (zAA.calls k2 _ _ b ac ad a9 ba _ ?side1 ?side2 A66.out).mono ?_
         (case side1=>exact cR (Kd.zJ d.out).2.2)
         (case side2=>exact (Kd.zJ d.out).2.1)
         rintro e w87 ⟨rfl,hb⟩
         refine ⟨_,rfl,?_⟩
         replace d:=rB d hb
         replace m:=bQ m hb
         replace q:=bQ q hb
         replace l:=bQ l hb
         replace ap:=bQ ap hb
         replace HB:=hQ hb
         (try clear hb)
         (try clear hb2)
         (try clear hk)
         (try clear hi)
         refine hK.out _ _ ⟨(zB l.out 0).trans rfl,(zB l.out 1).trans rfl,(zB l.out 2).trans rfl⟩ (fun c=>?_)
         clear hK K
         refine nP ?_
         refine oP 4 (some 91) HT_ (fun K hK=>?_)
         refine gO Try.func53 #[.agg #[.int .i64 a9,.int .i64 ba],.agg #[.int .i64 ac,.int .i64 ad]] ?_
         with_reducible refine (zh.calls a9 ba ac ad bv bw false _ A67.out).mono ?_
         rintro e w88 ⟨rfl,hb⟩
         refine ⟨_,rfl,?_⟩
         replace d:=rB d hb
         replace m:=bQ m hb
         replace q:=bQ q hb
         replace l:=bQ l hb
         replace ap:=bQ ap hb
         replace HB:=hQ hb
         (try clear hb)
         (try clear hb2)
         (try clear hk)
         (try clear hi)
         refine hK.out _ _ ⟨(zB l.out 0).trans rfl,(zB l.out 1).trans rfl,(zB l.out 2).trans rfl⟩ (fun c=>?_)
         clear hK K
         refine nP ?_
         refine pP 5 (some 86) HT_ ?_
         refine pP 6 (some 92) HT_ ?_
         refine pP 7 (some 93) HT_ ?_
         exact zAe (by simp only [zy,Act.put,List.setIfInBounds_toArray,List.set_cons_zero,List.set_cons_succ]) (a8 (x) _ ⟨c,(rS d.out),(bX m.out),(bX q.out),(bX l.out),(bX ap.out),bi.out,bj.out,au.out,av.out,af.out,an.out,ae.out,aq.out,bA⟩)
       rintro x w89 ⟨hS_,h0_,h1_,h2_,h3_,h4_,h5_,h6_,h7_,h8_,h9_,h10_,h11_,h12_,h13_⟩
       have n0_:zA (Kd.R k50 50 w89 w.heap.size (fun _=>True) (.slice ci b.length cj) b):=⟨h0_⟩
       have n1_:zA (w89.heap[aa]? = some (.cells #[.slice a5 ar.length a6,.int .i64 ac,.int .i64 ad] 26 (0,0))):=⟨h1_⟩
       have n2_:zA (w89.heap[ab]? = some (.cells #[.slice none 0 0,.int .i64 am,.int .i64 ai] 26 (0,0))):=⟨h2_⟩
       have n3_:zA (w89.heap[u]? = some (.cells #[.slice ci b.length cj,.int .i64 ac,.int .i64 ad] 26 (0,0))):=⟨h3_⟩
       have n4_:zA (w89.heap[x]? = some (.cells #[.int .i64 0,.int .i64 0] 24 (0,0))):=⟨h4_⟩
       have n5_:zA (w.heap.size≤x):=⟨h5_⟩
       have n6_:zA (w.heap.size≤x):=⟨h6_⟩
       have n7_:zA (aa≠x):=⟨h7_⟩
       have n8_:zA (x≠aa):=⟨h8_⟩
       have n9_:zA (ab≠x):=⟨h9_⟩
       have n10_:zA (x≠ab):=⟨h10_⟩
       have n11_:zA (u≠x):=⟨h11_⟩
       have n12_:zA (x≠u):=⟨h12_⟩
       have n13_:zA (Below w.heap.size w w89):=⟨h13_⟩
       clear d
       clear m
       clear q
       clear l
       clear HB
       clear h0_ h1_ h2_ h3_ h4_ h5_ h6_ h7_ h8_ h9_ h10_ h11_ h12_ h13_
       have d:=n0_
       have m:=n1_
       have q:=n2_
       have l:=n3_
       have ap:=n4_
       have bi:=n5_
       have bj:=n6_
       have au:=n7_
       have av:=n8_
       have af:=n9_
       have an:=n10_
       have ae:=n11_
       have aq:=n12_
       have HB:=n13_
       clear n0_ n1_ n2_ n3_ n4_ n5_ n6_ n7_ n8_ n9_ n10_ n11_ n12_ n13_
       have c:w89.cell? ⟨u,0,none⟩=some (.slice ci b.length cj)∧w89.cell? ⟨u,1,none⟩=some (.int .i64 ac)∧w89.cell? ⟨u,2,none⟩=some (.int .i64 ad):=hS_
       refine zAe (a':=?_) ?_ ?_
       rotate_left
       ·simp only [zy,Act.put,List.setIfInBounds_toArray,List.set_cons_zero,List.set_cons_succ]
        rfl
       refine oP 9 none HT_ (fun K hK=>?_)
       have jb:w89.cell? ⟨x,0,none⟩=some (.int .i64 0):=(zB ap.out 0).trans rfl
       have hj:=zW ap.out 0
       have fj:=au.out
       have fk:=af.out
       have fl:=ae.out
       have fm:=av.out
       have fn:=an.out
       have fo:=aq.out
       have jc:w89.cell? ⟨x,1,none⟩=some (.int .i64 0):=(zB ap.out 1).trans rfl
       have hl:=zW ap.out 1
       have fp:=au.out
       have fq:=af.out
       have fr:=ae.out
       have fs:=av.out
       have ft:=an.out
       have fu:=aq.out
       refine zB0 (w1:=?_) (by rfl) rfl ?_ ?_
       rotate_left
       ·go_simp
        rfl
       refine hK.out _ _ ⟨((cell_far (p:=⟨x,_,none⟩) ae.out _).trans (((cell_far (p:=⟨x,_,none⟩) ae.out _).trans (c.1)))),((cell_far (p:=⟨x,_,none⟩) ae.out _).trans (((cell_far (p:=⟨x,_,none⟩) ae.out _).trans (c.2.1)))),((cell_far (p:=⟨x,_,none⟩) ae.out _).trans (((cell_far (p:=⟨x,_,none⟩) ae.out _).trans (c.2.2))))⟩ (fun c=>?_)
       clear hK K
       refine pP 10 (some 16) HT_ ?_
       refine zBZ (zA8 HT_.out (by kernel_rfl)) ?_
       have hm:=bh.out
       have hp:=bg.out
       have hq:=az.out
       have hs:=a4.out
       have ht:=af.out
       have hu:=an.out
       obtain ⟨_,_,_,_,_,_⟩:=xC3 q.out
       try go_wp2
       refine bodyPost_ret (zBd rfl _ _ ab 26 #[.slice none 0 0,.int .i64 0,.int .i64 0] (0,0) _ rfl (by (repeat with_reducible first|apply zD|apply zF|apply zC);refine zP (cs:=#[.slice none 0 0,.int .i64 0,.int .i64 ai]) ?_ 2 _ rfl;(repeat with_reducible first|apply zD|apply zF|apply zC);refine zP (cs:=#[.slice none 0 0,.int .i64 am,.int .i64 ai]) ?_ 1 _ rfl;(repeat with_reducible first|apply zD|apply zF|apply zC);refine zP (cs:=#[.slice none 0 0,.int .i64 am,.int .i64 ai]) ?_ 0 _ rfl;(repeat with_reducible first|apply zD|apply zF|apply zC);refine zO ?_ af.out _;(repeat with_reducible first|apply zD|apply zF|apply zC);refine zO ?_ af.out _;(repeat with_reducible first|apply zD|apply zF|apply zC);exact q.out) Try.underlying26 rfl (by kernel_rfl)) rfl ?_
       exact ⟨_,eA,by first|exact Kd.zBW _ _ _ _ _|exact Kd.zCK _ _ _ _ _|exact Kd.zCM _ _ _ _ _|exact Kd.zCL _ _ _ _ _|exact Kd.zCJ _ _ _ _ _,bA⟩
      subst c68
      have H1:(some (b,ac,ad,0))=some (r1,r2,r3,r4):=by rw [if_pos rfl] at H;exact H
      clear H
      have H:=H1
      clear H1
      simp only [Option.some.injEq,Prod.mk.injEq] at H
      obtain ⟨rfl,rfl,rfl,rfl⟩:=H
      obtain ⟨bx,bz,e4⟩:=Kd.zq d.out
      subst e4
      try go_wp2
      replace d:=qK (Kd.zAv d.out)
      replace m:=qK (zF m.out)
      replace q:=qK (zF q.out)
      replace l:=qK (zF l.out)
      replace HB:=qK (zx HB.out)
      refine zBH (n:=11) (S:=fun w'=>w'.cell? ⟨u,0,none⟩=some (.slice bx b.length bz)∧w'.cell? ⟨u,1,none⟩=some (.int .i64 ac)∧w'.cell? ⟨u,2,none⟩=some (.int .i64 ad)) (ds:=[]) #[false,false,false,false,false,false,false,false,false,false,false] (by kernel_rfl) rfl rfl ⟨(zB l.out 0).trans rfl,(zB l.out 1).trans rfl,(zB l.out 2).trans rfl⟩ (fun c=>?_);refine zAj zN.tab16 zN.bits16 (fun HT_ HW_=>?_)
      generalize wr.drew=w70 at d m q l HB c ⊢
      refine pP 2 (some 89) HT_ ?_
      refine tP 0 (some 87) HT_ HW_ c ?_
      refine tP 3 (some 90) HT_ HW_ c ?_
      refine zBz (σ:=Nat) 2 #[true,true,true,true,true,true,true,true,true,false,false] (fun s_=>[(88,.agg #[.int .i64 a9,.int .i64 ba]),(91,.tuple #[.agg #[.int .i64 bv,.int .i64 bw],.bool true]),(15,.pointer (some ⟨s_,0,none⟩)),(86,.tuple #[.agg #[.int .i64 bv,.int .i64 bw],.bool true]),(92,.agg #[.int .i64 bv,.int .i64 bw]),(93,.bool true)]) (fun s_ w'=>(w'.cell? ⟨u,0,none⟩=some (.slice bx b.length bz)∧w'.cell? ⟨u,1,none⟩=some (.int .i64 ac)∧w'.cell? ⟨u,2,none⟩=some (.int .i64 ad))∧(Kd.R k50 50 w' w.heap.size (fun _=>True) (.slice bx b.length bz) b)∧(w'.heap[aa]? = some (.cells #[.slice a5 ar.length a6,.int .i64 ac,.int .i64 ad] 26 (0,0)))∧(w'.heap[ab]? = some (.cells #[.slice none 0 0,.int .i64 am,.int .i64 ai] 26 (0,0)))∧(w'.heap[u]? = some (.cells #[.slice bx b.length bz,.int .i64 ac,.int .i64 ad] 26 (0,0)))∧(w'.heap[s_]? = some (.cells #[.int .i64 0,.int .i64 0] 24 (0,0)))∧(w.heap.size≤s_)∧(w.heap.size≤s_)∧(aa≠s_)∧(s_≠aa)∧(ab≠s_)∧(s_≠ab)∧(u≠s_)∧(s_≠u)∧(Below w.heap.size w w')) ?_ ?_
      rotate_left
      ·intro a8
       refine zB6 (i:=1) (j:=8) (Ni:=some 88) (Nj:=some 15) #[true,true,true,true,false,false,false,false,false,false,false] #[true,false,true,true,false,false,false,false,true,false,false] rfl rfl rfl rfl (zBG HT_.out (by kernel_rfl)) (by decide) (by decide) (fun K hK=>?_) (fun K hK=>?_)
       ·skip
        refine gO Try.func54 #[.agg #[.slice bx b.length bz,.int .i64 ac,.int .i64 ad]] ?_
        with_reducible refine (zAA.calls k2 _ _ b ac ad a9 ba _ ?side1 ?side2 A66.out).mono ?_
        (case side1=>exact cR (Kd.zJ d.out).2.2)
        (case side2=>exact (Kd.zJ d.out).2.1)
        rintro e w71 ⟨rfl,hb⟩
        refine ⟨_,rfl,?_⟩
        replace d:=rB d hb
        replace m:=bQ m hb
        replace q:=bQ q hb
        replace l:=bQ l hb
        replace HB:=hQ hb
        (try clear hb)
        (try clear hb2)
        (try clear hk)
        (try clear hi)
        refine hK.out _ _ ⟨(zB l.out 0).trans rfl,(zB l.out 1).trans rfl,(zB l.out 2).trans rfl⟩ (fun c=>?_)
        clear hK K
        refine nP ?_
        refine zB6 (i:=4) (j:=8) (Ni:=some 91) (Nj:=some 15) #[true,true,true,true,true,false,false,false,false,false,false] #[true,true,true,true,false,false,false,false,true,false,false] rfl rfl rfl rfl (zBG HT_.out (by kernel_rfl)) (by decide) (by decide) (fun K hK=>?_) (fun K hK=>?_)
        ·skip
         refine gO Try.func53 #[.agg #[.int .i64 a9,.int .i64 ba],.agg #[.int .i64 ac,.int .i64 ad]] ?_
         with_reducible refine (zh.calls a9 ba ac ad bv bw true _ A67.out).mono ?_
         rintro e w72 ⟨rfl,hb⟩
         refine ⟨_,rfl,?_⟩
         replace d:=rB d hb
         replace m:=bQ m hb
         replace q:=bQ q hb
         replace l:=bQ l hb
         replace HB:=hQ hb
         (try clear hb)
         (try clear hb2)
         (try clear hk)
         (try clear hi)
         refine hK.out _ _ ⟨(zB l.out 0).trans rfl,(zB l.out 1).trans rfl,(zB l.out 2).trans rfl⟩ (fun c=>?_)
         clear hK K
         refine nP ?_
         refine pP 5 (some 86) HT_ ?_
         refine pP 6 (some 92) HT_ ?_
         refine pP 7 (some 93) HT_ ?_
         refine oP 8 (some 15) HT_ (fun K hK=>?_)
         refine zAK ?hg (N:=15) ?hd (cs:=#[.int .i64 0,.int .i64 0]) (t:=24) ?hr ?_;(case hd=>rfl);(case hg=>rfl);(case hr=>first|(go_simp;done)|(go_simp;rfl))
         intro x hg w73 al hb
         replace d:=rB d hb
         have ap:=qK (al)
         have bi:=qK (gS hg:w.heap.size≤x)
         have bj:=qK (gS hg:w.heap.size≤x)
         replace HB:=hQ hb
         have au:=qK (nL hg m.out:aa≠x)
         have av:=qK (nG hg m.out:x≠aa)
         replace m:=bQ m hb
         have af:=qK (nL hg q.out:ab≠x)
         have an:=qK (nG hg q.out:x≠ab)
         replace q:=bQ q hb
         have ae:=qK (nL hg l.out:u≠x)
         have aq:=qK (nG hg l.out:x≠u)
         replace l:=bQ l hb
         clear hb al hg
         refine hK.out _ _ ⟨(zB l.out 0).trans rfl,(zB l.out 1).trans rfl,(zB l.out 2).trans rfl⟩ (fun c=>?_)
         clear hK K
         refine nP ?_
         exact zAe (by simp only [zy,Act.put,List.setIfInBounds_toArray,List.set_cons_zero,List.set_cons_succ]) (a8 (x) _ ⟨c,(rS d.out),(bX m.out),(bX q.out),(bX l.out),(bX ap.out),bi.out,bj.out,au.out,av.out,af.out,an.out,ae.out,aq.out,bA⟩)
        ·skip
         refine zAK ?hg (N:=15) ?hd (cs:=#[.int .i64 0,.int .i64 0]) (t:=24) ?hr ?_;(case hd=>rfl);(case hg=>rfl);(case hr=>first|(go_simp;done)|(go_simp;rfl))
         intro x hg w72 al hb
         replace d:=rB d hb
         have ap:=qK (al)
         have bi:=qK (gS hg:w.heap.size≤x)
         have bj:=qK (gS hg:w.heap.size≤x)
         replace HB:=hQ hb
         have au:=qK (nL hg m.out:aa≠x)
         have av:=qK (nG hg m.out:x≠aa)
         replace m:=bQ m hb
         have af:=qK (nL hg q.out:ab≠x)
         have an:=qK (nG hg q.out:x≠ab)
         replace q:=bQ q hb
         have ae:=qK (nL hg l.out:u≠x)
         have aq:=qK (nG hg l.out:x≠u)
         replace l:=bQ l hb
         clear hb al hg
         refine hK.out _ _ ⟨(zB l.out 0).trans rfl,(zB l.out 1).trans rfl,(zB l.out 2).trans rfl⟩ (fun c=>?_)
         clear hK K
         refine nP ?_
         refine oP 4 (some 91) HT_ (fun K hK=>?_)
         refine gO Try.func53 #[.agg #[.int .i64 a9,.int .i64 ba],.agg #[.int .i64 ac,.int .i64 ad]] ?_
         with_reducible refine (zh.calls a9 ba ac ad bv bw true _ A67.out).mono ?_
         rintro e w73 ⟨rfl,hb⟩
         refine ⟨_,rfl,?_⟩
         replace d:=rB d hb
         replace m:=bQ m hb
         replace q:=bQ q hb
         replace l:=bQ l hb
         replace ap:=bQ ap hb
         replace HB:=hQ hb
         (try clear hb)
         (try clear hb2)
         (try clear hk)
         (try clear hi)
         refine hK.out _ _ ⟨(zB l.out 0).trans rfl,(zB l.out 1).trans rfl,(zB l.out 2).trans rfl⟩ (fun c=>?_)
         clear hK K
         refine nP ?_
         refine pP 5 (some 86) HT_ ?_
         refine pP 6 (some 92) HT_ ?_
         refine pP 7 (some 93) HT_ ?_
         exact zAe (by simp only [zy,Act.put,List.setIfInBounds_toArray,List.set_cons_zero,List.set_cons_succ]) (a8 (x) _ ⟨c,(rS d.out),(bX m.out),(bX q.out),(bX l.out),(bX ap.out),bi.out,bj.out,au.out,av.out,af.out,an.out,ae.out,aq.out,bA⟩)
       ·skip
        refine zAK ?hg (N:=15) ?hd (cs:=#[.int .i64 0,.int .i64 0]) (t:=24) ?hr ?_;(case hd=>rfl);(case hg=>rfl);(case hr=>first|(go_simp;done)|(go_simp;rfl))
        intro x hg w71 al hb
        replace d:=rB d hb
        have ap:=qK (al)
        have bi:=qK (gS hg:w.heap.size≤x)
        have bj:=qK (gS hg:w.heap.size≤x)
        replace HB:=hQ hb
        have au:=qK (nL hg m.out:aa≠x)
        have av:=qK (nG hg m.out:x≠aa)
        replace m:=bQ m hb
        have af:=qK (nL hg q.out:ab≠x)
        have an:=qK (nG hg q.out:x≠ab)
        replace q:=bQ q hb
        have ae:=qK (nL hg l.out:u≠x)
        have aq:=qK (nG hg l.out:x≠u)
        replace l:=bQ l hb
        clear hb al hg
        refine hK.out _ _ ⟨(zB l.out 0).trans rfl,(zB l.out 1).trans rfl,(zB l.out 2).trans rfl⟩ (fun c=>?_)
        clear hK K
        refine nP ?_
        refine oP 1 (some 88) HT_ (fun K hK=>?_)
        refine gO Try.func54 #[.agg #[.slice bx b.length bz,.int .i64 ac,.int .i64 ad]] ?_
        with_reducible refine (zAA.calls k2 _ _ b ac ad a9 ba _ ?side1 ?side2 A66.out).mono ?_
        (case side1=>exact cR (Kd.zJ d.out).2.2)
        (case side2=>exact (Kd.zJ d.out).2.1)
        rintro e w72 ⟨rfl,hb⟩
        refine ⟨_,rfl,?_⟩
        replace d:=rB d hb
        replace m:=bQ m hb
        replace q:=bQ q hb
        replace l:=bQ l hb
        replace ap:=bQ ap hb
        replace HB:=hQ hb
        (try clear hb)
        (try clear hb2)
        (try clear hk)
        (try clear hi)
        refine hK.out _ _ ⟨(zB l.out 0).trans rfl,(zB l.out 1).trans rfl,(zB l.out 2).trans rfl⟩ (fun c=>?_)
        clear hK K
        refine nP ?_
        refine oP 4 (some 91) HT_ (fun K hK=>?_)
        refine gO Try.func53 #[.agg #[.int .i64 a9,.int .i64 ba],.agg #[.int .i64 ac,.int .i64 ad]] ?_
        with_reducible refine (zh.calls a9 ba ac ad bv bw true _ A67.out).mono ?_
        rintro e w73 ⟨rfl,hb⟩
        refine ⟨_,rfl,?_⟩
        replace d:=rB d hb
        replace m:=bQ m hb
        replace q:=bQ q hb
        replace l:=bQ l hb
        replace ap:=bQ ap hb
        replace HB:=hQ hb
        (try clear hb)
        (try clear hb2)
        (try clear hk)
        (try clear hi)
        refine hK.out _ _ ⟨(zB l.out 0).trans rfl,(zB l.out 1).trans rfl,(zB l.out 2).trans rfl⟩ (fun c=>?_)
        clear hK K
        refine nP ?_
        refine pP 5 (some 86) HT_ ?_
        refine pP 6 (some 92) HT_ ?_
        refine pP 7 (some 93) HT_ ?_
        exact zAe (by simp only [zy,Act.put,List.setIfInBounds_toArray,List.set_cons_zero,List.set_cons_succ]) (a8 (x) _ ⟨c,(rS d.out),(bX m.out),(bX q.out),(bX l.out),(bX ap.out),bi.out,bj.out,au.out,av.out,af.out,an.out,ae.out,aq.out,bA⟩)
      rintro x w74 ⟨hS_,h0_,h1_,h2_,h3_,h4_,h5_,h6_,h7_,h8_,h9_,h10_,h11_,h12_,h13_⟩
      have n0_:zA (Kd.R k50 50 w74 w.heap.size (fun _=>True) (.slice bx b.length bz) b):=⟨h0_⟩
      have n1_:zA (w74.heap[aa]? = some (.cells #[.slice a5 ar.length a6,.int .i64 ac,.int .i64 ad] 26 (0,0))):=⟨h1_⟩
      have n2_:zA (w74.heap[ab]? = some (.cells #[.slice none 0 0,.int .i64 am,.int .i64 ai] 26 (0,0))):=⟨h2_⟩
      have n3_:zA (w74.heap[u]? = some (.cells #[.slice bx b.length bz,.int .i64 ac,.int .i64 ad] 26 (0,0))):=⟨h3_⟩
      have n4_:zA (w74.heap[x]? = some (.cells #[.int .i64 0,.int .i64 0] 24 (0,0))):=⟨h4_⟩
      have n5_:zA (w.heap.size≤x):=⟨h5_⟩
      have n6_:zA (w.heap.size≤x):=⟨h6_⟩
      have n7_:zA (aa≠x):=⟨h7_⟩
      have n8_:zA (x≠aa):=⟨h8_⟩
      have n9_:zA (ab≠x):=⟨h9_⟩
      have n10_:zA (x≠ab):=⟨h10_⟩
      have n11_:zA (u≠x):=⟨h11_⟩
      have n12_:zA (x≠u):=⟨h12_⟩
      have n13_:zA (Below w.heap.size w w74):=⟨h13_⟩
      clear d
      clear m
      clear q
      clear l
      clear HB
      clear h0_ h1_ h2_ h3_ h4_ h5_ h6_ h7_ h8_ h9_ h10_ h11_ h12_ h13_
      have d:=n0_
      have m:=n1_
      have q:=n2_
      have l:=n3_
      have ap:=n4_
      have bi:=n5_
      have bj:=n6_
      have au:=n7_
      have av:=n8_
      have af:=n9_
      have an:=n10_
      have ae:=n11_
      have aq:=n12_
      have HB:=n13_
      clear n0_ n1_ n2_ n3_ n4_ n5_ n6_ n7_ n8_ n9_ n10_ n11_ n12_ n13_
      have c:w74.cell? ⟨u,0,none⟩=some (.slice bx b.length bz)∧w74.cell? ⟨u,1,none⟩=some (.int .i64 ac)∧w74.cell? ⟨u,2,none⟩=some (.int .i64 ad):=hS_
      refine zAe (a':=?_) ?_ ?_
      rotate_left
      ·simp only [zy,Act.put,List.setIfInBounds_toArray,List.set_cons_zero,List.set_cons_succ]
       rfl
      refine oP 9 none HT_ (fun K hK=>?_)
      have jd:w74.cell? ⟨x,0,none⟩=some (.int .i64 0):=(zB ap.out 0).trans rfl
      have hv:=zW ap.out 0
      have fv:=au.out
      have fw:=af.out
      have fx:=ae.out
      have fy:=av.out
      have fz:=an.out
      have f3:=aq.out
      have je:w74.cell? ⟨x,1,none⟩=some (.int .i64 0):=(zB ap.out 1).trans rfl
      have hx:=zW ap.out 1
      have f4:=au.out
      have f5:=af.out
      have f6:=ae.out
      have f7:=av.out
      have f8:=an.out
      have f9:=aq.out
      refine zB0 (w1:=?_) (by rfl) rfl ?_ ?_
      rotate_left
      ·go_simp
       rfl
      refine hK.out _ _ ⟨((cell_far (p:=⟨x,_,none⟩) ae.out _).trans (((cell_far (p:=⟨x,_,none⟩) ae.out _).trans (c.1)))),((cell_far (p:=⟨x,_,none⟩) ae.out _).trans (((cell_far (p:=⟨x,_,none⟩) ae.out _).trans (c.2.1)))),((cell_far (p:=⟨x,_,none⟩) ae.out _).trans (((cell_far (p:=⟨x,_,none⟩) ae.out _).trans (c.2.2))))⟩ (fun c=>?_)
      clear hK K
      refine pP 10 (some 16) HT_ ?_
      refine zBZ (zA8 HT_.out (by kernel_rfl)) ?_
      have hy:=a7.out
      have hz:=ah.out
      have h0:=a4.out
      have h1:=az.out
      have h2:=ae.out
      have h3:=aq.out
      obtain ⟨_,_,_,_,_,_⟩:=xC3 l.out
      have h4:=bh.out
      have h5:=bg.out
      have h6:=af.out
      have h7:=an.out
      obtain ⟨_,_,_,_,_,_⟩:=xC3 q.out
      try go_wp2
      refine bodyPost_ret (zBd rfl _ _ ab 26 #[.slice bx b.length bz,.int .i64 ac,.int .i64 ad] (0,0) _ rfl (by (repeat with_reducible first|apply zD|apply zF|apply zC);refine zP (cs:=#[.slice bx b.length bz,.int .i64 ac,.int .i64 ai]) ?_ 2 _ rfl;(repeat with_reducible first|apply zD|apply zF|apply zC);refine zP (cs:=#[.slice bx b.length bz,.int .i64 am,.int .i64 ai]) ?_ 1 _ rfl;(repeat with_reducible first|apply zD|apply zF|apply zC);refine zP (cs:=#[.slice none 0 0,.int .i64 am,.int .i64 ai]) ?_ 0 _ rfl;(repeat with_reducible first|apply zD|apply zF|apply zC);refine zO ?_ af.out _;(repeat with_reducible first|apply zD|apply zF|apply zC);refine zO ?_ af.out _;(repeat with_reducible first|apply zD|apply zF|apply zC);exact q.out) Try.underlying26 rfl (by kernel_rfl)) rfl ?_
      exact ⟨_,eA,by (with_reducible repeat (first|apply Kd.zAp|apply Kd.zAn|apply Kd.zAv));exact Kd.zR (Kd.zM (p:=⟨ab,2,none⟩) (Kd.zM (p:=⟨ab,1,none⟩) (Kd.zM (p:=⟨ab,0,none⟩) (Kd.zM (p:=⟨x,1,none⟩) (Kd.zM (p:=⟨x,0,none⟩) (Kd.ze (Kd.ze d.out ap.out (by decide)) q.out (by decide)) (fun _ hk=>hk.1.2) (.int .i64 bv)) (fun _ hk=>hk.1.2) (.int .i64 bw)) (fun _ hk=>hk.2) (.slice bx b.length bz)) (fun _ hk=>hk.2) (.int .i64 ac)) (fun _ hk=>hk.2) (.int .i64 ad)) (fun _ hk=>trivial),bA⟩
     rw [if_pos c27] at H
     have et:decide (a < (l1.length:Int))=true:=decide_eq_true c27
     clear c27
     by_cases c28:0≤a
     rotate_left
     ·rw [if_neg c28] at H
      exact absurd H (by simp)
     rw [if_pos c28] at H
     have h8:decide (0≤a)=true:=decide_eq_true c28
     clear c28
     by_cases c29:a < (l1.length:Int)
     rotate_left
     ·rw [if_neg c29] at H
      exact absurd H (by simp)
     rw [if_pos c29] at H
     have h9:decide (a < (l1.length:Int))=true:=decide_eq_true c29
     clear c29
     by_cases c30:0≤(rd l1 a)
     rotate_left
     ·rw [if_neg c30] at H
      exact absurd H (by simp)
     rw [if_pos c30] at H
     have ia:decide (0≤(rd l1 a))=true:=decide_eq_true c30
     clear c30
     by_cases c31:(rd l1 a) < (b.length:Int)
     rotate_left
     ·rw [if_neg c31] at H
      exact absurd H (by simp)
     rw [if_pos c31] at H
     have ib:decide ((rd l1 a) < (b.length:Int))=true:=decide_eq_true c31
     clear c31
     by_cases c32:a < (l2.length:Int)
     rotate_left
     ·rw [if_neg c32] at H
      exact absurd H (by simp)
     rw [if_pos c32] at H
     have ic:decide (a < (l2.length:Int))=true:=decide_eq_true c32
     clear c32
     replace H:=Option.bind_eq_some_iff.mp H
     obtain ⟨⟨a2,a3,eg⟩,A330,H⟩:=H
     replace H:(if eg=true then (zN.l0 k2 l2 l1 (l1.length:Int) (wrap64 (a+1)) (b.set ((rd l1 a):Int).toNat (⟨(⟨a2,a3⟩:S24),(zG b (rd l1 a)).f1,(zG b (rd l1 a)).f2⟩:S50)) ac ad) else (some (([]:List (S50)),0,0,4)))=some (r1,r2,r3,r4):=H
     have A33:=zA.mk A330
     clear A330
     by_cases c34:eg=true
     rotate_left
     ·replace c34:=Bool.eq_false_iff.mpr c34
      subst c34
      have H1:(some (([]:List (S50)),0,0,4))=some (r1,r2,r3,r4):=by rw [if_neg (show ¬ (false=true) by decide)] at H;exact H
      clear H
      have H:=H1
      clear H1
      simp only [Option.some.injEq,Prod.mk.injEq] at H
      obtain ⟨rfl,rfl,rfl,rfl⟩:=H
      have cl:0≤(a:Int):=dA
      have cm:a < (l1.length:Int):=dA
      obtain ⟨ev,e199,cg⟩:=Kd.zAh HR1.out a cl cm
      cases e199
      replace cg:=hC HB.out cg
      replace cl:=eq_true cl
      replace cm:=eq_true cm
      have ie:=a7.out
      have ig:=ah.out
      have ih:=a4.out
      have ii:=az.out
      obtain ⟨_,_,_,_,_,_⟩:=xC3 l.out
      obtain ⟨jf,dt,e5⟩:=Kd.zq d.out
      subst e5
      have cn:0≤((rd l1 a):Int):=dA
      have co:(rd l1 a) < (b.length:Int):=dA
      obtain ⟨r,e200,dj,dk,dl,dm⟩:=zA9 (Kd.zJ d.out).2.2 (rd l1 a) cn co
      cases e200
      replace cn:=eq_true cn
      replace co:=eq_true co
      try go_wp2
      replace d:=qK (Kd.zAv d.out)
      replace m:=qK (zF m.out)
      replace q:=qK (zF q.out)
      replace l:=qK (zF l.out)
      replace HB:=qK (zx HB.out)
      have cp:0≤((rd l1 a):Int):=dA
      have cq:(rd l1 a) < (b.length:Int):=dA
      obtain ⟨du,e201,b3,b4,b5,b6⟩:=zA9 (Kd.zJ d.out).2.2 (rd l1 a) cp cq
      obtain rfl:r=du:=(by injection e201)
      replace cp:=eq_true cp
      replace cq:=eq_true cq
      have cr:0≤(a:Int):=dA
      have ct:a < (l2.length:Int):=dA
      obtain ⟨bb,e202,bk⟩:=Kd.zAh HR2.out a cr ct
      have aj:=bk
      cases e202
      replace bk:=hC HB.out bk
      replace cr:=eq_true cr
      replace ct:=eq_true ct
      have cu:0≤((rd l1 a):Int):=dA
      have cv:(rd l1 a) < (b.length:Int):=dA
      obtain ⟨dv,e203,b7,b8,b9,ca⟩:=zA9 (Kd.zJ d.out).2.2 (rd l1 a) cu cv
      obtain rfl:r=dv:=(by injection e203)
      replace cu:=eq_true cu
      replace cv:=eq_true cv
      have cw:0≤(a:Int):=dA
      have cx:a < (l2.length:Int):=dA
      obtain ⟨dw,e204,bl⟩:=Kd.zAh HR2.out a cw cx
      have ak:=bl
      obtain rfl:bb=dw:=(by injection e204)
      replace bl:=hC HB.out bl
      replace cw:=eq_true cw
      replace cx:=eq_true cx
      have cy:0≤((rd l1 a):Int):=dA
      have cz:(rd l1 a) < (b.length:Int):=dA
      obtain ⟨dx,e205,cb,cc,cd,ce⟩:=zA9 (Kd.zJ d.out).2.2 (rd l1 a) cy cz
      obtain rfl:r=dx:=(by injection e205)
      replace cy:=eq_true cy
      replace cz:=eq_true cz
      refine zBH (n:=30) (S:=fun w'=>w'.cell? (r.add (((rd l1 a)).toNat*4))=some (.int .i64 ((zG b (rd l1 a)).f0.f0))∧w'.cell? ⟨(r.add (((rd l1 a)).toNat*4)).block,(r.add (((rd l1 a)).toNat*4)).off+1,none⟩=some (.int .i64 ((zG b (rd l1 a)).f0.f1))∧w'.cell? ⟨(r.add (((rd l1 a)).toNat*4)).block,(r.add (((rd l1 a)).toNat*4)).off+2,none⟩=some (.int .i64 ((zG b (rd l1 a)).f1))∧w'.cell? ⟨(r.add (((rd l1 a)).toNat*4)).block,(r.add (((rd l1 a)).toNat*4)).off+3,none⟩=some (.int .i64 ((zG b (rd l1 a)).f2))∧w'.cell? (bb.add (a).toNat)=some (.int .i64 (rd l2 a))∧w'.cell? (r.add (((rd l1 a)).toNat*4))=some (.int .i64 ((zG b (rd l1 a)).f0.f0))∧w'.cell? ⟨(r.add (((rd l1 a)).toNat*4)).block,(r.add (((rd l1 a)).toNat*4)).off+1,none⟩=some (.int .i64 ((zG b (rd l1 a)).f0.f1))∧w'.cell? ⟨(r.add (((rd l1 a)).toNat*4)).block,(r.add (((rd l1 a)).toNat*4)).off+2,none⟩=some (.int .i64 ((zG b (rd l1 a)).f1))∧w'.cell? ⟨(r.add (((rd l1 a)).toNat*4)).block,(r.add (((rd l1 a)).toNat*4)).off+3,none⟩=some (.int .i64 ((zG b (rd l1 a)).f2))∧w'.cell? (bb.add (a).toNat)=some (.int .i64 (rd l2 a))∧w'.cell? (r.add (((rd l1 a)).toNat*4))=some (.int .i64 ((zG b (rd l1 a)).f0.f0))∧w'.cell? ⟨(r.add (((rd l1 a)).toNat*4)).block,(r.add (((rd l1 a)).toNat*4)).off+1,none⟩=some (.int .i64 ((zG b (rd l1 a)).f0.f1))∧w'.cell? ⟨(r.add (((rd l1 a)).toNat*4)).block,(r.add (((rd l1 a)).toNat*4)).off+2,none⟩=some (.int .i64 ((zG b (rd l1 a)).f1))∧w'.cell? ⟨(r.add (((rd l1 a)).toNat*4)).block,(r.add (((rd l1 a)).toNat*4)).off+3,none⟩=some (.int .i64 ((zG b (rd l1 a)).f2))) (ds:=[]) #[false,false,false,false,false,false,false,false,false,false,false,false,false,false,false,false,false,false,false,false,false,false,false,false,false,false,false,false,false,false] (by kernel_rfl) rfl rfl ⟨b3,b4,b5,b6,(hC HB.out aj),b7,b8,b9,ca,(hC HB.out ak),cb,cc,cd,ce⟩ (fun c=>?_);refine zAj zN.tab11 zN.bits11 (fun HT_ HW_=>?_)
      generalize wr.drew=w57 at d m q l HB b3 b4 b5 b6 bk b7 b8 b9 ca bl cb cc cd ce c ⊢
      refine pP 0 (some 52) HT_ ?_
      refine pP 1 (some 53) HT_ ?_
      refine pP 2 (some 54) HT_ ?_
      refine pP 4 (some 56) HT_ ?_
      refine pP 5 (some 57) HT_ ?_
      refine pP 6 (some 58) HT_ ?_
      refine pP 8 (some 60) HT_ ?_
      refine pP 9 (some 61) HT_ ?_
      refine pP 10 (some 62) HT_ ?_
      refine pP 13 (some 65) HT_ ?_
      refine pP 14 (some 66) HT_ ?_
      refine pP 15 (some 67) HT_ ?_
      refine pP 17 (some 69) HT_ ?_
      refine pP 18 (some 70) HT_ ?_
      refine pP 19 (some 71) HT_ ?_
      refine tP 3 (some 55) HT_ HW_ c ?_
      refine tP 7 (some 59) HT_ HW_ c ?_
      refine tP 11 (some 63) HT_ HW_ c ?_
      refine pP 12 (some 64) HT_ ?_
      refine tP 16 (some 68) HT_ HW_ c ?_
      refine tP 20 (some 72) HT_ HW_ c ?_
      refine pP 21 (some 73) HT_ ?_
      refine pP 22 (some 74) HT_ ?_
      refine zBz (σ:=Nat) 2 #[true,true,true,true,true,true,true,true,true,true,true,true,true,true,true,true,true,true,true,true,true,true,true,true,true,true,true,true,false,false] (fun s_=>[(75,.tuple #[.agg #[.int .i64 a2,.int .i64 a3],.bool false]),(13,.pointer (some ⟨s_,0,none⟩)),(51,.tuple #[.agg #[.int .i64 a2,.int .i64 a3],.bool false]),(76,.agg #[.int .i64 a2,.int .i64 a3]),(77,.bool false)]) (fun s_ w'=>(w'.cell? (r.add (((rd l1 a)).toNat*4))=some (.int .i64 ((zG b (rd l1 a)).f0.f0))∧w'.cell? ⟨(r.add (((rd l1 a)).toNat*4)).block,(r.add (((rd l1 a)).toNat*4)).off+1,none⟩=some (.int .i64 ((zG b (rd l1 a)).f0.f1))∧w'.cell? ⟨(r.add (((rd l1 a)).toNat*4)).block,(r.add (((rd l1 a)).toNat*4)).off+2,none⟩=some (.int .i64 ((zG b (rd l1 a)).f1))∧w'.cell? ⟨(r.add (((rd l1 a)).toNat*4)).block,(r.add (((rd l1 a)).toNat*4)).off+3,none⟩=some (.int .i64 ((zG b (rd l1 a)).f2))∧w'.cell? (bb.add (a).toNat)=some (.int .i64 (rd l2 a))∧w'.cell? (r.add (((rd l1 a)).toNat*4))=some (.int .i64 ((zG b (rd l1 a)).f0.f0))∧w'.cell? ⟨(r.add (((rd l1 a)).toNat*4)).block,(r.add (((rd l1 a)).toNat*4)).off+1,none⟩=some (.int .i64 ((zG b (rd l1 a)).f0.f1))∧w'.cell? ⟨(r.add (((rd l1 a)).toNat*4)).block,(r.add (((rd l1 a)).toNat*4)).off+2,none⟩=some (.int .i64 ((zG b (rd l1 a)).f1))∧w'.cell? ⟨(r.add (((rd l1 a)).toNat*4)).block,(r.add (((rd l1 a)).toNat*4)).off+3,none⟩=some (.int .i64 ((zG b (rd l1 a)).f2))∧w'.cell? (bb.add (a).toNat)=some (.int .i64 (rd l2 a))∧w'.cell? (r.add (((rd l1 a)).toNat*4))=some (.int .i64 ((zG b (rd l1 a)).f0.f0))∧w'.cell? ⟨(r.add (((rd l1 a)).toNat*4)).block,(r.add (((rd l1 a)).toNat*4)).off+1,none⟩=some (.int .i64 ((zG b (rd l1 a)).f0.f1))∧w'.cell? ⟨(r.add (((rd l1 a)).toNat*4)).block,(r.add (((rd l1 a)).toNat*4)).off+2,none⟩=some (.int .i64 ((zG b (rd l1 a)).f1))∧w'.cell? ⟨(r.add (((rd l1 a)).toNat*4)).block,(r.add (((rd l1 a)).toNat*4)).off+3,none⟩=some (.int .i64 ((zG b (rd l1 a)).f2)))∧(Kd.R k50 50 w' w.heap.size (fun _=>True) (.slice (some r) b.length dt) b)∧(w'.heap[aa]? = some (.cells #[.slice a5 ar.length a6,.int .i64 ac,.int .i64 ad] 26 (0,0)))∧(w'.heap[ab]? = some (.cells #[.slice none 0 0,.int .i64 am,.int .i64 ai] 26 (0,0)))∧(w'.heap[u]? = some (.cells #[.slice (some r) b.length dt,.int .i64 ac,.int .i64 ad] 26 (0,0)))∧(w'.heap[s_]? = some (.cells #[.int .i64 0,.int .i64 0] 24 (0,0)))∧(w.heap.size≤s_)∧(w.heap.size≤s_)∧(aa≠s_)∧(s_≠aa)∧(ab≠s_)∧(s_≠ab)∧(u≠s_)∧(s_≠u)∧(Below w.heap.size w w')) ?_ ?_
      rotate_left
      ·intro a8
       refine zB6 (i:=23) (j:=27) (Ni:=some 75) (Nj:=some 13) #[true,true,true,true,true,true,true,true,true,true,true,true,true,true,true,true,true,true,true,true,true,true,true,true,false,false,false,false,false,false] #[true,true,true,true,true,true,true,true,true,true,true,true,true,true,true,true,true,true,true,true,true,true,true,false,false,false,false,true,false,false] rfl rfl rfl rfl (zBG HT_.out (by kernel_rfl)) (by decide) (by decide) (fun K hK=>?_) (fun K hK=>?_)
       ·skip
        refine gO Try.func53 #[.agg #[.int .i64 ((zG b (rd l1 a)).f0.f0),.int .i64 ((zG b (rd l1 a)).f0.f1)],.agg #[.int .i64 (wrap64 ((rd l2 a) - ((zG b (rd l1 a)).f2))),.int .i64 (wrap64 ((rd l2 a)+((zG b (rd l1 a)).f2)))]] ?_
        with_reducible refine (zh.calls ((zG b (rd l1 a)).f0.f0) ((zG b (rd l1 a)).f0.f1) (wrap64 ((rd l2 a) - ((zG b (rd l1 a)).f2))) (wrap64 ((rd l2 a)+((zG b (rd l1 a)).f2))) a2 a3 false _ A33.out).mono ?_
        rintro e w58 ⟨rfl,hb⟩
        have bm:=(hb.cell (World.block_lt_of_cell? _ _ (c.1))).trans (c.1)
        have bn:=(hb.cell (World.block_lt_of_cell? _ _ (c.2.1))).trans (c.2.1)
        have bo:=(hb.cell (World.block_lt_of_cell? _ _ (c.2.2.1))).trans (c.2.2.1)
        have bp:=(hb.cell (World.block_lt_of_cell? _ _ (c.2.2.2.1))).trans (c.2.2.2.1)
        have bq:=(hb.cell (World.block_lt_of_cell? _ _ (c.2.2.2.2.2.1))).trans (c.2.2.2.2.2.1)
        have br:=(hb.cell (World.block_lt_of_cell? _ _ (c.2.2.2.2.2.2.1))).trans (c.2.2.2.2.2.2.1)
        have bs:=(hb.cell (World.block_lt_of_cell? _ _ (c.2.2.2.2.2.2.2.1))).trans (c.2.2.2.2.2.2.2.1)
        have bt:=(hb.cell (World.block_lt_of_cell? _ _ (c.2.2.2.2.2.2.2.2.1))).trans (c.2.2.2.2.2.2.2.2.1)
        have bc:=(hb.cell (World.block_lt_of_cell? _ _ (c.2.2.2.2.2.2.2.2.2.2.1))).trans (c.2.2.2.2.2.2.2.2.2.2.1)
        have bd:=(hb.cell (World.block_lt_of_cell? _ _ (c.2.2.2.2.2.2.2.2.2.2.2.1))).trans (c.2.2.2.2.2.2.2.2.2.2.2.1)
        have be:=(hb.cell (World.block_lt_of_cell? _ _ (c.2.2.2.2.2.2.2.2.2.2.2.2.1))).trans (c.2.2.2.2.2.2.2.2.2.2.2.2.1)
        have bf:=(hb.cell (World.block_lt_of_cell? _ _ (c.2.2.2.2.2.2.2.2.2.2.2.2.2))).trans (c.2.2.2.2.2.2.2.2.2.2.2.2.2)
        refine ⟨_,rfl,?_⟩
        replace d:=rB d hb
        replace m:=bQ m hb
        replace q:=bQ q hb
        replace l:=bQ l hb
        replace HB:=hQ hb
        (try clear hb)
        (try clear hb2)
        (try clear hk)
        (try clear hi)
        refine hK.out _ _ ⟨bm,bn,bo,bp,(hC HB.out aj),bq,br,bs,bt,(hC HB.out ak),bc,bd,be,bf⟩ (fun c=>?_)
        clear hK K
        refine nP ?_
        refine pP 24 (some 51) HT_ ?_
        refine pP 25 (some 76) HT_ ?_
        refine pP 26 (some 77) HT_ ?_
        refine oP 27 (some 13) HT_ (fun K hK=>?_)
        refine zAK ?hg (N:=13) ?hd (cs:=#[.int .i64 0,.int .i64 0]) (t:=24) ?hr ?_;(case hd=>rfl);(case hg=>rfl);(case hr=>first|(go_simp;done)|(go_simp;rfl))
        intro s hg w59 al hb
        have bm:=(hb.cell (World.block_lt_of_cell? _ _ (c.1))).trans (c.1)
        have bn:=(hb.cell (World.block_lt_of_cell? _ _ (c.2.1))).trans (c.2.1)
        have bo:=(hb.cell (World.block_lt_of_cell? _ _ (c.2.2.1))).trans (c.2.2.1)
        have bp:=(hb.cell (World.block_lt_of_cell? _ _ (c.2.2.2.1))).trans (c.2.2.2.1)
        have bq:=(hb.cell (World.block_lt_of_cell? _ _ (c.2.2.2.2.2.1))).trans (c.2.2.2.2.2.1)
        have br:=(hb.cell (World.block_lt_of_cell? _ _ (c.2.2.2.2.2.2.1))).trans (c.2.2.2.2.2.2.1)
        have bs:=(hb.cell (World.block_lt_of_cell? _ _ (c.2.2.2.2.2.2.2.1))).trans (c.2.2.2.2.2.2.2.1)
        have bt:=(hb.cell (World.block_lt_of_cell? _ _ (c.2.2.2.2.2.2.2.2.1))).trans (c.2.2.2.2.2.2.2.2.1)
        have bc:=(hb.cell (World.block_lt_of_cell? _ _ (c.2.2.2.2.2.2.2.2.2.2.1))).trans (c.2.2.2.2.2.2.2.2.2.2.1)
        have bd:=(hb.cell (World.block_lt_of_cell? _ _ (c.2.2.2.2.2.2.2.2.2.2.2.1))).trans (c.2.2.2.2.2.2.2.2.2.2.2.1)
        have be:=(hb.cell (World.block_lt_of_cell? _ _ (c.2.2.2.2.2.2.2.2.2.2.2.2.1))).trans (c.2.2.2.2.2.2.2.2.2.2.2.2.1)
        have bf:=(hb.cell (World.block_lt_of_cell? _ _ (c.2.2.2.2.2.2.2.2.2.2.2.2.2))).trans (c.2.2.2.2.2.2.2.2.2.2.2.2.2)
        replace d:=rB d hb
        have y:=qK (al)
        have ag:=qK (gS hg:w.heap.size≤s)
        have b2:=qK (gS hg:w.heap.size≤s)
        replace HB:=hQ hb
        have aw:=qK (nL hg m.out:aa≠s)
        have a0:=qK (nG hg m.out:s≠aa)
        replace m:=bQ m hb
        have ao:=qK (nL hg q.out:ab≠s)
        have ay:=qK (nG hg q.out:s≠ab)
        replace q:=bQ q hb
        have ax:=qK (nL hg l.out:u≠s)
        have a1:=qK (nG hg l.out:s≠u)
        replace l:=bQ l hb
        clear hb al hg
        refine hK.out _ _ ⟨bm,bn,bo,bp,(hC HB.out aj),bq,br,bs,bt,(hC HB.out ak),bc,bd,be,bf⟩ (fun c=>?_)
        clear hK K
        refine nP ?_
        exact zAe (by simp only [zy,Act.put,List.setIfInBounds_toArray,List.set_cons_zero,List.set_cons_succ]) (a8 (s) _ ⟨c,(rS d.out),(bX m.out),(bX q.out),(bX l.out),(bX y.out),ag.out,b2.out,aw.out,a0.out,ao.out,ay.out,ax.out,a1.out,bA⟩)
       ·skip
        refine zAK ?hg (N:=13) ?hd (cs:=#[.int .i64 0,.int .i64 0]) (t:=24) ?hr ?_;(case hd=>rfl);(case hg=>rfl);(case hr=>first|(go_simp;done)|(go_simp;rfl))
        intro s hg w58 al hb
        have bm:=(hb.cell (World.block_lt_of_cell? _ _ (c.1))).trans (c.1)
        have bn:=(hb.cell (World.block_lt_of_cell? _ _ (c.2.1))).trans (c.2.1)
        have bo:=(hb.cell (World.block_lt_of_cell? _ _ (c.2.2.1))).trans (c.2.2.1)
        have bp:=(hb.cell (World.block_lt_of_cell? _ _ (c.2.2.2.1))).trans (c.2.2.2.1)
        have bq:=(hb.cell (World.block_lt_of_cell? _ _ (c.2.2.2.2.2.1))).trans (c.2.2.2.2.2.1)
        have br:=(hb.cell (World.block_lt_of_cell? _ _ (c.2.2.2.2.2.2.1))).trans (c.2.2.2.2.2.2.1)
        have bs:=(hb.cell (World.block_lt_of_cell? _ _ (c.2.2.2.2.2.2.2.1))).trans (c.2.2.2.2.2.2.2.1)
        have bt:=(hb.cell (World.block_lt_of_cell? _ _ (c.2.2.2.2.2.2.2.2.1))).trans (c.2.2.2.2.2.2.2.2.1)
        have bc:=(hb.cell (World.block_lt_of_cell? _ _ (c.2.2.2.2.2.2.2.2.2.2.1))).trans (c.2.2.2.2.2.2.2.2.2.2.1)
        have bd:=(hb.cell (World.block_lt_of_cell? _ _ (c.2.2.2.2.2.2.2.2.2.2.2.1))).trans (c.2.2.2.2.2.2.2.2.2.2.2.1)
        have be:=(hb.cell (World.block_lt_of_cell? _ _ (c.2.2.2.2.2.2.2.2.2.2.2.2.1))).trans (c.2.2.2.2.2.2.2.2.2.2.2.2.1)
        have bf:=(hb.cell (World.block_lt_of_cell? _ _ (c.2.2.2.2.2.2.2.2.2.2.2.2.2))).trans (c.2.2.2.2.2.2.2.2.2.2.2.2.2)
        replace d:=rB d hb
        have y:=qK (al)
        have ag:=qK (gS hg:w.heap.size≤s)
        have b2:=qK (gS hg:w.heap.size≤s)
        replace HB:=hQ hb
        have aw:=qK (nL hg m.out:aa≠s)
        have a0:=qK (nG hg m.out:s≠aa)
        replace m:=bQ m hb
        have ao:=qK (nL hg q.out:ab≠s)
        have ay:=qK (nG hg q.out:s≠ab)
        replace q:=bQ q hb
        have ax:=qK (nL hg l.out:u≠s)
        have a1:=qK (nG hg l.out:s≠u)
        replace l:=bQ l hb
        clear hb al hg
        refine hK.out _ _ ⟨bm,bn,bo,bp,(hC HB.out aj),bq,br,bs,bt,(hC HB.out ak),bc,bd,be,bf⟩ (fun c=>?_)
        clear hK K
        refine nP ?_
        refine oP 23 (some 75) HT_ (fun K hK=>?_)
        refine gO Try.func53 #[.agg #[.int .i64 ((zG b (rd l1 a)).f0.f0),.int .i64 ((zG b (rd l1 a)).f0.f1)],.agg #[.int .i64 (wrap64 ((rd l2 a) - ((zG b (rd l1 a)).f2))),.int .i64 (wrap64 ((rd l2 a)+((zG b (rd l1 a)).f2)))]] ?_
        with_reducible refine (zh.calls ((zG b (rd l1 a)).f0.f0) ((zG b (rd l1 a)).f0.f1) (wrap64 ((rd l2 a) - ((zG b (rd l1 a)).f2))) (wrap64 ((rd l2 a)+((zG b (rd l1 a)).f2))) a2 a3 false _ A33.out).mono ?_
        rintro e w59 ⟨rfl,hb⟩
        have bm:=(hb.cell (World.block_lt_of_cell? _ _ (c.1))).trans (c.1)
        have bn:=(hb.cell (World.block_lt_of_cell? _ _ (c.2.1))).trans (c.2.1)
        have bo:=(hb.cell (World.block_lt_of_cell? _ _ (c.2.2.1))).trans (c.2.2.1)
        have bp:=(hb.cell (World.block_lt_of_cell? _ _ (c.2.2.2.1))).trans (c.2.2.2.1)
        have bq:=(hb.cell (World.block_lt_of_cell? _ _ (c.2.2.2.2.2.1))).trans (c.2.2.2.2.2.1)
        have br:=(hb.cell (World.block_lt_of_cell? _ _ (c.2.2.2.2.2.2.1))).trans (c.2.2.2.2.2.2.1)
        have bs:=(hb.cell (World.block_lt_of_cell? _ _ (c.2.2.2.2.2.2.2.1))).trans (c.2.2.2.2.2.2.2.1)
        have bt:=(hb.cell (World.block_lt_of_cell? _ _ (c.2.2.2.2.2.2.2.2.1))).trans (c.2.2.2.2.2.2.2.2.1)
        have bc:=(hb.cell (World.block_lt_of_cell? _ _ (c.2.2.2.2.2.2.2.2.2.2.1))).trans (c.2.2.2.2.2.2.2.2.2.2.1)
        have bd:=(hb.cell (World.block_lt_of_cell? _ _ (c.2.2.2.2.2.2.2.2.2.2.2.1))).trans (c.2.2.2.2.2.2.2.2.2.2.2.1)
        have be:=(hb.cell (World.block_lt_of_cell? _ _ (c.2.2.2.2.2.2.2.2.2.2.2.2.1))).trans (c.2.2.2.2.2.2.2.2.2.2.2.2.1)
        have bf:=(hb.cell (World.block_lt_of_cell? _ _ (c.2.2.2.2.2.2.2.2.2.2.2.2.2))).trans (c.2.2.2.2.2.2.2.2.2.2.2.2.2)
        refine ⟨_,rfl,?_⟩
        replace d:=rB d hb
        replace m:=bQ m hb
        replace q:=bQ q hb
        replace l:=bQ l hb
        replace y:=bQ y hb
        replace HB:=hQ hb
        (try clear hb)
        (try clear hb2)
        (try clear hk)
        (try clear hi)
        refine hK.out _ _ ⟨bm,bn,bo,bp,(hC HB.out aj),bq,br,bs,bt,(hC HB.out ak),bc,bd,be,bf⟩ (fun c=>?_)
        clear hK K
        refine nP ?_
        refine pP 24 (some 51) HT_ ?_
        refine pP 25 (some 76) HT_ ?_
        refine pP 26 (some 77) HT_ ?_
        exact zAe (by simp only [zy,Act.put,List.setIfInBounds_toArray,List.set_cons_zero,List.set_cons_succ]) (a8 (s) _ ⟨c,(rS d.out),(bX m.out),(bX q.out),(bX l.out),(bX y.out),ag.out,b2.out,aw.out,a0.out,ao.out,ay.out,ax.out,a1.out,bA⟩)
      rintro s w60 ⟨hS_,h0_,h1_,h2_,h3_,h4_,h5_,h6_,h7_,h8_,h9_,h10_,h11_,h12_,h13_⟩
      have n0_:zA (Kd.R k50 50 w60 w.heap.size (fun _=>True) (.slice (some r) b.length dt) b):=⟨h0_⟩
      have n1_:zA (w60.heap[aa]? = some (.cells #[.slice a5 ar.length a6,.int .i64 ac,.int .i64 ad] 26 (0,0))):=⟨h1_⟩
      have n2_:zA (w60.heap[ab]? = some (.cells #[.slice none 0 0,.int .i64 am,.int .i64 ai] 26 (0,0))):=⟨h2_⟩
      have n3_:zA (w60.heap[u]? = some (.cells #[.slice (some r) b.length dt,.int .i64 ac,.int .i64 ad] 26 (0,0))):=⟨h3_⟩
      have n4_:zA (w60.heap[s]? = some (.cells #[.int .i64 0,.int .i64 0] 24 (0,0))):=⟨h4_⟩
      have n5_:zA (w.heap.size≤s):=⟨h5_⟩
      have n6_:zA (w.heap.size≤s):=⟨h6_⟩
      have n7_:zA (aa≠s):=⟨h7_⟩
      have n8_:zA (s≠aa):=⟨h8_⟩
      have n9_:zA (ab≠s):=⟨h9_⟩
      have n10_:zA (s≠ab):=⟨h10_⟩
      have n11_:zA (u≠s):=⟨h11_⟩
      have n12_:zA (s≠u):=⟨h12_⟩
      have n13_:zA (Below w.heap.size w w60):=⟨h13_⟩
      clear d
      clear m
      clear q
      clear l
      clear HB
      clear h0_ h1_ h2_ h3_ h4_ h5_ h6_ h7_ h8_ h9_ h10_ h11_ h12_ h13_
      have d:=n0_
      have m:=n1_
      have q:=n2_
      have l:=n3_
      have y:=n4_
      have ag:=n5_
      have b2:=n6_
      have aw:=n7_
      have a0:=n8_
      have ao:=n9_
      have ay:=n10_
      have ax:=n11_
      have a1:=n12_
      have HB:=n13_
      clear n0_ n1_ n2_ n3_ n4_ n5_ n6_ n7_ n8_ n9_ n10_ n11_ n12_ n13_
      have c:w60.cell? (r.add (((rd l1 a)).toNat*4))=some (.int .i64 ((zG b (rd l1 a)).f0.f0))∧w60.cell? ⟨(r.add (((rd l1 a)).toNat*4)).block,(r.add (((rd l1 a)).toNat*4)).off+1,none⟩=some (.int .i64 ((zG b (rd l1 a)).f0.f1))∧w60.cell? ⟨(r.add (((rd l1 a)).toNat*4)).block,(r.add (((rd l1 a)).toNat*4)).off+2,none⟩=some (.int .i64 ((zG b (rd l1 a)).f1))∧w60.cell? ⟨(r.add (((rd l1 a)).toNat*4)).block,(r.add (((rd l1 a)).toNat*4)).off+3,none⟩=some (.int .i64 ((zG b (rd l1 a)).f2))∧w60.cell? (bb.add (a).toNat)=some (.int .i64 (rd l2 a))∧w60.cell? (r.add (((rd l1 a)).toNat*4))=some (.int .i64 ((zG b (rd l1 a)).f0.f0))∧w60.cell? ⟨(r.add (((rd l1 a)).toNat*4)).block,(r.add (((rd l1 a)).toNat*4)).off+1,none⟩=some (.int .i64 ((zG b (rd l1 a)).f0.f1))∧w60.cell? ⟨(r.add (((rd l1 a)).toNat*4)).block,(r.add (((rd l1 a)).toNat*4)).off+2,none⟩=some (.int .i64 ((zG b (rd l1 a)).f1))∧w60.cell? ⟨(r.add (((rd l1 a)).toNat*4)).block,(r.add (((rd l1 a)).toNat*4)).off+3,none⟩=some (.int .i64 ((zG b (rd l1 a)).f2))∧w60.cell? (bb.add (a).toNat)=some (.int .i64 (rd l2 a))∧w60.cell? (r.add (((rd l1 a)).toNat*4))=some (.int .i64 ((zG b (rd l1 a)).f0.f0))∧w60.cell? ⟨(r.add (((rd l1 a)).toNat*4)).block,(r.add (((rd l1 a)).toNat*4)).off+1,none⟩=some (.int .i64 ((zG b (rd l1 a)).f0.f1))∧w60.cell? ⟨(r.add (((rd l1 a)).toNat*4)).block,(r.add (((rd l1 a)).toNat*4)).off+2,none⟩=some (.int .i64 ((zG b (rd l1 a)).f1))∧w60.cell? ⟨(r.add (((rd l1 a)).toNat*4)).block,(r.add (((rd l1 a)).toNat*4)).off+3,none⟩=some (.int .i64 ((zG b (rd l1 a)).f2)):=hS_
      refine zAe (a':=?_) ?_ ?_
      rotate_left
      ·simp only [zy,Act.put,List.setIfInBounds_toArray,List.set_cons_zero,List.set_cons_succ]
       rfl
      refine oP 28 none HT_ (fun K hK=>?_)
      have jg:w60.cell? ⟨s,0,none⟩=some (.int .i64 0):=(zB y.out 0).trans rfl
      have ij:=zW y.out 0
      have ga:=aw.out
      have gb:=ao.out
      have gc:=ax.out
      have gd:=a0.out
      have ge:=ay.out
      have gf:=a1.out
      have jh:w60.cell? ⟨s,1,none⟩=some (.int .i64 0):=(zB y.out 1).trans rfl
      have ik:=zW y.out 1
      have gg:=aw.out
      have gh:=ao.out
      have gi:=ax.out
      have gj:=a0.out
      have gl:=ay.out
      have gm:=a1.out
      refine zB0 (w1:=?_) (by rfl) rfl ?_ ?_
      rotate_left
      ·go_simp
       rfl
      refine hK.out _ _ ⟨((cell_far (p:=⟨s,_,none⟩) (oB (Kd.zA6 d.out y.out (by decide))) _).trans (((cell_far (p:=⟨s,_,none⟩) (oB (Kd.zA6 d.out y.out (by decide))) _).trans (c.1)))),((cell_far (p:=⟨s,_,none⟩) (oB (Kd.zA6 d.out y.out (by decide))) _).trans (((cell_far (p:=⟨s,_,none⟩) (oB (Kd.zA6 d.out y.out (by decide))) _).trans (c.2.1)))),((cell_far (p:=⟨s,_,none⟩) (oB (Kd.zA6 d.out y.out (by decide))) _).trans (((cell_far (p:=⟨s,_,none⟩) (oB (Kd.zA6 d.out y.out (by decide))) _).trans (c.2.2.1)))),((cell_far (p:=⟨s,_,none⟩) (oB (Kd.zA6 d.out y.out (by decide))) _).trans (((cell_far (p:=⟨s,_,none⟩) (oB (Kd.zA6 d.out y.out (by decide))) _).trans (c.2.2.2.1)))),((cell_far (p:=⟨s,_,none⟩) (by first|exact Nat.ne_of_lt (Nat.lt_of_lt_of_le (by have:=World.block_lt_of_cell? _ _ aj;first|rwa [add_block] at this|exact this) ag.out)|(rw [add_block];exact Nat.ne_of_lt (Nat.lt_of_lt_of_le (by have:=World.block_lt_of_cell? _ _ aj;first|rwa [add_block] at this|exact this) ag.out))|(show (Addr.add _ _).block≠_;rw [add_block];exact Nat.ne_of_lt (Nat.lt_of_lt_of_le (by have:=World.block_lt_of_cell? _ _ aj;first|rwa [add_block] at this|exact this) ag.out))|(dsimp only;exact Nat.ne_of_lt (Nat.lt_of_lt_of_le (by have:=World.block_lt_of_cell? _ _ aj;first|rwa [add_block] at this|exact this) ag.out))) _).trans (((cell_far (p:=⟨s,_,none⟩) (by first|exact Nat.ne_of_lt (Nat.lt_of_lt_of_le (by have:=World.block_lt_of_cell? _ _ aj;first|rwa [add_block] at this|exact this) ag.out)|(rw [add_block];exact Nat.ne_of_lt (Nat.lt_of_lt_of_le (by have:=World.block_lt_of_cell? _ _ aj;first|rwa [add_block] at this|exact this) ag.out))|(show (Addr.add _ _).block≠_;rw [add_block];exact Nat.ne_of_lt (Nat.lt_of_lt_of_le (by have:=World.block_lt_of_cell? _ _ aj;first|rwa [add_block] at this|exact this) ag.out))|(dsimp only;exact Nat.ne_of_lt (Nat.lt_of_lt_of_le (by have:=World.block_lt_of_cell? _ _ aj;first|rwa [add_block] at this|exact this) ag.out))) _).trans (c.2.2.2.2.1)))),((cell_far (p:=⟨s,_,none⟩) (oB (Kd.zA6 d.out y.out (by decide))) _).trans (((cell_far (p:=⟨s,_,none⟩) (oB (Kd.zA6 d.out y.out (by decide))) _).trans (c.2.2.2.2.2.1)))),((cell_far (p:=⟨s,_,none⟩) (oB (Kd.zA6 d.out y.out (by decide))) _).trans (((cell_far (p:=⟨s,_,none⟩) (oB (Kd.zA6 d.out y.out (by decide))) _).trans (c.2.2.2.2.2.2.1)))),((cell_far (p:=⟨s,_,none⟩) (oB (Kd.zA6 d.out y.out (by decide))) _).trans (((cell_far (p:=⟨s,_,none⟩) (oB (Kd.zA6 d.out y.out (by decide))) _).trans (c.2.2.2.2.2.2.2.1)))),((cell_far (p:=⟨s,_,none⟩) (oB (Kd.zA6 d.out y.out (by decide))) _).trans (((cell_far (p:=⟨s,_,none⟩) (oB (Kd.zA6 d.out y.out (by decide))) _).trans (c.2.2.2.2.2.2.2.2.1)))),((cell_far (p:=⟨s,_,none⟩) (by first|exact Nat.ne_of_lt (Nat.lt_of_lt_of_le (by have:=World.block_lt_of_cell? _ _ ak;first|rwa [add_block] at this|exact this) ag.out)|(rw [add_block];exact Nat.ne_of_lt (Nat.lt_of_lt_of_le (by have:=World.block_lt_of_cell? _ _ ak;first|rwa [add_block] at this|exact this) ag.out))|(show (Addr.add _ _).block≠_;rw [add_block];exact Nat.ne_of_lt (Nat.lt_of_lt_of_le (by have:=World.block_lt_of_cell? _ _ ak;first|rwa [add_block] at this|exact this) ag.out))|(dsimp only;exact Nat.ne_of_lt (Nat.lt_of_lt_of_le (by have:=World.block_lt_of_cell? _ _ ak;first|rwa [add_block] at this|exact this) ag.out))) _).trans (((cell_far (p:=⟨s,_,none⟩) (by first|exact Nat.ne_of_lt (Nat.lt_of_lt_of_le (by have:=World.block_lt_of_cell? _ _ ak;first|rwa [add_block] at this|exact this) ag.out)|(rw [add_block];exact Nat.ne_of_lt (Nat.lt_of_lt_of_le (by have:=World.block_lt_of_cell? _ _ ak;first|rwa [add_block] at this|exact this) ag.out))|(show (Addr.add _ _).block≠_;rw [add_block];exact Nat.ne_of_lt (Nat.lt_of_lt_of_le (by have:=World.block_lt_of_cell? _ _ ak;first|rwa [add_block] at this|exact this) ag.out))|(dsimp only;exact Nat.ne_of_lt (Nat.lt_of_lt_of_le (by have:=World.block_lt_of_cell? _ _ ak;first|rwa [add_block] at this|exact this) ag.out))) _).trans (c.2.2.2.2.2.2.2.2.2.1)))),((cell_far (p:=⟨s,_,none⟩) (oB (Kd.zA6 d.out y.out (by decide))) _).trans (((cell_far (p:=⟨s,_,none⟩) (oB (Kd.zA6 d.out y.out (by decide))) _).trans (c.2.2.2.2.2.2.2.2.2.2.1)))),((cell_far (p:=⟨s,_,none⟩) (oB (Kd.zA6 d.out y.out (by decide))) _).trans (((cell_far (p:=⟨s,_,none⟩) (oB (Kd.zA6 d.out y.out (by decide))) _).trans (c.2.2.2.2.2.2.2.2.2.2.2.1)))),((cell_far (p:=⟨s,_,none⟩) (oB (Kd.zA6 d.out y.out (by decide))) _).trans (((cell_far (p:=⟨s,_,none⟩) (oB (Kd.zA6 d.out y.out (by decide))) _).trans (c.2.2.2.2.2.2.2.2.2.2.2.2.1)))),((cell_far (p:=⟨s,_,none⟩) (oB (Kd.zA6 d.out y.out (by decide))) _).trans (((cell_far (p:=⟨s,_,none⟩) (oB (Kd.zA6 d.out y.out (by decide))) _).trans (c.2.2.2.2.2.2.2.2.2.2.2.2.2))))⟩ (fun c=>?_)
      clear hK K
      refine pP 29 (some 14) HT_ ?_
      refine zBZ (zA8 HT_.out (by kernel_rfl)) ?_
      have il:=bh.out
      have im:=bg.out
      have io:=ao.out
      have ip:=ay.out
      obtain ⟨_,_,_,_,_,_⟩:=xC3 q.out
      try go_wp2
      refine bodyPost_ret (zBd rfl _ _ ab 26 #[.slice none 0 0,.int .i64 0,.int .i64 0] (0,0) _ rfl (by (repeat with_reducible first|apply zD|apply zF|apply zC);refine zP (cs:=#[.slice none 0 0,.int .i64 0,.int .i64 ai]) ?_ 2 _ rfl;(repeat with_reducible first|apply zD|apply zF|apply zC);refine zP (cs:=#[.slice none 0 0,.int .i64 am,.int .i64 ai]) ?_ 1 _ rfl;(repeat with_reducible first|apply zD|apply zF|apply zC);refine zP (cs:=#[.slice none 0 0,.int .i64 am,.int .i64 ai]) ?_ 0 _ rfl;(repeat with_reducible first|apply zD|apply zF|apply zC);refine zO ?_ ao.out _;(repeat with_reducible first|apply zD|apply zF|apply zC);refine zO ?_ ao.out _;(repeat with_reducible first|apply zD|apply zF|apply zC);exact q.out) Try.underlying26 rfl (by kernel_rfl)) rfl ?_
      exact ⟨_,eA,by first|exact Kd.zBW _ _ _ _ _|exact Kd.zCK _ _ _ _ _|exact Kd.zCM _ _ _ _ _|exact Kd.zCL _ _ _ _ _|exact Kd.zCJ _ _ _ _ _,bA⟩
     subst c34
     have H1:(zN.l0 k2 l2 l1 (l1.length:Int) (wrap64 (a+1)) (b.set ((rd l1 a):Int).toNat (⟨(⟨a2,a3⟩:S24),(zG b (rd l1 a)).f1,(zG b (rd l1 a)).f2⟩:S50)) ac ad)=some (r1,r2,r3,r4):=by rw [if_pos rfl] at H;exact H
     clear H
     have H:=H1
     clear H1
     obtain ⟨d1,c0⟩ : ∃ y_:List (S50),y_=(b.set ((rd l1 a):Int).toNat (⟨(⟨a2,a3⟩:S24),(zG b (rd l1 a)).f1,(zG b (rd l1 a)).f2⟩:S50)):=⟨_,rfl⟩
     replace H:(zN.l0 k2 l2 l1 (l1.length:Int) (wrap64 (a+1)) d1 ac ad)=some (r1,r2,r3,r4):=by first|(rw [c0];with_reducible exact H)|(have H2_:=(Option.bind_some _ _).symm.trans H;rw [c0];with_reducible exact H2_)|(have H2_:=(Option.bind_some _ _).symm.trans H;with_reducible exact H2_)|with_reducible exact H|(rw [c0];exact H)|exact H
     have ew:=zA.mk c0
     clear c0
     have H':=zA.mk H
     clear H
     have cl:0≤(a:Int):=dA
     have cm:a < (l1.length:Int):=dA
     obtain ⟨ev,e199,cg⟩:=Kd.zAh HR1.out a cl cm
     cases e199
     replace cg:=hC HB.out cg
     replace cl:=eq_true cl
     replace cm:=eq_true cm
     have iq:=a7.out
     have ir:=ah.out
     have it:=a4.out
     have iu:=az.out
     obtain ⟨_,_,_,_,_,_⟩:=xC3 l.out
     obtain ⟨ji,cf,e6⟩:=Kd.zq d.out
     subst e6
     have cn:0≤((rd l1 a):Int):=dA
     have co:(rd l1 a) < (b.length:Int):=dA
     obtain ⟨r,e200,dj,dk,dl,dm⟩:=zA9 (Kd.zJ d.out).2.2 (rd l1 a) cn co
     cases e200
     replace cn:=eq_true cn
     replace co:=eq_true co
     try go_wp2
     replace d:=qK (Kd.zAv d.out)
     replace m:=qK (zF m.out)
     replace q:=qK (zF q.out)
     replace l:=qK (zF l.out)
     replace HB:=qK (zx HB.out)
     have cp:0≤((rd l1 a):Int):=dA
     have cq:(rd l1 a) < (b.length:Int):=dA
     obtain ⟨du,e201,b3,b4,b5,b6⟩:=zA9 (Kd.zJ d.out).2.2 (rd l1 a) cp cq
     obtain rfl:r=du:=(by injection e201)
     replace cp:=eq_true cp
     replace cq:=eq_true cq
     have cr:0≤(a:Int):=dA
     have ct:a < (l2.length:Int):=dA
     obtain ⟨bb,e202,bk⟩:=Kd.zAh HR2.out a cr ct
     have aj:=bk
     cases e202
     replace bk:=hC HB.out bk
     replace cr:=eq_true cr
     replace ct:=eq_true ct
     have cu:0≤((rd l1 a):Int):=dA
     have cv:(rd l1 a) < (b.length:Int):=dA
     obtain ⟨dv,e203,b7,b8,b9,ca⟩:=zA9 (Kd.zJ d.out).2.2 (rd l1 a) cu cv
     obtain rfl:r=dv:=(by injection e203)
     replace cu:=eq_true cu
     replace cv:=eq_true cv
     have cw:0≤(a:Int):=dA
     have cx:a < (l2.length:Int):=dA
     obtain ⟨dw,e204,bl⟩:=Kd.zAh HR2.out a cw cx
     have ak:=bl
     obtain rfl:bb=dw:=(by injection e204)
     replace bl:=hC HB.out bl
     replace cw:=eq_true cw
     replace cx:=eq_true cx
     have cy:0≤((rd l1 a):Int):=dA
     have cz:(rd l1 a) < (b.length:Int):=dA
     obtain ⟨dx,e205,cb,cc,cd,ce⟩:=zA9 (Kd.zJ d.out).2.2 (rd l1 a) cy cz
     obtain rfl:r=dx:=(by injection e205)
     replace cy:=eq_true cy
     replace cz:=eq_true cz
     refine zBH (n:=30) (S:=fun w'=>w'.cell? (r.add (((rd l1 a)).toNat*4))=some (.int .i64 ((zG b (rd l1 a)).f0.f0))∧w'.cell? ⟨(r.add (((rd l1 a)).toNat*4)).block,(r.add (((rd l1 a)).toNat*4)).off+1,none⟩=some (.int .i64 ((zG b (rd l1 a)).f0.f1))∧w'.cell? ⟨(r.add (((rd l1 a)).toNat*4)).block,(r.add (((rd l1 a)).toNat*4)).off+2,none⟩=some (.int .i64 ((zG b (rd l1 a)).f1))∧w'.cell? ⟨(r.add (((rd l1 a)).toNat*4)).block,(r.add (((rd l1 a)).toNat*4)).off+3,none⟩=some (.int .i64 ((zG b (rd l1 a)).f2))∧w'.cell? (bb.add (a).toNat)=some (.int .i64 (rd l2 a))∧w'.cell? (r.add (((rd l1 a)).toNat*4))=some (.int .i64 ((zG b (rd l1 a)).f0.f0))∧w'.cell? ⟨(r.add (((rd l1 a)).toNat*4)).block,(r.add (((rd l1 a)).toNat*4)).off+1,none⟩=some (.int .i64 ((zG b (rd l1 a)).f0.f1))∧w'.cell? ⟨(r.add (((rd l1 a)).toNat*4)).block,(r.add (((rd l1 a)).toNat*4)).off+2,none⟩=some (.int .i64 ((zG b (rd l1 a)).f1))∧w'.cell? ⟨(r.add (((rd l1 a)).toNat*4)).block,(r.add (((rd l1 a)).toNat*4)).off+3,none⟩=some (.int .i64 ((zG b (rd l1 a)).f2))∧w'.cell? (bb.add (a).toNat)=some (.int .i64 (rd l2 a))∧w'.cell? (r.add (((rd l1 a)).toNat*4))=some (.int .i64 ((zG b (rd l1 a)).f0.f0))∧w'.cell? ⟨(r.add (((rd l1 a)).toNat*4)).block,(r.add (((rd l1 a)).toNat*4)).off+1,none⟩=some (.int .i64 ((zG b (rd l1 a)).f0.f1))∧w'.cell? ⟨(r.add (((rd l1 a)).toNat*4)).block,(r.add (((rd l1 a)).toNat*4)).off+2,none⟩=some (.int .i64 ((zG b (rd l1 a)).f1))∧w'.cell? ⟨(r.add (((rd l1 a)).toNat*4)).block,(r.add (((rd l1 a)).toNat*4)).off+3,none⟩=some (.int .i64 ((zG b (rd l1 a)).f2))) (ds:=[]) #[false,false,false,false,false,false,false,false,false,false,false,false,false,false,false,false,false,false,false,false,false,false,false,false,false,false,false,false,false,false] (by kernel_rfl) rfl rfl ⟨b3,b4,b5,b6,(hC HB.out aj),b7,b8,b9,ca,(hC HB.out ak),cb,cc,cd,ce⟩ (fun c=>?_);refine zAj zN.tab11 zN.bits11 (fun HT_ HW_=>?_)
     generalize wr.drew=w40 at d m q l HB b3 b4 b5 b6 bk b7 b8 b9 ca bl cb cc cd ce c ⊢
     refine pP 0 (some 52) HT_ ?_
     refine pP 1 (some 53) HT_ ?_
     refine pP 2 (some 54) HT_ ?_
     refine pP 4 (some 56) HT_ ?_
     refine pP 5 (some 57) HT_ ?_
     refine pP 6 (some 58) HT_ ?_
     refine pP 8 (some 60) HT_ ?_
     refine pP 9 (some 61) HT_ ?_
     refine pP 10 (some 62) HT_ ?_
     refine pP 13 (some 65) HT_ ?_
     refine pP 14 (some 66) HT_ ?_
     refine pP 15 (some 67) HT_ ?_
     refine pP 17 (some 69) HT_ ?_
     refine pP 18 (some 70) HT_ ?_
     refine pP 19 (some 71) HT_ ?_
     refine tP 3 (some 55) HT_ HW_ c ?_
     refine tP 7 (some 59) HT_ HW_ c ?_
     refine tP 11 (some 63) HT_ HW_ c ?_
     refine pP 12 (some 64) HT_ ?_
     refine tP 16 (some 68) HT_ HW_ c ?_
     refine tP 20 (some 72) HT_ HW_ c ?_
     refine pP 21 (some 73) HT_ ?_
     refine pP 22 (some 74) HT_ ?_
     refine zBz (σ:=Nat) 2 #[true,true,true,true,true,true,true,true,true,true,true,true,true,true,true,true,true,true,true,true,true,true,true,true,true,true,true,true,false,false] (fun s_=>[(75,.tuple #[.agg #[.int .i64 a2,.int .i64 a3],.bool true]),(13,.pointer (some ⟨s_,0,none⟩)),(51,.tuple #[.agg #[.int .i64 a2,.int .i64 a3],.bool true]),(76,.agg #[.int .i64 a2,.int .i64 a3]),(77,.bool true)]) (fun s_ w'=>(w'.cell? (r.add (((rd l1 a)).toNat*4))=some (.int .i64 ((zG b (rd l1 a)).f0.f0))∧w'.cell? ⟨(r.add (((rd l1 a)).toNat*4)).block,(r.add (((rd l1 a)).toNat*4)).off+1,none⟩=some (.int .i64 ((zG b (rd l1 a)).f0.f1))∧w'.cell? ⟨(r.add (((rd l1 a)).toNat*4)).block,(r.add (((rd l1 a)).toNat*4)).off+2,none⟩=some (.int .i64 ((zG b (rd l1 a)).f1))∧w'.cell? ⟨(r.add (((rd l1 a)).toNat*4)).block,(r.add (((rd l1 a)).toNat*4)).off+3,none⟩=some (.int .i64 ((zG b (rd l1 a)).f2))∧w'.cell? (bb.add (a).toNat)=some (.int .i64 (rd l2 a))∧w'.cell? (r.add (((rd l1 a)).toNat*4))=some (.int .i64 ((zG b (rd l1 a)).f0.f0))∧w'.cell? ⟨(r.add (((rd l1 a)).toNat*4)).block,(r.add (((rd l1 a)).toNat*4)).off+1,none⟩=some (.int .i64 ((zG b (rd l1 a)).f0.f1))∧w'.cell? ⟨(r.add (((rd l1 a)).toNat*4)).block,(r.add (((rd l1 a)).toNat*4)).off+2,none⟩=some (.int .i64 ((zG b (rd l1 a)).f1))∧w'.cell? ⟨(r.add (((rd l1 a)).toNat*4)).block,(r.add (((rd l1 a)).toNat*4)).off+3,none⟩=some (.int .i64 ((zG b (rd l1 a)).f2))∧w'.cell? (bb.add (a).toNat)=some (.int .i64 (rd l2 a))∧w'.cell? (r.add (((rd l1 a)).toNat*4))=some (.int .i64 ((zG b (rd l1 a)).f0.f0))∧w'.cell? ⟨(r.add (((rd l1 a)).toNat*4)).block,(r.add (((rd l1 a)).toNat*4)).off+1,none⟩=some (.int .i64 ((zG b (rd l1 a)).f0.f1))∧w'.cell? ⟨(r.add (((rd l1 a)).toNat*4)).block,(r.add (((rd l1 a)).toNat*4)).off+2,none⟩=some (.int .i64 ((zG b (rd l1 a)).f1))∧w'.cell? ⟨(r.add (((rd l1 a)).toNat*4)).block,(r.add (((rd l1 a)).toNat*4)).off+3,none⟩=some (.int .i64 ((zG b (rd l1 a)).f2)))∧(Kd.R k50 50 w' w.heap.size (fun _=>True) (.slice (some r) b.length cf) b)∧(w'.heap[aa]? = some (.cells #[.slice a5 ar.length a6,.int .i64 ac,.int .i64 ad] 26 (0,0)))∧(w'.heap[ab]? = some (.cells #[.slice none 0 0,.int .i64 am,.int .i64 ai] 26 (0,0)))∧(w'.heap[u]? = some (.cells #[.slice (some r) b.length cf,.int .i64 ac,.int .i64 ad] 26 (0,0)))∧(w'.heap[s_]? = some (.cells #[.int .i64 0,.int .i64 0] 24 (0,0)))∧(w.heap.size≤s_)∧(w.heap.size≤s_)∧(aa≠s_)∧(s_≠aa)∧(ab≠s_)∧(s_≠ab)∧(u≠s_)∧(s_≠u)∧(Below w.heap.size w w')) ?_ ?_
     rotate_left
     ·intro a8
      refine zB6 (i:=23) (j:=27) (Ni:=some 75) (Nj:=some 13) #[true,true,true,true,true,true,true,true,true,true,true,true,true,true,true,true,true,true,true,true,true,true,true,true,false,false,false,false,false,false] #[true,true,true,true,true,true,true,true,true,true,true,true,true,true,true,true,true,true,true,true,true,true,true,false,false,false,false,true,false,false] rfl rfl rfl rfl (zBG HT_.out (by kernel_rfl)) (by decide) (by decide) (fun K hK=>?_) (fun K hK=>?_)
      ·skip
       refine gO Try.func53 #[.agg #[.int .i64 ((zG b (rd l1 a)).f0.f0),.int .i64 ((zG b (rd l1 a)).f0.f1)],.agg #[.int .i64 (wrap64 ((rd l2 a) - ((zG b (rd l1 a)).f2))),.int .i64 (wrap64 ((rd l2 a)+((zG b (rd l1 a)).f2)))]] ?_
       with_reducible refine (zh.calls ((zG b (rd l1 a)).f0.f0) ((zG b (rd l1 a)).f0.f1) (wrap64 ((rd l2 a) - ((zG b (rd l1 a)).f2))) (wrap64 ((rd l2 a)+((zG b (rd l1 a)).f2))) a2 a3 true _ A33.out).mono ?_
       rintro e w41 ⟨rfl,hb⟩
       have bm:=(hb.cell (World.block_lt_of_cell? _ _ (c.1))).trans (c.1)
       have bn:=(hb.cell (World.block_lt_of_cell? _ _ (c.2.1))).trans (c.2.1)
       have bo:=(hb.cell (World.block_lt_of_cell? _ _ (c.2.2.1))).trans (c.2.2.1)
       have bp:=(hb.cell (World.block_lt_of_cell? _ _ (c.2.2.2.1))).trans (c.2.2.2.1)
       have bq:=(hb.cell (World.block_lt_of_cell? _ _ (c.2.2.2.2.2.1))).trans (c.2.2.2.2.2.1)
       have br:=(hb.cell (World.block_lt_of_cell? _ _ (c.2.2.2.2.2.2.1))).trans (c.2.2.2.2.2.2.1)
       have bs:=(hb.cell (World.block_lt_of_cell? _ _ (c.2.2.2.2.2.2.2.1))).trans (c.2.2.2.2.2.2.2.1)
       have bt:=(hb.cell (World.block_lt_of_cell? _ _ (c.2.2.2.2.2.2.2.2.1))).trans (c.2.2.2.2.2.2.2.2.1)
       have bc:=(hb.cell (World.block_lt_of_cell? _ _ (c.2.2.2.2.2.2.2.2.2.2.1))).trans (c.2.2.2.2.2.2.2.2.2.2.1)
       have bd:=(hb.cell (World.block_lt_of_cell? _ _ (c.2.2.2.2.2.2.2.2.2.2.2.1))).trans (c.2.2.2.2.2.2.2.2.2.2.2.1)
       have be:=(hb.cell (World.block_lt_of_cell? _ _ (c.2.2.2.2.2.2.2.2.2.2.2.2.1))).trans (c.2.2.2.2.2.2.2.2.2.2.2.2.1)
       have bf:=(hb.cell (World.block_lt_of_cell? _ _ (c.2.2.2.2.2.2.2.2.2.2.2.2.2))).trans (c.2.2.2.2.2.2.2.2.2.2.2.2.2)
       refine ⟨_,rfl,?_⟩
       replace d:=rB d hb
       replace m:=bQ m hb
       replace q:=bQ q hb
       replace l:=bQ l hb
       replace HB:=hQ hb
       (try clear hb)
       (try clear hb2)
       (try clear hk)
       (try clear hi)
       refine hK.out _ _ ⟨bm,bn,bo,bp,(hC HB.out aj),bq,br,bs,bt,(hC HB.out ak),bc,bd,be,bf⟩ (fun c=>?_)
       clear hK K
       refine nP ?_
       refine pP 24 (some 51) HT_ ?_
       refine pP 25 (some 76) HT_ ?_
       refine pP 26 (some 77) HT_ ?_
       refine oP 27 (some 13) HT_ (fun K hK=>?_)
       refine zAK ?hg (N:=13) ?hd (cs:=#[.int .i64 0,.int .i64 0]) (t:=24) ?hr ?_;(case hd=>rfl);(case hg=>rfl);(case hr=>first|(go_simp;done)|(go_simp;rfl))
       intro s hg w42 al hb
       have bm:=(hb.cell (World.block_lt_of_cell? _ _ (c.1))).trans (c.1)
       have bn:=(hb.cell (World.block_lt_of_cell? _ _ (c.2.1))).trans (c.2.1)
       have bo:=(hb.cell (World.block_lt_of_cell? _ _ (c.2.2.1))).trans (c.2.2.1)
       have bp:=(hb.cell (World.block_lt_of_cell? _ _ (c.2.2.2.1))).trans (c.2.2.2.1)
       have bq:=(hb.cell (World.block_lt_of_cell? _ _ (c.2.2.2.2.2.1))).trans (c.2.2.2.2.2.1)
       have br:=(hb.cell (World.block_lt_of_cell? _ _ (c.2.2.2.2.2.2.1))).trans (c.2.2.2.2.2.2.1)
       have bs:=(hb.cell (World.block_lt_of_cell? _ _ (c.2.2.2.2.2.2.2.1))).trans (c.2.2.2.2.2.2.2.1)
       have bt:=(hb.cell (World.block_lt_of_cell? _ _ (c.2.2.2.2.2.2.2.2.1))).trans (c.2.2.2.2.2.2.2.2.1)
       have bc:=(hb.cell (World.block_lt_of_cell? _ _ (c.2.2.2.2.2.2.2.2.2.2.1))).trans (c.2.2.2.2.2.2.2.2.2.2.1)
       have bd:=(hb.cell (World.block_lt_of_cell? _ _ (c.2.2.2.2.2.2.2.2.2.2.2.1))).trans (c.2.2.2.2.2.2.2.2.2.2.2.1)
       have be:=(hb.cell (World.block_lt_of_cell? _ _ (c.2.2.2.2.2.2.2.2.2.2.2.2.1))).trans (c.2.2.2.2.2.2.2.2.2.2.2.2.1)
       have bf:=(hb.cell (World.block_lt_of_cell? _ _ (c.2.2.2.2.2.2.2.2.2.2.2.2.2))).trans (c.2.2.2.2.2.2.2.2.2.2.2.2.2)
       replace d:=rB d hb
       have y:=qK (al)
       have ag:=qK (gS hg:w.heap.size≤s)
       have b2:=qK (gS hg:w.heap.size≤s)
       replace HB:=hQ hb
       have aw:=qK (nL hg m.out:aa≠s)
       have a0:=qK (nG hg m.out:s≠aa)
       replace m:=bQ m hb
       have ao:=qK (nL hg q.out:ab≠s)
       have ay:=qK (nG hg q.out:s≠ab)
       replace q:=bQ q hb
       have ax:=qK (nL hg l.out:u≠s)
       have a1:=qK (nG hg l.out:s≠u)
       replace l:=bQ l hb
       clear hb al hg
       refine hK.out _ _ ⟨bm,bn,bo,bp,(hC HB.out aj),bq,br,bs,bt,(hC HB.out ak),bc,bd,be,bf⟩ (fun c=>?_)
       clear hK K
       refine nP ?_
       exact zAe (by simp only [zy,Act.put,List.setIfInBounds_toArray,List.set_cons_zero,List.set_cons_succ]) (a8 (s) _ ⟨c,(rS d.out),(bX m.out),(bX q.out),(bX l.out),(bX y.out),ag.out,b2.out,aw.out,a0.out,ao.out,ay.out,ax.out,a1.out,bA⟩)
      ·skip
       refine zAK ?hg (N:=13) ?hd (cs:=#[.int .i64 0,.int .i64 0]) (t:=24) ?hr ?_;(case hd=>rfl);(case hg=>rfl);(case hr=>first|(go_simp;done)|(go_simp;rfl))
       intro s hg w41 al hb
       have bm:=(hb.cell (World.block_lt_of_cell? _ _ (c.1))).trans (c.1)
       have bn:=(hb.cell (World.block_lt_of_cell? _ _ (c.2.1))).trans (c.2.1)
       have bo:=(hb.cell (World.block_lt_of_cell? _ _ (c.2.2.1))).trans (c.2.2.1)
       have bp:=(hb.cell (World.block_lt_of_cell? _ _ (c.2.2.2.1))).trans (c.2.2.2.1)
       have bq:=(hb.cell (World.block_lt_of_cell? _ _ (c.2.2.2.2.2.1))).trans (c.2.2.2.2.2.1)
       have br:=(hb.cell (World.block_lt_of_cell? _ _ (c.2.2.2.2.2.2.1))).trans (c.2.2.2.2.2.2.1)
       have bs:=(hb.cell (World.block_lt_of_cell? _ _ (c.2.2.2.2.2.2.2.1))).trans (c.2.2.2.2.2.2.2.1)
       have bt:=(hb.cell (World.block_lt_of_cell? _ _ (c.2.2.2.2.2.2.2.2.1))).trans (c.2.2.2.2.2.2.2.2.1)
       have bc:=(hb.cell (World.block_lt_of_cell? _ _ (c.2.2.2.2.2.2.2.2.2.2.1))).trans (c.2.2.2.2.2.2.2.2.2.2.1)
       have bd:=(hb.cell (World.block_lt_of_cell? _ _ (c.2.2.2.2.2.2.2.2.2.2.2.1))).trans (c.2.2.2.2.2.2.2.2.2.2.2.1)
       have be:=(hb.cell (World.block_lt_of_cell? _ _ (c.2.2.2.2.2.2.2.2.2.2.2.2.1))).trans (c.2.2.2.2.2.2.2.2.2.2.2.2.1)
       have bf:=(hb.cell (World.block_lt_of_cell? _ _ (c.2.2.2.2.2.2.2.2.2.2.2.2.2))).trans (c.2.2.2.2.2.2.2.2.2.2.2.2.2)
       replace d:=rB d hb
       have y:=qK (al)
       have ag:=qK (gS hg:w.heap.size≤s)
       have b2:=qK (gS hg:w.heap.size≤s)
       replace HB:=hQ hb
       have aw:=qK (nL hg m.out:aa≠s)
       have a0:=qK (nG hg m.out:s≠aa)
       replace m:=bQ m hb
       have ao:=qK (nL hg q.out:ab≠s)
       have ay:=qK (nG hg q.out:s≠ab)
       replace q:=bQ q hb
       have ax:=qK (nL hg l.out:u≠s)
       have a1:=qK (nG hg l.out:s≠u)
       replace l:=bQ l hb
       clear hb al hg
       refine hK.out _ _ ⟨bm,bn,bo,bp,(hC HB.out aj),bq,br,bs,bt,(hC HB.out ak),bc,bd,be,bf⟩ (fun c=>?_)
       clear hK K
       refine nP ?_
       refine oP 23 (some 75) HT_ (fun K hK=>?_)
       refine gO Try.func53 #[.agg #[.int .i64 ((zG b (rd l1 a)).f0.f0),.int .i64 ((zG b (rd l1 a)).f0.f1)],.agg #[.int .i64 (wrap64 ((rd l2 a) - ((zG b (rd l1 a)).f2))),.int .i64 (wrap64 ((rd l2 a)+((zG b (rd l1 a)).f2)))]] ?_
       with_reducible refine (zh.calls ((zG b (rd l1 a)).f0.f0) ((zG b (rd l1 a)).f0.f1) (wrap64 ((rd l2 a) - ((zG b (rd l1 a)).f2))) (wrap64 ((rd l2 a)+((zG b (rd l1 a)).f2))) a2 a3 true _ A33.out).mono ?_
       rintro e w42 ⟨rfl,hb⟩
       have bm:=(hb.cell (World.block_lt_of_cell? _ _ (c.1))).trans (c.1)
       have bn:=(hb.cell (World.block_lt_of_cell? _ _ (c.2.1))).trans (c.2.1)
       have bo:=(hb.cell (World.block_lt_of_cell? _ _ (c.2.2.1))).trans (c.2.2.1)
       have bp:=(hb.cell (World.block_lt_of_cell? _ _ (c.2.2.2.1))).trans (c.2.2.2.1)
       have bq:=(hb.cell (World.block_lt_of_cell? _ _ (c.2.2.2.2.2.1))).trans (c.2.2.2.2.2.1)
       have br:=(hb.cell (World.block_lt_of_cell? _ _ (c.2.2.2.2.2.2.1))).trans (c.2.2.2.2.2.2.1)
       have bs:=(hb.cell (World.block_lt_of_cell? _ _ (c.2.2.2.2.2.2.2.1))).trans (c.2.2.2.2.2.2.2.1)
       have bt:=(hb.cell (World.block_lt_of_cell? _ _ (c.2.2.2.2.2.2.2.2.1))).trans (c.2.2.2.2.2.2.2.2.1)
       have bc:=(hb.cell (World.block_lt_of_cell? _ _ (c.2.2.2.2.2.2.2.2.2.2.1))).trans (c.2.2.2.2.2.2.2.2.2.2.1)
       have bd:=(hb.cell (World.block_lt_of_cell? _ _ (c.2.2.2.2.2.2.2.2.2.2.2.1))).trans (c.2.2.2.2.2.2.2.2.2.2.2.1)
       have be:=(hb.cell (World.block_lt_of_cell? _ _ (c.2.2.2.2.2.2.2.2.2.2.2.2.1))).trans (c.2.2.2.2.2.2.2.2.2.2.2.2.1)
       have bf:=(hb.cell (World.block_lt_of_cell? _ _ (c.2.2.2.2.2.2.2.2.2.2.2.2.2))).trans (c.2.2.2.2.2.2.2.2.2.2.2.2.2)
       refine ⟨_,rfl,?_⟩
       replace d:=rB d hb
       replace m:=bQ m hb
       replace q:=bQ q hb
       replace l:=bQ l hb
       replace y:=bQ y hb
       replace HB:=hQ hb
       (try clear hb)
       (try clear hb2)
       (try clear hk)
       (try clear hi)
       refine hK.out _ _ ⟨bm,bn,bo,bp,(hC HB.out aj),bq,br,bs,bt,(hC HB.out ak),bc,bd,be,bf⟩ (fun c=>?_)
       clear hK K
       refine nP ?_
       refine pP 24 (some 51) HT_ ?_
       refine pP 25 (some 76) HT_ ?_
       refine pP 26 (some 77) HT_ ?_
       exact zAe (by simp only [zy,Act.put,List.setIfInBounds_toArray,List.set_cons_zero,List.set_cons_succ]) (a8 (s) _ ⟨c,(rS d.out),(bX m.out),(bX q.out),(bX l.out),(bX y.out),ag.out,b2.out,aw.out,a0.out,ao.out,ay.out,ax.out,a1.out,bA⟩)
     rintro s w43 ⟨hS_,h0_,h1_,h2_,h3_,h4_,h5_,h6_,h7_,h8_,h9_,h10_,h11_,h12_,h13_⟩
     have n0_:zA (Kd.R k50 50 w43 w.heap.size (fun _=>True) (.slice (some r) b.length cf) b):=⟨h0_⟩
     have n1_:zA (w43.heap[aa]? = some (.cells #[.slice a5 ar.length a6,.int .i64 ac,.int .i64 ad] 26 (0,0))):=⟨h1_⟩
     have n2_:zA (w43.heap[ab]? = some (.cells #[.slice none 0 0,.int .i64 am,.int .i64 ai] 26 (0,0))):=⟨h2_⟩
     have n3_:zA (w43.heap[u]? = some (.cells #[.slice (some r) b.length cf,.int .i64 ac,.int .i64 ad] 26 (0,0))):=⟨h3_⟩
     have n4_:zA (w43.heap[s]? = some (.cells #[.int .i64 0,.int .i64 0] 24 (0,0))):=⟨h4_⟩
     have n5_:zA (w.heap.size≤s):=⟨h5_⟩
     have n6_:zA (w.heap.size≤s):=⟨h6_⟩
     have n7_:zA (aa≠s):=⟨h7_⟩
     have n8_:zA (s≠aa):=⟨h8_⟩
     have n9_:zA (ab≠s):=⟨h9_⟩
     have n10_:zA (s≠ab):=⟨h10_⟩
     have n11_:zA (u≠s):=⟨h11_⟩
     have n12_:zA (s≠u):=⟨h12_⟩
     have n13_:zA (Below w.heap.size w w43):=⟨h13_⟩
     clear d
     clear m
     clear q
     clear l
     clear HB
     clear h0_ h1_ h2_ h3_ h4_ h5_ h6_ h7_ h8_ h9_ h10_ h11_ h12_ h13_
     have d:=n0_
     have m:=n1_
     have q:=n2_
     have l:=n3_
     have y:=n4_
     have ag:=n5_
     have b2:=n6_
     have aw:=n7_
     have a0:=n8_
     have ao:=n9_
     have ay:=n10_
     have ax:=n11_
     have a1:=n12_
     have HB:=n13_
     clear n0_ n1_ n2_ n3_ n4_ n5_ n6_ n7_ n8_ n9_ n10_ n11_ n12_ n13_
     have c:w43.cell? (r.add (((rd l1 a)).toNat*4))=some (.int .i64 ((zG b (rd l1 a)).f0.f0))∧w43.cell? ⟨(r.add (((rd l1 a)).toNat*4)).block,(r.add (((rd l1 a)).toNat*4)).off+1,none⟩=some (.int .i64 ((zG b (rd l1 a)).f0.f1))∧w43.cell? ⟨(r.add (((rd l1 a)).toNat*4)).block,(r.add (((rd l1 a)).toNat*4)).off+2,none⟩=some (.int .i64 ((zG b (rd l1 a)).f1))∧w43.cell? ⟨(r.add (((rd l1 a)).toNat*4)).block,(r.add (((rd l1 a)).toNat*4)).off+3,none⟩=some (.int .i64 ((zG b (rd l1 a)).f2))∧w43.cell? (bb.add (a).toNat)=some (.int .i64 (rd l2 a))∧w43.cell? (r.add (((rd l1 a)).toNat*4))=some (.int .i64 ((zG b (rd l1 a)).f0.f0))∧w43.cell? ⟨(r.add (((rd l1 a)).toNat*4)).block,(r.add (((rd l1 a)).toNat*4)).off+1,none⟩=some (.int .i64 ((zG b (rd l1 a)).f0.f1))∧w43.cell? ⟨(r.add (((rd l1 a)).toNat*4)).block,(r.add (((rd l1 a)).toNat*4)).off+2,none⟩=some (.int .i64 ((zG b (rd l1 a)).f1))∧w43.cell? ⟨(r.add (((rd l1 a)).toNat*4)).block,(r.add (((rd l1 a)).toNat*4)).off+3,none⟩=some (.int .i64 ((zG b (rd l1 a)).f2))∧w43.cell? (bb.add (a).toNat)=some (.int .i64 (rd l2 a))∧w43.cell? (r.add (((rd l1 a)).toNat*4))=some (.int .i64 ((zG b (rd l1 a)).f0.f0))∧w43.cell? ⟨(r.add (((rd l1 a)).toNat*4)).block,(r.add (((rd l1 a)).toNat*4)).off+1,none⟩=some (.int .i64 ((zG b (rd l1 a)).f0.f1))∧w43.cell? ⟨(r.add (((rd l1 a)).toNat*4)).block,(r.add (((rd l1 a)).toNat*4)).off+2,none⟩=some (.int .i64 ((zG b (rd l1 a)).f1))∧w43.cell? ⟨(r.add (((rd l1 a)).toNat*4)).block,(r.add (((rd l1 a)).toNat*4)).off+3,none⟩=some (.int .i64 ((zG b (rd l1 a)).f2)):=hS_
     refine zAe (a':=?_) ?_ ?_
     rotate_left
     ·simp only [zy,Act.put,List.setIfInBounds_toArray,List.set_cons_zero,List.set_cons_succ]
      rfl
     refine oP 28 none HT_ (fun K hK=>?_)
     have jj:w43.cell? ⟨s,0,none⟩=some (.int .i64 0):=(zB y.out 0).trans rfl
     have iv:=zW y.out 0
     have gn:=aw.out
     have gp:=ao.out
     have gq:=ax.out
     have gr:=a0.out
     have gs:=ay.out
     have gt:=a1.out
     have jk:w43.cell? ⟨s,1,none⟩=some (.int .i64 0):=(zB y.out 1).trans rfl
     have iw:=zW y.out 1
     have gu:=aw.out
     have gv:=ao.out
     have gw:=ax.out
     have gx:=a0.out
     have gy:=ay.out
     have gz:=a1.out
     refine zB0 (w1:=?_) (by rfl) rfl ?_ ?_
     rotate_left
     ·go_simp
      rfl
     refine hK.out _ _ ⟨((cell_far (p:=⟨s,_,none⟩) (oB (Kd.zA6 d.out y.out (by decide))) _).trans (((cell_far (p:=⟨s,_,none⟩) (oB (Kd.zA6 d.out y.out (by decide))) _).trans (c.1)))),((cell_far (p:=⟨s,_,none⟩) (oB (Kd.zA6 d.out y.out (by decide))) _).trans (((cell_far (p:=⟨s,_,none⟩) (oB (Kd.zA6 d.out y.out (by decide))) _).trans (c.2.1)))),((cell_far (p:=⟨s,_,none⟩) (oB (Kd.zA6 d.out y.out (by decide))) _).trans (((cell_far (p:=⟨s,_,none⟩) (oB (Kd.zA6 d.out y.out (by decide))) _).trans (c.2.2.1)))),((cell_far (p:=⟨s,_,none⟩) (oB (Kd.zA6 d.out y.out (by decide))) _).trans (((cell_far (p:=⟨s,_,none⟩) (oB (Kd.zA6 d.out y.out (by decide))) _).trans (c.2.2.2.1)))),((cell_far (p:=⟨s,_,none⟩) (by first|exact Nat.ne_of_lt (Nat.lt_of_lt_of_le (by have:=World.block_lt_of_cell? _ _ aj;first|rwa [add_block] at this|exact this) ag.out)|(rw [add_block];exact Nat.ne_of_lt (Nat.lt_of_lt_of_le (by have:=World.block_lt_of_cell? _ _ aj;first|rwa [add_block] at this|exact this) ag.out))|(show (Addr.add _ _).block≠_;rw [add_block];exact Nat.ne_of_lt (Nat.lt_of_lt_of_le (by have:=World.block_lt_of_cell? _ _ aj;first|rwa [add_block] at this|exact this) ag.out))|(dsimp only;exact Nat.ne_of_lt (Nat.lt_of_lt_of_le (by have:=World.block_lt_of_cell? _ _ aj;first|rwa [add_block] at this|exact this) ag.out))) _).trans (((cell_far (p:=⟨s,_,none⟩) (by first|exact Nat.ne_of_lt (Nat.lt_of_lt_of_le (by have:=World.block_lt_of_cell? _ _ aj;first|rwa [add_block] at this|exact this) ag.out)|(rw [add_block];exact Nat.ne_of_lt (Nat.lt_of_lt_of_le (by have:=World.block_lt_of_cell? _ _ aj;first|rwa [add_block] at this|exact this) ag.out))|(show (Addr.add _ _).block≠_;rw [add_block];exact Nat.ne_of_lt (Nat.lt_of_lt_of_le (by have:=World.block_lt_of_cell? _ _ aj;first|rwa [add_block] at this|exact this) ag.out))|(dsimp only;exact Nat.ne_of_lt (Nat.lt_of_lt_of_le (by have:=World.block_lt_of_cell? _ _ aj;first|rwa [add_block] at this|exact this) ag.out))) _).trans (c.2.2.2.2.1)))),((cell_far (p:=⟨s,_,none⟩) (oB (Kd.zA6 d.out y.out (by decide))) _).trans (((cell_far (p:=⟨s,_,none⟩) (oB (Kd.zA6 d.out y.out (by decide))) _).trans (c.2.2.2.2.2.1)))),((cell_far (p:=⟨s,_,none⟩) (oB (Kd.zA6 d.out y.out (by decide))) _).trans (((cell_far (p:=⟨s,_,none⟩) (oB (Kd.zA6 d.out y.out (by decide))) _).trans (c.2.2.2.2.2.2.1)))),((cell_far (p:=⟨s,_,none⟩) (oB (Kd.zA6 d.out y.out (by decide))) _).trans (((cell_far (p:=⟨s,_,none⟩) (oB (Kd.zA6 d.out y.out (by decide))) _).trans (c.2.2.2.2.2.2.2.1)))),((cell_far (p:=⟨s,_,none⟩) (oB (Kd.zA6 d.out y.out (by decide))) _).trans (((cell_far (p:=⟨s,_,none⟩) (oB (Kd.zA6 d.out y.out (by decide))) _).trans (c.2.2.2.2.2.2.2.2.1)))),((cell_far (p:=⟨s,_,none⟩) (by first|exact Nat.ne_of_lt (Nat.lt_of_lt_of_le (by have:=World.block_lt_of_cell? _ _ ak;first|rwa [add_block] at this|exact this) ag.out)|(rw [add_block];exact Nat.ne_of_lt (Nat.lt_of_lt_of_le (by have:=World.block_lt_of_cell? _ _ ak;first|rwa [add_block] at this|exact this) ag.out))|(show (Addr.add _ _).block≠_;rw [add_block];exact Nat.ne_of_lt (Nat.lt_of_lt_of_le (by have:=World.block_lt_of_cell? _ _ ak;first|rwa [add_block] at this|exact this) ag.out))|(dsimp only;exact Nat.ne_of_lt (Nat.lt_of_lt_of_le (by have:=World.block_lt_of_cell? _ _ ak;first|rwa [add_block] at this|exact this) ag.out))) _).trans (((cell_far (p:=⟨s,_,none⟩) (by first|exact Nat.ne_of_lt (Nat.lt_of_lt_of_le (by have:=World.block_lt_of_cell? _ _ ak;first|rwa [add_block] at this|exact this) ag.out)|(rw [add_block];exact Nat.ne_of_lt (Nat.lt_of_lt_of_le (by have:=World.block_lt_of_cell? _ _ ak;first|rwa [add_block] at this|exact this) ag.out))|(show (Addr.add _ _).block≠_;rw [add_block];exact Nat.ne_of_lt (Nat.lt_of_lt_of_le (by have:=World.block_lt_of_cell? _ _ ak;first|rwa [add_block] at this|exact this) ag.out))|(dsimp only;exact Nat.ne_of_lt (Nat.lt_of_lt_of_le (by have:=World.block_lt_of_cell? _ _ ak;first|rwa [add_block] at this|exact this) ag.out))) _).trans (c.2.2.2.2.2.2.2.2.2.1)))),((cell_far (p:=⟨s,_,none⟩) (oB (Kd.zA6 d.out y.out (by decide))) _).trans (((cell_far (p:=⟨s,_,none⟩) (oB (Kd.zA6 d.out y.out (by decide))) _).trans (c.2.2.2.2.2.2.2.2.2.2.1)))),((cell_far (p:=⟨s,_,none⟩) (oB (Kd.zA6 d.out y.out (by decide))) _).trans (((cell_far (p:=⟨s,_,none⟩) (oB (Kd.zA6 d.out y.out (by decide))) _).trans (c.2.2.2.2.2.2.2.2.2.2.2.1)))),((cell_far (p:=⟨s,_,none⟩) (oB (Kd.zA6 d.out y.out (by decide))) _).trans (((cell_far (p:=⟨s,_,none⟩) (oB (Kd.zA6 d.out y.out (by decide))) _).trans (c.2.2.2.2.2.2.2.2.2.2.2.2.1)))),((cell_far (p:=⟨s,_,none⟩) (oB (Kd.zA6 d.out y.out (by decide))) _).trans (((cell_far (p:=⟨s,_,none⟩) (oB (Kd.zA6 d.out y.out (by decide))) _).trans (c.2.2.2.2.2.2.2.2.2.2.2.2.2))))⟩ (fun c=>?_)
     clear hK K
     refine pP 29 (some 14) HT_ ?_
     refine zBZ (zA8 HT_.out (by kernel_rfl)) ?_
     have n0_:zA (Kd.R k50 50 ((w43.setCell ⟨s,0,none⟩ (.int .i64 a2)).setCell ⟨s,1,none⟩ (.int .i64 a3)) w.heap.size (fun _=>True) (.slice (some r) b.length cf) b):=⟨by (with_reducible repeat (first|apply Kd.zAp|apply Kd.zAn|apply Kd.zAv));exact Kd.zR (Kd.zM (p:=⟨s,1,none⟩) (Kd.zM (p:=⟨s,0,none⟩) (Kd.ze d.out y.out (by decide)) (fun _ hk=>hk.2) (.int .i64 a2)) (fun _ hk=>hk.2) (.int .i64 a3)) (fun _ hk=>trivial)⟩
     have n1_:zA (((w43.setCell ⟨s,0,none⟩ (.int .i64 a2)).setCell ⟨s,1,none⟩ (.int .i64 a3)).heap[aa]? = some (.cells #[.slice a5 ar.length a6,.int .i64 ac,.int .i64 ad] 26 (0,0))):=⟨by (repeat with_reducible first|apply zD|apply zF|apply zC);refine zO ?_ aw.out _;(repeat with_reducible first|apply zD|apply zF|apply zC);refine zO ?_ aw.out _;(repeat with_reducible first|apply zD|apply zF|apply zC);exact m.out⟩
     have n2_:zA (((w43.setCell ⟨s,0,none⟩ (.int .i64 a2)).setCell ⟨s,1,none⟩ (.int .i64 a3)).heap[ab]? = some (.cells #[.slice none 0 0,.int .i64 am,.int .i64 ai] 26 (0,0))):=⟨by (repeat with_reducible first|apply zD|apply zF|apply zC);refine zO ?_ ao.out _;(repeat with_reducible first|apply zD|apply zF|apply zC);refine zO ?_ ao.out _;(repeat with_reducible first|apply zD|apply zF|apply zC);exact q.out⟩
     have n3_:zA (((w43.setCell ⟨s,0,none⟩ (.int .i64 a2)).setCell ⟨s,1,none⟩ (.int .i64 a3)).heap[u]? = some (.cells #[.slice (some r) b.length cf,.int .i64 ac,.int .i64 ad] 26 (0,0))):=⟨by (repeat with_reducible first|apply zD|apply zF|apply zC);refine zO ?_ ax.out _;(repeat with_reducible first|apply zD|apply zF|apply zC);refine zO ?_ ax.out _;(repeat with_reducible first|apply zD|apply zF|apply zC);exact l.out⟩
     have n4_:zA (((w43.setCell ⟨s,0,none⟩ (.int .i64 a2)).setCell ⟨s,1,none⟩ (.int .i64 a3)).heap[s]? = some (.cells #[.int .i64 a2,.int .i64 a3] 24 (0,0))):=⟨by (repeat with_reducible first|apply zD|apply zF|apply zC);refine zP (cs:=#[.int .i64 a2,.int .i64 0]) ?_ 1 _ rfl;(repeat with_reducible first|apply zD|apply zF|apply zC);refine zP (cs:=#[.int .i64 0,.int .i64 0]) ?_ 0 _ rfl;(repeat with_reducible first|apply zD|apply zF|apply zC);exact y.out⟩
     have n5_:zA (Below w.heap.size w ((w43.setCell ⟨s,0,none⟩ (.int .i64 a2)).setCell ⟨s,1,none⟩ (.int .i64 a3))):=⟨bA⟩
     (try clear d)
     (try clear m)
     (try clear q)
     (try clear l)
     (try clear y)
     (try clear HB)
     generalize ((w43.setCell ⟨s,0,none⟩ (.int .i64 a2)).setCell ⟨s,1,none⟩ (.int .i64 a3))=w46 at n0_ n1_ n2_ n3_ n4_ n5_ ⊢
     have d:=n0_
     have m:=n1_
     have q:=n2_
     have l:=n3_
     have y:=n4_
     have HB:=n5_
     clear n0_ n1_ n2_ n3_ n4_ n5_
     have ix:=a0.out
     have iy:=aw.out
     have iz:=ay.out
     have i0:=ao.out
     have i1:=a1.out
     have i2:=ax.out
     obtain ⟨_,_,_,_⟩:=xC2 y.out
     have p35:0≤((rd l1 a):Int):=dA
     have q35:((rd l1 a):Int) < ((b.length:Int):Int):=dA
     obtain ⟨go35,jl,eh,ei,gl35,cl35,ej⟩:=Kd.zFB d.out (by omega)
     (first|cases eh|(injection eh with ea_ en_ ec_;(first|subst ea_|(injection ea_ with ea_;subst ea_));subst ec_;clear en_))
     have GB35:=zA.mk ei
     have GG35:=zA.mk ej
     clear ei gl35 ej
     (first|simp only [add_plain] at dj|skip)
     (first|simp only [add_plain] at dk|skip)
     (first|simp only [add_plain] at dl|skip)
     (first|simp only [add_plain] at dm|skip)
     (first|simp only [add_plain] at b3|skip)
     (first|simp only [add_plain] at b4|skip)
     (first|simp only [add_plain] at b5|skip)
     (first|simp only [add_plain] at b6|skip)
     (first|simp only [add_plain] at b7|skip)
     (first|simp only [add_plain] at b8|skip)
     (first|simp only [add_plain] at b9|skip)
     (first|simp only [add_plain] at ca|skip)
     (first|simp only [add_plain] at cb|skip)
     (first|simp only [add_plain] at cc|skip)
     (first|simp only [add_plain] at cd|skip)
     (first|simp only [add_plain] at ce|skip)
     obtain ⟨ce35,ey,hM35,c3,c6⟩:=Kd.R_elem d.out z50 ((rd l1 a):Int) p35 q35
     obtain rfl:=zEN hM35
     have g0:w46.cell? ⟨go35,((rd l1 a):Int).toNat*4,none⟩=some (.int .i64 ((zG b (rd l1 a)).f0.f0)):=c3 0 _ rfl
     have g1:w46.cell? ⟨go35,((rd l1 a):Int).toNat*4+1,none⟩=some (.int .i64 ((zG b (rd l1 a)).f0.f1)):=c3 1 _ rfl
     have g2:w46.cell? ⟨go35,((rd l1 a):Int).toNat*4+2,none⟩=some (.int .i64 ((zG b (rd l1 a)).f1)):=c3 2 _ rfl
     have g3:w46.cell? ⟨go35,((rd l1 a):Int).toNat*4+3,none⟩=some (.int .i64 ((zG b (rd l1 a)).f2)):=c3 3 _ rfl
     have g4:w46.frozen? ⟨go35,((rd l1 a):Int).toNat*4,none⟩=false:=c6 0
     have g5:w46.frozen? ⟨go35,((rd l1 a):Int).toNat*4+1,none⟩=false:=c6 1
     have g6:w46.frozen? ⟨go35,((rd l1 a):Int).toNat*4+2,none⟩=false:=c6 2
     have g7:w46.frozen? ⟨go35,((rd l1 a):Int).toNat*4+3,none⟩=false:=c6 3
     clear ey c3 c6 hM35
     replace p35:=eq_true p35
     replace q35:=eq_true q35
     have ek:=zA.mk (show Kd.R k50 50 w46 w.heap.size (fun _=>True) (.slice (some ⟨go35,0,none⟩) b.length cf) b from (rS d.out))
     obtain ⟨ce51,d5,hM51,dc,dy⟩:=Kd.R_elem ek.out z50 ((rd l1 a):Int) (dA) (by have h_:((rd l1 a):Int) < ((b.length:Int):Int):=dA;first|exact h_|(have e_:=(Kd.zJ d.out).1;omega)|simpa using h_)
     obtain rfl:=zEN hM51
     have d2:=Kd.R_seg ek.out ((rd l1 a):Int) (dA) (by have h_:((rd l1 a):Int) < ((b.length:Int):Int):=dA;first|exact h_|(have e_:=(Kd.zJ d.out).1;omega)|simpa using h_) (seg:=[.int .i64 a2,.int .i64 a3]) (j:=0) d5 dc (show 2≤4 from by decide) (x':=(⟨(⟨a2,a3⟩:S24),(zG b (rd l1 a)).f1,(zG b (rd l1 a)).f2⟩:S50)) (zDe _ _ _ (⟨(⟨a2,a3⟩:S24),(zG b (rd l1 a)).f1,(zG b (rd l1 a)).f2⟩:S50) ) (fun _ hk=>hk)
     have el:=dc 0 _ rfl
     (try simp only [show (k50).sz=4 from rfl,Nat.mul_one,Nat.add_zero] at el)
     have em:=dy 0
     (try simp only [show (k50).sz=4 from rfl,Nat.mul_one,Nat.add_zero] at em)
     have en:=dc 1 _ rfl
     (try simp only [show (k50).sz=4 from rfl,Nat.mul_one,Nat.add_zero] at en)
     have eo:=dy 1
     (try simp only [show (k50).sz=4 from rfl,Nat.mul_one,Nat.add_zero] at eo)
     clear d5 dc dy hM51
     try go_wp2_with (first|((with_reducible refine zEz (t:=24) (p:=84) rfl ?_);refine zEw (t:=24) (p:=84) (v:=?vo_w52) (w1:=((w46.setCell ⟨go35,((rd l1 a):Int).toNat*4,none⟩ (.int .i64 a2)).setCell ⟨go35,((rd l1 a):Int).toNat*4+1,none⟩ (.int .i64 a3))) ?hg ?ho ?hn ?hr ?_;(case ho=>rfl);(case hg=>rfl);(case hn=>rfl);(case hr=>first|(go_simp;done)|(go_simp;rfl));intro w52 hw;have hg:w46.grownBy w52 (some go35):=(by rw [hw];exact d2.2);have hp_:Kd.R k50 50 w52 w.heap.size (fun _=>True) (.slice (some ⟨go35,0,none⟩) b.length cf) d1:=(by rw [hw,ew.out];exact d2.1);clear d2;replace m:=qK (zA0 (g:=aa) (o:=.cells #[.slice a5 ar.length a6,.int .i64 ac,.int .i64 ad] 26 (0,0)) (bX m.out) hg (Kd.zA6 d.out m.out (by decide)));replace q:=qK (zA0 (g:=ab) (o:=.cells #[.slice none 0 0,.int .i64 am,.int .i64 ai] 26 (0,0)) (bX q.out) hg (Kd.zA6 d.out q.out (by decide)));replace l:=qK (zA0 (g:=u) (o:=.cells #[.slice (some ⟨go35,0,none⟩) b.length cf,.int .i64 ac,.int .i64 ad] 26 (0,0)) (bX l.out) hg (Kd.zA6 d.out l.out (by decide)));replace y:=qK (zA0 (g:=s) (o:=.cells #[.int .i64 a2,.int .i64 a3] 24 (0,0)) (bX y.out) hg (Kd.zA6 d.out y.out (by decide)));replace d:=qK (hp_);replace HB:=qK ((by rw [hw];exact zBO (zBO (HB.out) GB35.out) GB35.out:Below w.heap.size w w52));clear hg hw hp_))
     go_roundg k2
     case measure=>have:=HJ5.out;have:=HK2.out;omega
     case rel=>exact ⟨(wrap64 (a+1)),(am),(ai),(d1),(.slice (some ⟨go35,0,none⟩) b.length cf),sA,H',⟨by have:=HJ5.out;have:=HK2.out;omega⟩,⟨by (with_reducible repeat (first|apply Kd.zAp|apply Kd.zAn|apply Kd.zAv));exact d.out⟩,⟨by (repeat with_reducible first|apply zD|apply zF|apply zC);exact m.out⟩,⟨by (repeat with_reducible first|apply zD|apply zF|apply zC);exact q.out⟩,⟨by (repeat with_reducible first|apply zD|apply zF|apply zC);exact l.out⟩,⟨bA⟩⟩
end Go.Proofs.Ythimaecnpkcmeaa.K
