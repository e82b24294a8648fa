/- Contracts of Go functions and lemmas for them: each theorem states what one function returns and what it leaves of memory; its conditions stand in its statement. -/
import Derived.ChangeSame
import Derived.Deep.Slices
import Derived.Deep.Strs
import Derived.Test.YthimaecnpkcmeaaB10
import Derived.Test.YthimaecnpkcmeaaB11
import Derived.Test.YthimaecnpkcmeaaB12
import Derived.Test.YthimaecnpkcmeaaB13
import Derived.Test.YthimaecnpkcmeaaB14
import Derived.Test.YthimaecnpkcmeaaB15
import Derived.Test.YthimaecnpkcmeaaB16
import Derived.Test.YthimaecnpkcmeaaB17
import Derived.Test.YthimaecnpkcmeaaB3
import Derived.Test.YthimaecnpkcmeaaB4
import Derived.Test.YthimaecnpkcmeaaB5
import Derived.Test.YthimaecnpkcmeaaB6
import Derived.Test.YthimaecnpkcmeaaB7
import Derived.Test.YthimaecnpkcmeaaB8
import Derived.Test.YthimaecnpkcmeaaB9
set_option linter.unusedVariables false
set_option linter.unusedSimpArgs false
namespace Go.Proofs.Ythimaecnpkcmeaa.K
open Go.RowKit Go.Proofs.YthimaecnpkcmeaaW.PrintWords Go.Proofs.YthimaecnpkcmeaaW.PrintLast Go.Proofs.YthimaecnpkcmeaaW.PrintMore
attribute [local go_sem] zAX zAW zAg zAf zAF zAG zAU zAV   -- for this text's walks alone
set_option linter.unusedVariables false
set_option linter.unusedSimpArgs false
def zb.l0:Nat→Int→List (S50)→Int→Int→Int→Int→Option (Int × Int)
 | 0,_,_,_,_,_,_=>none
 | k+1,x4,a,d,e,b,c=>if x4 < (a.length:Int) then (if 0≤x4 then (zb.l0 k (wrap64 (x4+1)) a d e (wrap64 (b+((zG a x4).f0.f0))) (wrap64 (c+((zG a x4).f0.f1)))) else (none)) else (some (b,c))
def zb.f (k:Nat) (a:List (S50)) (b:Int) (c:Int):Option (Int × Int):=zb.l0 k 0 a b c 0 0
def zb.T5:Bool × List (List Nat × List Nat):=(true,[([],[]),([0],[0]),([],[]),([2],[2]),([],[]),([3,4],[3,4]),([5],[5]),([6],[6]),([7],[7]),([1,8],[1,8]),([0,1,2,3,4,5,6,7,8,9],[]),([10,9,0,1,2,3,4,5,6,7,8,9],[9,10])])
def zb.B5:List Nat:=[0,1,0,4,0,28,60,124,252,511,1023,2047]
theorem zb.tab5:zBQ .any (opsOf Try.f46 5)=zb.T5:=by kernel_rfl
theorem zb.bits5:zBA zb.T5.2 zb.B5=true:=by kernel_rfl
def zb.T6:Bool × List (List Nat × List Nat):=(true,[([],[]),([0],[0]),([],[]),([2],[2]),([],[]),([3,4],[3,4]),([5],[5]),([6],[6]),([7],[7]),([1,8],[1,8]),([0,1,2,3,4,5,6,7,8,9],[]),([10,9,0,1,2,3,4,5,6,7,8,9],[9,10])])
def zb.B6:List Nat:=[0,1,0,4,0,28,60,124,252,511,1023,2047]
theorem zb.tab6:zBQ .any (opsOf Try.f46 6)=zb.T6:=by kernel_rfl
theorem zb.bits6:zBA zb.T6.2 zb.B6=true:=by kernel_rfl
set_option maxHeartbeats 8000000 in
set_option maxRecDepth 100000 in
theorem zb.calls (k:Nat) (am:Option Addr) (aj:Nat) (d:List (S50)) (x:Int) (y:Int) (r1:Int) (r2:Int) (w:World) (ar:Kd.C k50 w am d.length d) (au:d.length≤aj) (h:zb.f k d x y=some (r1,r2)) :
 Calls Try.prog 46 #[.agg #[.slice am d.length aj,.int .i64 x,.int .i64 y]] w fun e w'=>e= .returned (.agg #[.int .i64 r1,.int .i64 r2])∧Below w.heap.size w w':=by
 have b1:=Try.underlying26
 have b2:=Try.underlying24
 have av:=zA.mk ar
 have HC0_0:=zA.mk au
 clear ar au
 have HB:=zA.mk (Below.refl w.heap.size w)
 have H:(zb.l0 k 0 d x y 0 0)=some (r1,r2):=h
 clear h
 have H':=zA.mk H
 clear H
 go_enter Try.func46,Try.ntmps46
 go_wp2_with (first|((with_reducible refine zL (N:=1) rfl ?_);refine bE #[.slice am d.length aj,.int .i64 x,.int .i64 y] 26 ?_;intro r hg w2 aa hb;have c:=qK (aa);have bi:=qK (gS hg:w.heap.size≤r);have bj:=qK (gS hg:w.heap.size≤r);replace HB:=hQ hb;clear hb aa hg)|((with_reducible refine zL (N:=2) rfl ?_);refine bE #[.int .i64 0,.int .i64 0] 24 ?_;intro t hg w3 aa hb;have m:=qK (aa);have bk:=qK (gS hg:w.heap.size≤t);have bl:=qK (gS hg:w.heap.size≤t);replace HB:=hQ hb;have ak:=qK (nL hg c.out:r≠t);have al:=qK (nG hg c.out:t≠r);replace c:=bQ c hb;clear hb aa hg)|((with_reducible refine zL (N:=3) rfl ?_);refine bE #[.int .i64 0,.int .i64 0] 24 ?_;intro l hg w4 aa hb;have g:=qK (aa);have bm:=qK (gS hg:w.heap.size≤l);have bn:=qK (gS hg:w.heap.size≤l);replace HB:=hQ hb;have p:=qK (nL hg c.out:r≠l);have s:=qK (nG hg c.out:l≠r);replace c:=bQ c hb;have q:=qK (nL hg m.out:t≠l);have v:=qK (nG hg m.out:l≠t);replace m:=bQ m hb;clear hb aa hg;have b3:=s.out;have b4:=p.out;have b5:=v.out;have b6:=q.out;obtain ⟨a4,a5,a6,a7⟩:=xC2 g.out))
 go_loopg [4] k (fun kq v4 w'=>∃ (a:Int) (b:Int) (j:Int),v4= .int .i64 a∧zA (zb.l0 kq a d x y b j=some (r1,r2))∧zA (kq≤k)∧zA (w'.heap[r]? = some (.cells #[(.slice am d.length aj),.int .i64 x,.int .i64 y] 26 (0,0)))∧zA (w'.heap[t]? = some (.cells #[.int .i64 0,.int .i64 0] 24 (0,0)))∧zA (w'.heap[l]? = some (.cells #[.int .i64 b,.int .i64 j] 24 (0,0)))∧zA (Below w.heap.size w w'))
 case atStart=>exact ⟨(0),(0),(0),sA,H',⟨Nat.le_refl _⟩,⟨by (repeat with_reducible first|apply zD|apply zF|apply zC);refine zO ?_ p.out _;(repeat with_reducible first|apply zD|apply zF|apply zC);refine zO ?_ p.out _;(repeat with_reducible first|apply zD|apply zF|apply zC);exact c.out⟩,⟨by (repeat with_reducible first|apply zD|apply zF|apply zC);refine zO ?_ q.out _;(repeat with_reducible first|apply zD|apply zF|apply zC);refine zO ?_ q.out _;(repeat with_reducible first|apply zD|apply zF|apply zC);exact m.out⟩,⟨by (repeat with_reducible first|apply zD|apply zF|apply zC);refine zP (cs:=#[.int .i64 0,.int .i64 0]) ?_ 1 _ rfl;(repeat with_reducible first|apply zD|apply zF|apply zC);refine zP (cs:=#[.int .i64 0,.int .i64 0]) ?_ 0 _ rfl;(repeat with_reducible first|apply zD|apply zF|apply zC);exact g.out⟩,⟨bA⟩⟩
 case round =>
  clear H'
  try clear p2
  try clear c4
  try clear c5
  try clear c6
  try clear a4
  try clear a5
  try clear a6
  try clear a7
  obtain ⟨a,b,j,rfl,HA,HK1,c,m,g,HB⟩:=hrel
  cases gk with
  | zero=>exact absurd HA.out (by simp [zb.l0])
  | succ k1 =>
   have H:=HA.out
   clear HA
   simp only [zb.l0] at H
   by_cases c8:a < (d.length:Int)
   rotate_left
   ·rw [if_neg c8] at H
    have a9:decide (a < (d.length:Int))=false:=decide_eq_false c8
    clear c8
    simp only [Option.some.injEq,Prod.mk.injEq] at H
    obtain ⟨rfl,rfl⟩:=H
    have bo:=ak.out
    have bp:=al.out
    have bq:=p.out
    have br:=s.out
    obtain ⟨_,_,_,_,_,_⟩:=xC3 c.out
    have bs:=v.out
    have bt:=q.out
    obtain ⟨_,_,_,_⟩:=xC2 g.out
    obtain ⟨_,_,_,_⟩:=xC2 m.out
    go_wp2
    refine bodyPost_ret (results_cell_row rfl _ _ t 24 #[.int .i64 b,.int .i64 j] (0,0) _ rfl (by (repeat with_reducible first|apply zD|apply zF|apply zC);refine zP (cs:=#[.int .i64 b,.int .i64 0]) ?_ 1 _ rfl;(repeat with_reducible first|apply zD|apply zF|apply zC);refine zP (cs:=#[.int .i64 0,.int .i64 0]) ?_ 0 _ rfl;(repeat with_reducible first|apply zD|apply zF|apply zC);exact m.out) Try.underlying24 rfl (by kernel_rfl)) rfl ?_
    exact ⟨eA,bA⟩
   rw [if_pos c8] at H
   have a9:decide (a < (d.length:Int))=true:=decide_eq_true c8
   clear c8
   by_cases c9:0≤a
   rotate_left
   ·rw [if_neg c9] at H
    exact absurd H (by simp)
   rw [if_pos c9] at H
   have b7:decide (0≤a)=true:=decide_eq_true c9
   clear c9
   have H':=zA.mk H
   clear H
   have bu:=ak.out
   have bv:=al.out
   have bw:=p.out
   have bx:=s.out
   obtain ⟨_,_,_,_,_,_⟩:=xC3 c.out
   try go_wp2
   replace c:=qK (zF c.out)
   replace m:=qK (zF m.out)
   replace g:=qK (zF g.out)
   replace HB:=qK (zx HB.out)
   have an:0≤(a:Int):=dA
   have ao:a < (d.length:Int):=dA
   obtain ⟨o,e473,ab,ac,ad,ae⟩:=zA9 av.out a an ao
   have aw:=ae
   have ax:=ad
   have ay:=ac
   have az:=ab
   cases e473
   replace ab:=hC HB.out ab
   replace ac:=hC HB.out ac
   replace ad:=hC HB.out ad
   replace ae:=hC HB.out ae
   replace an:=eq_true an
   replace ao:=eq_true ao
   refine zBH (n:=12) (S:=fun w'=>w'.cell? ⟨l,0,none⟩=some (.int .i64 b)∧w'.cell? ⟨l,1,none⟩=some (.int .i64 j)∧w'.cell? ⟨r,0,none⟩=some (.slice (some o) d.length aj)∧w'.cell? ⟨r,1,none⟩=some (.int .i64 x)∧w'.cell? ⟨r,2,none⟩=some (.int .i64 y)∧w'.cell? (o.add ((a).toNat*4))=some (.int .i64 ((zG d a).f0.f0))∧w'.cell? ⟨(o.add ((a).toNat*4)).block,(o.add ((a).toNat*4)).off+1,none⟩=some (.int .i64 ((zG d a).f0.f1))∧w'.cell? ⟨(o.add ((a).toNat*4)).block,(o.add ((a).toNat*4)).off+2,none⟩=some (.int .i64 ((zG d a).f1))∧w'.cell? ⟨(o.add ((a).toNat*4)).block,(o.add ((a).toNat*4)).off+3,none⟩=some (.int .i64 ((zG d a).f2))) (ds:=[11]) #[false,false,false,false,false,false,false,false,false,false,false,false] (by kernel_rfl) rfl rfl ⟨(zB g.out 0).trans rfl,(zB g.out 1).trans rfl,(zB c.out 0).trans rfl,(zB c.out 1).trans rfl,(zB c.out 2).trans rfl,(hC HB.out az),(hC HB.out ay),(hC HB.out ax),(hC HB.out aw)⟩ (fun u=>?_);refine zAj zb.tab5 zb.bits5 (fun HT_ HW_=>?_)
   generalize wr.drew=w13 at c m g HB ab ac ad ae u ⊢
   refine pP 0 (some 13) HT_ ?_
   refine pP 2 (some 15) HT_ ?_
   refine pP 4 (some 17) HT_ ?_
   refine tP 1 (some 14) HT_ HW_ u ?_
   refine tP 3 (some 16) HT_ HW_ u ?_
   refine pP 5 (some 18) HT_ ?_
   refine pP 6 (some 19) HT_ ?_
   refine pP 7 (some 20) HT_ ?_
   refine tP 8 (some 21) HT_ HW_ u ?_
   refine pP 9 (some 22) HT_ ?_
   refine pP 10 (some 23) HT_ ?_
   refine last_ (i:=11) (N:=none) #[true,true,true,true,true,true,true,true,true,true,true,true] rfl rfl (zDj HT_.out (by kernel_rfl)) (by decide) (fun K hK=>?_)
   have b8:w13.cell? ⟨l,0,none⟩=some (.int .i64 b):=(zB g.out 0).trans rfl
   have bz:=zW g.out 0
   have ba:=p.out
   have bb:=q.out
   have bc:=s.out
   have bd:=v.out
   refine zB0 (w1:=?_) (by rfl) rfl ?_ ?_
   rotate_left
   ·go_simp
    rfl
   refine hK.out _ _ ?_
   clear hK K
   refine zBZ (zA8 HT_.out (by kernel_rfl)) ?_
   try go_wp2
   have n0_:zA ((w13.setCell ⟨l,0,none⟩ (.int .i64 (wrap64 (b+((zG d a).f0.f0))))).heap[r]? = some (.cells #[.slice (some o) d.length aj,.int .i64 x,.int .i64 y] 26 (0,0))):=⟨by (repeat with_reducible first|apply zD|apply zF|apply zC);refine zO ?_ p.out _;(repeat with_reducible first|apply zD|apply zF|apply zC);exact c.out⟩
   have n1_:zA ((w13.setCell ⟨l,0,none⟩ (.int .i64 (wrap64 (b+((zG d a).f0.f0))))).heap[t]? = some (.cells #[.int .i64 0,.int .i64 0] 24 (0,0))):=⟨by (repeat with_reducible first|apply zD|apply zF|apply zC);refine zO ?_ q.out _;(repeat with_reducible first|apply zD|apply zF|apply zC);exact m.out⟩
   have n2_:zA ((w13.setCell ⟨l,0,none⟩ (.int .i64 (wrap64 (b+((zG d a).f0.f0))))).heap[l]? = some (.cells #[.int .i64 (wrap64 (b+((zG d a).f0.f0))),.int .i64 j] 24 (0,0))):=⟨by (repeat with_reducible first|apply zD|apply zF|apply zC);refine zP (cs:=#[.int .i64 b,.int .i64 j]) ?_ 0 _ rfl;(repeat with_reducible first|apply zD|apply zF|apply zC);exact g.out⟩
   have n3_:zA (Below w.heap.size w (w13.setCell ⟨l,0,none⟩ (.int .i64 (wrap64 (b+((zG d a).f0.f0)))))):=⟨bA⟩
   (try clear c)
   (try clear m)
   (try clear g)
   (try clear HB)
   generalize (w13.setCell ⟨l,0,none⟩ (.int .i64 (wrap64 (b+((zG d a).f0.f0)))))=w15 at n0_ n1_ n2_ n3_ ⊢
   have c:=n0_
   have m:=n1_
   have g:=n2_
   have HB:=n3_
   clear n0_ n1_ n2_ n3_
   replace c:=qK (zF c.out)
   replace m:=qK (zF m.out)
   replace g:=qK (zF g.out)
   replace HB:=qK (zx HB.out)
   have ap:0≤(a:Int):=dA
   have aq:a < (d.length:Int):=dA
   obtain ⟨a8,e474,af,ag,ah,ai⟩:=zA9 av.out a ap aq
   have a0:=ai
   have a1:=ah
   have a2:=ag
   have a3:=af
   obtain rfl:o=a8:=(by injection e474)
   replace af:=hC HB.out af
   replace ag:=hC HB.out ag
   replace ah:=hC HB.out ah
   replace ai:=hC HB.out ai
   replace ap:=eq_true ap
   replace aq:=eq_true aq
   refine zBH (n:=12) (S:=fun w'=>w'.cell? ⟨l,0,none⟩=some (.int .i64 (wrap64 (b+((zG d a).f0.f0))))∧w'.cell? ⟨l,1,none⟩=some (.int .i64 j)∧w'.cell? ⟨r,0,none⟩=some (.slice (some o) d.length aj)∧w'.cell? ⟨r,1,none⟩=some (.int .i64 x)∧w'.cell? ⟨r,2,none⟩=some (.int .i64 y)∧w'.cell? (o.add ((a).toNat*4))=some (.int .i64 ((zG d a).f0.f0))∧w'.cell? ⟨(o.add ((a).toNat*4)).block,(o.add ((a).toNat*4)).off+1,none⟩=some (.int .i64 ((zG d a).f0.f1))∧w'.cell? ⟨(o.add ((a).toNat*4)).block,(o.add ((a).toNat*4)).off+2,none⟩=some (.int .i64 ((zG d a).f1))∧w'.cell? ⟨(o.add ((a).toNat*4)).block,(o.add ((a).toNat*4)).off+3,none⟩=some (.int .i64 ((zG d a).f2))) (ds:=[11]) #[false,false,false,false,false,false,false,false,false,false,false,false] (by kernel_rfl) rfl rfl ⟨(zB g.out 0).trans rfl,(zB g.out 1).trans rfl,(zB c.out 0).trans rfl,(zB c.out 1).trans rfl,(zB c.out 2).trans rfl,(hC HB.out a3),(hC HB.out a2),(hC HB.out a1),(hC HB.out a0)⟩ (fun u=>?_);refine zAj zb.tab6 zb.bits6 (fun HT_ HW_=>?_)
   generalize w15.drew=w16 at c m g HB af ag ah ai u ⊢
   refine pP 0 (some 24) HT_ ?_
   refine pP 2 (some 26) HT_ ?_
   refine pP 4 (some 28) HT_ ?_
   refine tP 1 (some 25) HT_ HW_ u ?_
   refine tP 3 (some 27) HT_ HW_ u ?_
   refine pP 5 (some 29) HT_ ?_
   refine pP 6 (some 30) HT_ ?_
   refine pP 7 (some 31) HT_ ?_
   refine tP 8 (some 32) HT_ HW_ u ?_
   refine pP 9 (some 33) HT_ ?_
   refine pP 10 (some 34) HT_ ?_
   refine last_ (i:=11) (N:=none) #[true,true,true,true,true,true,true,true,true,true,true,true] rfl rfl (zDj HT_.out (by kernel_rfl)) (by decide) (fun K hK=>?_)
   have b9:w16.cell? ⟨l,1,none⟩=some (.int .i64 j):=(zB g.out 1).trans rfl
   have b0:=zW g.out 1
   have be:=p.out
   have bf:=q.out
   have bg:=s.out
   have bh:=v.out
   refine zB0 (w1:=?_) (by rfl) rfl ?_ ?_
   rotate_left
   ·go_simp
    rfl
   refine hK.out _ _ ?_
   clear hK K
   refine zBZ (zA8 HT_.out (by kernel_rfl)) ?_
   try go_wp2
   go_roundg k1
   case measure=>have:=HK1.out;omega
   case rel=>exact ⟨(wrap64 (a+1)),(wrap64 (b+((zG d a).f0.f0))),(wrap64 (j+((zG d a).f0.f1))),sA,H',⟨by have:=HK1.out;omega⟩,⟨by (repeat with_reducible first|apply zD|apply zF|apply zC);refine zO ?_ p.out _;(repeat with_reducible first|apply zD|apply zF|apply zC);exact c.out⟩,⟨by (repeat with_reducible first|apply zD|apply zF|apply zC);refine zO ?_ q.out _;(repeat with_reducible first|apply zD|apply zF|apply zC);exact m.out⟩,⟨by (repeat with_reducible first|apply zD|apply zF|apply zC);refine zP (cs:=#[.int .i64 (wrap64 (b+((zG d a).f0.f0))),.int .i64 j]) ?_ 1 _ rfl;(repeat with_reducible first|apply zD|apply zF|apply zC);exact g.out⟩,⟨bA⟩⟩
end Go.Proofs.Ythimaecnpkcmeaa.K
namespace Go.Proofs.Ythimaecnpkcmeaa.K
open Go.RowKit Go.Proofs.YthimaecnpkcmeaaW.PrintWords Go.Proofs.YthimaecnpkcmeaaW.PrintLast Go.Proofs.YthimaecnpkcmeaaW.PrintMore
attribute [local go_sem] zAX zAW zAg zAf zAF zAG zAU zAV   -- for this text's walks alone
set_option linter.unusedVariables false
set_option linter.unusedSimpArgs false
mutual
def zZ.j0:Nat→Bool→List (S50)→Int→Int→Option (Bool)
 | 0,_,_,_,_=>none
 | k+1,x36,a,b,c=>if x36=true then (some false) else (zZ.l0 k 0 a b c)
def zZ.l0:Nat→Int→List (S50)→Int→Int→Option (Bool)
 | 0,_,_,_,_=>none
 | k+1,x3,a,b,c=>if x3 < (a.length:Int) then (if 0≤x3 then (if ((zG a x3).f0.f0) < 0 then (some false) else (if ((zG a x3).f0.f0) > ((zG a x3).f0.f1) then (some false) else (if ((zG a x3).f0.f1) > 1073741824 then (some false) else (if ((zG a x3).f1) < 0 then (some false) else (if ((zG a x3).f1) > 10000 then (some false) else (if ((zG a x3).f2) < 0 then (some false) else (if ((zG a x3).f2) > 1048576 then (some false) else (zZ.l0 k (wrap64 (x3+1)) a b c)))))))) else (none)) else ((zb.f k a b c).bind fun d=>(if d.1≤c then (some (decide (d.2≥b))) else (some false)))
end
def zZ.f (k:Nat) (a:List (S50)) (b:Int) (c:Int):Option (Bool):=if (a.length:Int) < 1 then (zZ.j0 k true a b c) else (if (a.length:Int) > 12 then (zZ.j0 k true a b c) else (if b < 0 then (zZ.j0 k true a b c) else (if b > c then (zZ.j0 k true a b c) else (zZ.j0 k (decide (c > 17179869184)) a b c))))
set_option maxHeartbeats 8000000 in
set_option maxRecDepth 100000 in
theorem zZ.calls (k:Nat) (af:Option Addr) (ag:Nat) (b:List (S50)) (u:Int) (t:Int) (r:Bool) (w:World) (bn:Kd.C k50 w af b.length b) (bo:b.length≤ag) (h:zZ.f k b u t=some r) :
 Calls Try.prog 10 #[.agg #[.slice af b.length ag,.int .i64 u,.int .i64 t]] w fun e w'=>e= .returned (.bool r)∧Below w.heap.size w w':=by
 have co:=Try.underlying26
 have cp:=Try.underlying50
 have cq:=Try.underlying24
 have x:=zA.mk bn
 have HC0_0:=zA.mk bo
 clear bn bo
 have HB:=zA.mk (Below.refl w.heap.size w)
 have H:(if (b.length:Int) < 1 then (zZ.j0 k true b u t) else (if (b.length:Int) > 12 then (zZ.j0 k true b u t) else (if u < 0 then (zZ.j0 k true b u t) else (if u > t then (zZ.j0 k true b u t) else (zZ.j0 k (decide (t > 17179869184)) b u t)))))=some r:=h
 clear h
 have HC2:=zA.mk H
 clear H
 go_enter Try.func10,Try.ntmps10
 go_upto_region 1 with (first|((with_reducible refine zL (N:=1) rfl ?_);(try (refine zAD (by rfl) ?_;dsimp only));refine bE #[.slice af b.length ag,.int .i64 u,.int .i64 t] 26 ?_;intro s hg w3 o hb;have a:=qK (o);have b1:=qK (gS hg:w.heap.size≤s);have b2:=qK (gS hg:w.heap.size≤s);replace HB:=hQ hb;clear hb o hg))
 (try simp only [Act.put,List.setIfInBounds_toArray,List.set_cons_zero,List.set_cons_succ])
 go_cut [36] (fun v36 wc=>∃ (kq:Nat) (aj:Bool),v36= .bool aj∧zA (zZ.j0 kq aj b u t=some r)∧zA (kq≤k)∧zA (wc.heap[s]? = some (.cells #[(.slice af b.length ag),.int .i64 u,.int .i64 t] 26 (0,0)))∧zA (Below w.heap.size w wc))
 case first =>
  have H:=HC2.out
  clear HC2
  by_cases c4:(b.length:Int) < 1
  ·rw [if_pos c4] at H
   have ah:decide ((b.length:Int) < 1)=true:=decide_eq_true c4
   have bi:decide (b.length < 1)=true:=decide_eq_true (by omega)
   clear c4
   (first|rw [ah]|(simp only [zBS,zBg];rw [ah])|skip)
   have H':=zA.mk H
   clear H
   obtain ⟨a0,a1,a2,a3,a4,a5⟩:=xC3 a.out
   go_wp2
   go_meet
   case rel=>exact ⟨_,(true),sA,H',⟨by first|omega|exact Nat.le_refl _⟩,⟨by (repeat with_reducible first|apply zD|apply zF|apply zC);exact a.out⟩,⟨bA⟩⟩
  rw [if_neg c4] at H
  have ah:decide ((b.length:Int) < 1)=false:=decide_eq_false c4
  have bi:decide (b.length < 1)=false:=decide_eq_false (by omega)
  clear c4
  (first|rw [ah]|(simp only [zBS,zBg];rw [ah])|skip)
  by_cases c6:(b.length:Int) > 12
  ·rw [if_pos c6] at H
   have bj:decide (12 < (b.length:Int))=true:=decide_eq_true c6
   have bk:decide (12 < b.length)=true:=decide_eq_true (by omega)
   clear c6
   have H':=zA.mk H
   clear H
   obtain ⟨a6,a7,a8,a9,ba,bb⟩:=xC3 a.out
   go_wp2
   go_meet
   case rel=>exact ⟨_,(true),sA,H',⟨by first|omega|exact Nat.le_refl _⟩,⟨by (repeat with_reducible first|apply zD|apply zF|apply zC);exact a.out⟩,⟨bA⟩⟩
  rw [if_neg c6] at H
  have bj:decide (12 < (b.length:Int))=false:=decide_eq_false c6
  have bk:decide (12 < b.length)=false:=decide_eq_false (by omega)
  clear c6
  by_cases c8:u < 0
  ·rw [if_pos c8] at H
   have bl:decide (u < 0)=true:=decide_eq_true c8
   clear c8
   have H':=zA.mk H
   clear H
   obtain ⟨bc,bd,be,bf,bg,bh⟩:=xC3 a.out
   go_wp2
   go_meet
   case rel=>exact ⟨_,(true),sA,H',⟨by first|omega|exact Nat.le_refl _⟩,⟨by (repeat with_reducible first|apply zD|apply zF|apply zC);exact a.out⟩,⟨bA⟩⟩
  rw [if_neg c8] at H
  have bl:decide (u < 0)=false:=decide_eq_false c8
  clear c8
  by_cases c10:u > t
  ·rw [if_pos c10] at H
   have ay:decide (t < u)=true:=decide_eq_true c10
   clear c10
   have H':=zA.mk H
   clear H
   obtain ⟨ak,al,am,an,ao,ap⟩:=xC3 a.out
   go_wp2
   go_meet
   case rel=>exact ⟨_,(true),sA,H',⟨by first|omega|exact Nat.le_refl _⟩,⟨by (repeat with_reducible first|apply zD|apply zF|apply zC);exact a.out⟩,⟨bA⟩⟩
  rw [if_neg c10] at H
  have ay:decide (t < u)=false:=decide_eq_false c10
  clear c10
  have H':=zA.mk H
  clear H
  obtain ⟨aq,ar,au,av,aw,ax⟩:=xC3 a.out
  go_wp2
  go_meet
  case rel=>exact ⟨_,(decide (t > 17179869184)),sA,H',⟨by first|omega|exact Nat.le_refl _⟩,⟨by (repeat with_reducible first|apply zD|apply zF|apply zC);exact a.out⟩,⟨bA⟩⟩
 case rest =>
  clear HC2
  try clear c1
  try clear p2
  try clear c4
  try clear ah
  try clear bi
  try clear c6
  try clear bj
  try clear bk
  try clear c8
  try clear bl
  try clear c10
  try clear ay
  try clear ak
  try clear al
  try clear am
  try clear aq
  try clear ar
  try clear au
  try clear a0
  try clear a1
  try clear a2
  try clear a6
  try clear a7
  try clear a8
  try clear bc
  try clear bd
  try clear be
  try clear an
  try clear ao
  try clear ap
  try clear av
  try clear aw
  try clear ax
  try clear a3
  try clear a4
  try clear a5
  try clear a9
  try clear ba
  try clear bb
  try clear bf
  try clear bg
  try clear bh
  obtain ⟨kq,aj,rfl,HA,HJ1,a,HB⟩:=hcut
  cases kq with
  | zero=>exact absurd HA.out (by simp [zZ.j0])
  | succ kj1 =>
   have H:=HA.out
   clear HA
   simp only [zZ.j0] at H
   by_cases c13:aj=true
   ·subst c13
    have H1:(some false)=some r:=by rw [if_pos rfl] at H;exact H
    clear H
    have H:=H1
    clear H1
    obtain rfl:=Option.some.inj H
    go_wp2
    go_ret
    exact ⟨eA,bA⟩
   replace c13:=Bool.eq_false_iff.mpr c13
   subst c13
   have H1:(zZ.l0 kj1 0 b u t)=some r:=by rw [if_neg (show ¬ (false=true) by decide)] at H;exact H
   clear H
   have H:=H1
   clear H1
   have H':=zA.mk H
   clear H
   go_wp2
   go_loopg [3] kj1 (fun kq v3 w'=>∃ (c:Int),v3= .int .i64 c∧zA (zZ.l0 kq c b u t=some r)∧zA (kq≤kj1)∧zA (w'.heap[s]? = some (.cells #[(.slice af b.length ag),.int .i64 u,.int .i64 t] 26 (0,0)))∧zA (Below w.heap.size w w'))
   case atStart=>exact ⟨(0),sA,H',⟨Nat.le_refl _⟩,⟨by (repeat with_reducible first|apply zD|apply zF|apply zC);exact a.out⟩,⟨bA⟩⟩
   case round =>
    clear H'
    try clear c1
    try clear p2
    try clear c4
    try clear ah
    try clear bi
    try clear c6
    try clear bj
    try clear bk
    try clear c8
    try clear bl
    try clear c10
    try clear ay
    try clear c13
    try clear ak
    try clear al
    try clear am
    try clear aq
    try clear ar
    try clear au
    try clear a0
    try clear a1
    try clear a2
    try clear a6
    try clear a7
    try clear a8
    try clear bc
    try clear bd
    try clear be
    try clear an
    try clear ao
    try clear ap
    try clear av
    try clear aw
    try clear ax
    try clear a3
    try clear a4
    try clear a5
    try clear a9
    try clear ba
    try clear bb
    try clear bf
    try clear bg
    try clear bh
    try clear p2
    obtain ⟨c,rfl,HA,HK2,a,HB⟩:=hrel
    cases gk with
    | zero=>exact absurd HA.out (by simp [zZ.l0])
    | succ k2 =>
     have H:=HA.out
     clear HA
     simp only [zZ.l0] at H
     by_cases c14:c < (b.length:Int)
     rotate_left
     ·rw [if_neg c14] at H
      have bp:decide (c < (b.length:Int))=false:=decide_eq_false c14
      clear c14
      replace H:=Option.bind_eq_some_iff.mp H
      obtain ⟨⟨ai,bm⟩,A550,H⟩:=H
      replace H:(if ai≤t then (some (decide (bm≥u))) else (some false))=some r:=H
      have A55:=zA.mk A550
      clear A550
      by_cases c56:ai≤t
      ·rw [if_pos c56] at H
       have bq:decide (ai≤t)=true:=decide_eq_true c56
       clear c56
       obtain rfl:=Option.some.inj H
       obtain ⟨_,_,_,_,_,_⟩:=xC3 a.out
       go_wp2_with (first|((with_reducible refine zH (f:=46) rfl ?_);refine gL (some 89) Try.func46 #[.agg #[.slice af b.length ag,.int .i64 u,.int .i64 t]] ?_;(with_reducible refine (zb.calls k2 _ _ b u t ai bm _ ?side1 ?side2 A55.out).mono ?_);(case side1=>exact cS x.out);(case side2=>exact HC0_0.out);rintro e w58 ⟨rfl,hb⟩;refine ⟨_,rfl,?_⟩;replace a:=bQ a hb;replace HB:=hQ hb)|((with_reducible refine zL (N:=5) rfl ?_);(try (refine zAD (by rfl) ?_;dsimp only));refine bE #[.int .i64 0,.int .i64 0] 24 ?_;intro y hg w59 o hb;have az:=qK (o);have br:=qK (gS hg:w.heap.size≤y);have bs:=qK (gS hg:w.heap.size≤y);replace HB:=hQ hb;have ad:=qK (nL hg a.out:s≠y);have ae:=qK (nG hg a.out:y≠s);replace a:=bQ a hb;clear hb o hg;have b3:=ae.out;have b4:=ad.out;obtain ⟨_,_,_,_⟩:=xC2 az.out;obtain ⟨_,_,_,_,_,_⟩:=xC3 a.out))
       go_ret
       exact ⟨eA,bA⟩
      rw [if_neg c56] at H
      have bq:decide (ai≤t)=false:=decide_eq_false c56
      clear c56
      obtain rfl:=Option.some.inj H
      obtain ⟨_,_,_,_,_,_⟩:=xC3 a.out
      go_wp2_with (first|((with_reducible refine zH (f:=46) rfl ?_);refine gL (some 89) Try.func46 #[.agg #[.slice af b.length ag,.int .i64 u,.int .i64 t]] ?_;(with_reducible refine (zb.calls k2 _ _ b u t ai bm _ ?side1 ?side2 A55.out).mono ?_);(case side1=>exact cS x.out);(case side2=>exact HC0_0.out);rintro e w64 ⟨rfl,hb⟩;refine ⟨_,rfl,?_⟩;replace a:=bQ a hb;replace HB:=hQ hb)|((with_reducible refine zL (N:=5) rfl ?_);(try (refine zAD (by rfl) ?_;dsimp only));refine bE #[.int .i64 0,.int .i64 0] 24 ?_;intro y hg w65 o hb;have az:=qK (o);have br:=qK (gS hg:w.heap.size≤y);have bs:=qK (gS hg:w.heap.size≤y);replace HB:=hQ hb;have ad:=qK (nL hg a.out:s≠y);have ae:=qK (nG hg a.out:y≠s);replace a:=bQ a hb;clear hb o hg;have b5:=ae.out;have b6:=ad.out;obtain ⟨_,_,_,_⟩:=xC2 az.out;obtain ⟨_,_,_,_,_,_⟩:=xC3 a.out))
      go_ret
      exact ⟨eA,bA⟩
     rw [if_pos c14] at H
     have bp:decide (c < (b.length:Int))=true:=decide_eq_true c14
     clear c14
     by_cases c15:0≤c
     rotate_left
     ·rw [if_neg c15] at H
      exact absurd H (by simp)
     rw [if_pos c15] at H
     have b7:decide (0≤c)=true:=decide_eq_true c15
     clear c15
     by_cases c16:((zG b c).f0.f0) < 0
     ·rw [if_pos c16] at H
      have bt:decide (((zG b c).f0.f0) < 0)=true:=decide_eq_true c16
      clear c16
      obtain rfl:=Option.some.inj H
      obtain ⟨_,_,_,_,_,_⟩:=xC3 a.out
      have p:0≤(c:Int):=dA
      have q:c < (b.length:Int):=dA
      obtain ⟨aa,e476,i,j,l,m⟩:=zA9 x.out c p q
      cases e476
      replace i:=hC HB.out i
      replace j:=hC HB.out j
      replace l:=hC HB.out l
      replace m:=hC HB.out m
      replace p:=eq_true p
      replace q:=eq_true q
      go_wp2_with (first|((with_reducible refine zL (N:=4) rfl ?_);(try (refine zAD (by rfl) ?_;dsimp only));refine bE #[.int .i64 0,.int .i64 0,.int .i64 0,.int .i64 0] 50 ?_;intro d hg w18 o hb;have v:=qK (o);have ab:=qK (gS hg:w.heap.size≤d);have ac:=qK (gS hg:w.heap.size≤d);replace HB:=hQ hb;have g:=qK (nL hg a.out:s≠d);have n:=qK (nG hg a.out:d≠s);replace a:=bQ a hb;clear hb o hg;have b8:=n.out;have b9:=g.out;obtain ⟨_,_,_,_,_,_,_,_⟩:=xC4 v.out))
      go_ret
      exact ⟨eA,bA⟩
     rw [if_neg c16] at H
     have bt:decide (((zG b c).f0.f0) < 0)=false:=decide_eq_false c16
     clear c16
     by_cases c21:((zG b c).f0.f0) > ((zG b c).f0.f1)
     ·rw [if_pos c21] at H
      have bu:decide (((zG b c).f0.f1) < ((zG b c).f0.f0))=true:=decide_eq_true c21
      clear c21
      obtain rfl:=Option.some.inj H
      obtain ⟨_,_,_,_,_,_⟩:=xC3 a.out
      have p:0≤(c:Int):=dA
      have q:c < (b.length:Int):=dA
      obtain ⟨aa,e476,i,j,l,m⟩:=zA9 x.out c p q
      cases e476
      replace i:=hC HB.out i
      replace j:=hC HB.out j
      replace l:=hC HB.out l
      replace m:=hC HB.out m
      replace p:=eq_true p
      replace q:=eq_true q
      go_wp2_with (first|((with_reducible refine zL (N:=4) rfl ?_);(try (refine zAD (by rfl) ?_;dsimp only));refine bE #[.int .i64 0,.int .i64 0,.int .i64 0,.int .i64 0] 50 ?_;intro d hg w23 o hb;have v:=qK (o);have ab:=qK (gS hg:w.heap.size≤d);have ac:=qK (gS hg:w.heap.size≤d);replace HB:=hQ hb;have g:=qK (nL hg a.out:s≠d);have n:=qK (nG hg a.out:d≠s);replace a:=bQ a hb;clear hb o hg;have ca:=n.out;have cb:=g.out;obtain ⟨_,_,_,_,_,_,_,_⟩:=xC4 v.out))
      go_ret
      exact ⟨eA,bA⟩
     rw [if_neg c21] at H
     have bu:decide (((zG b c).f0.f1) < ((zG b c).f0.f0))=false:=decide_eq_false c21
     clear c21
     by_cases c26:((zG b c).f0.f1) > 1073741824
     ·rw [if_pos c26] at H
      have bv:decide (1073741824 < ((zG b c).f0.f1))=true:=decide_eq_true c26
      clear c26
      obtain rfl:=Option.some.inj H
      obtain ⟨_,_,_,_,_,_⟩:=xC3 a.out
      have p:0≤(c:Int):=dA
      have q:c < (b.length:Int):=dA
      obtain ⟨aa,e476,i,j,l,m⟩:=zA9 x.out c p q
      cases e476
      replace i:=hC HB.out i
      replace j:=hC HB.out j
      replace l:=hC HB.out l
      replace m:=hC HB.out m
      replace p:=eq_true p
      replace q:=eq_true q
      go_wp2_with (first|((with_reducible refine zL (N:=4) rfl ?_);(try (refine zAD (by rfl) ?_;dsimp only));refine bE #[.int .i64 0,.int .i64 0,.int .i64 0,.int .i64 0] 50 ?_;intro d hg w28 o hb;have v:=qK (o);have ab:=qK (gS hg:w.heap.size≤d);have ac:=qK (gS hg:w.heap.size≤d);replace HB:=hQ hb;have g:=qK (nL hg a.out:s≠d);have n:=qK (nG hg a.out:d≠s);replace a:=bQ a hb;clear hb o hg;have cc:=n.out;have cd:=g.out;obtain ⟨_,_,_,_,_,_,_,_⟩:=xC4 v.out))
      go_ret
      exact ⟨eA,bA⟩
     rw [if_neg c26] at H
     have bv:decide (1073741824 < ((zG b c).f0.f1))=false:=decide_eq_false c26
     clear c26
     by_cases c31:((zG b c).f1) < 0
     ·rw [if_pos c31] at H
      have bw:decide (((zG b c).f1) < 0)=true:=decide_eq_true c31
      clear c31
      obtain rfl:=Option.some.inj H
      obtain ⟨_,_,_,_,_,_⟩:=xC3 a.out
      have p:0≤(c:Int):=dA
      have q:c < (b.length:Int):=dA
      obtain ⟨aa,e476,i,j,l,m⟩:=zA9 x.out c p q
      cases e476
      replace i:=hC HB.out i
      replace j:=hC HB.out j
      replace l:=hC HB.out l
      replace m:=hC HB.out m
      replace p:=eq_true p
      replace q:=eq_true q
      go_wp2_with (first|((with_reducible refine zL (N:=4) rfl ?_);(try (refine zAD (by rfl) ?_;dsimp only));refine bE #[.int .i64 0,.int .i64 0,.int .i64 0,.int .i64 0] 50 ?_;intro d hg w33 o hb;have v:=qK (o);have ab:=qK (gS hg:w.heap.size≤d);have ac:=qK (gS hg:w.heap.size≤d);replace HB:=hQ hb;have g:=qK (nL hg a.out:s≠d);have n:=qK (nG hg a.out:d≠s);replace a:=bQ a hb;clear hb o hg;have ce:=n.out;have cf:=g.out;obtain ⟨_,_,_,_,_,_,_,_⟩:=xC4 v.out))
      go_ret
      exact ⟨eA,bA⟩
     rw [if_neg c31] at H
     have bw:decide (((zG b c).f1) < 0)=false:=decide_eq_false c31
     clear c31
     by_cases c36:((zG b c).f1) > 10000
     ·rw [if_pos c36] at H
      have bx:decide (10000 < ((zG b c).f1))=true:=decide_eq_true c36
      clear c36
      obtain rfl:=Option.some.inj H
      obtain ⟨_,_,_,_,_,_⟩:=xC3 a.out
      have p:0≤(c:Int):=dA
      have q:c < (b.length:Int):=dA
      obtain ⟨aa,e476,i,j,l,m⟩:=zA9 x.out c p q
      cases e476
      replace i:=hC HB.out i
      replace j:=hC HB.out j
      replace l:=hC HB.out l
      replace m:=hC HB.out m
      replace p:=eq_true p
      replace q:=eq_true q
      go_wp2_with (first|((with_reducible refine zL (N:=4) rfl ?_);(try (refine zAD (by rfl) ?_;dsimp only));refine bE #[.int .i64 0,.int .i64 0,.int .i64 0,.int .i64 0] 50 ?_;intro d hg w38 o hb;have v:=qK (o);have ab:=qK (gS hg:w.heap.size≤d);have ac:=qK (gS hg:w.heap.size≤d);replace HB:=hQ hb;have g:=qK (nL hg a.out:s≠d);have n:=qK (nG hg a.out:d≠s);replace a:=bQ a hb;clear hb o hg;have cg:=n.out;have ch:=g.out;obtain ⟨_,_,_,_,_,_,_,_⟩:=xC4 v.out))
      go_ret
      exact ⟨eA,bA⟩
     rw [if_neg c36] at H
     have bx:decide (10000 < ((zG b c).f1))=false:=decide_eq_false c36
     clear c36
     by_cases c41:((zG b c).f2) < 0
     ·rw [if_pos c41] at H
      have bz:decide (((zG b c).f2) < 0)=true:=decide_eq_true c41
      clear c41
      obtain rfl:=Option.some.inj H
      obtain ⟨_,_,_,_,_,_⟩:=xC3 a.out
      have p:0≤(c:Int):=dA
      have q:c < (b.length:Int):=dA
      obtain ⟨aa,e476,i,j,l,m⟩:=zA9 x.out c p q
      cases e476
      replace i:=hC HB.out i
      replace j:=hC HB.out j
      replace l:=hC HB.out l
      replace m:=hC HB.out m
      replace p:=eq_true p
      replace q:=eq_true q
      go_wp2_with (first|((with_reducible refine zL (N:=4) rfl ?_);(try (refine zAD (by rfl) ?_;dsimp only));refine bE #[.int .i64 0,.int .i64 0,.int .i64 0,.int .i64 0] 50 ?_;intro d hg w43 o hb;have v:=qK (o);have ab:=qK (gS hg:w.heap.size≤d);have ac:=qK (gS hg:w.heap.size≤d);replace HB:=hQ hb;have g:=qK (nL hg a.out:s≠d);have n:=qK (nG hg a.out:d≠s);replace a:=bQ a hb;clear hb o hg;have ci:=n.out;have cj:=g.out;obtain ⟨_,_,_,_,_,_,_,_⟩:=xC4 v.out))
      go_ret
      exact ⟨eA,bA⟩
     rw [if_neg c41] at H
     have bz:decide (((zG b c).f2) < 0)=false:=decide_eq_false c41
     clear c41
     by_cases c46:((zG b c).f2) > 1048576
     ·rw [if_pos c46] at H
      have b0:decide (1048576 < ((zG b c).f2))=true:=decide_eq_true c46
      clear c46
      obtain rfl:=Option.some.inj H
      obtain ⟨_,_,_,_,_,_⟩:=xC3 a.out
      have p:0≤(c:Int):=dA
      have q:c < (b.length:Int):=dA
      obtain ⟨aa,e476,i,j,l,m⟩:=zA9 x.out c p q
      cases e476
      replace i:=hC HB.out i
      replace j:=hC HB.out j
      replace l:=hC HB.out l
      replace m:=hC HB.out m
      replace p:=eq_true p
      replace q:=eq_true q
      go_wp2_with (first|((with_reducible refine zL (N:=4) rfl ?_);(try (refine zAD (by rfl) ?_;dsimp only));refine bE #[.int .i64 0,.int .i64 0,.int .i64 0,.int .i64 0] 50 ?_;intro d hg w48 o hb;have v:=qK (o);have ab:=qK (gS hg:w.heap.size≤d);have ac:=qK (gS hg:w.heap.size≤d);replace HB:=hQ hb;have g:=qK (nL hg a.out:s≠d);have n:=qK (nG hg a.out:d≠s);replace a:=bQ a hb;clear hb o hg;have ck:=n.out;have cl:=g.out;obtain ⟨_,_,_,_,_,_,_,_⟩:=xC4 v.out))
      go_ret
      exact ⟨eA,bA⟩
     rw [if_neg c46] at H
     have b0:decide (1048576 < ((zG b c).f2))=false:=decide_eq_false c46
     clear c46
     have H':=zA.mk H
     clear H
     obtain ⟨_,_,_,_,_,_⟩:=xC3 a.out
     have p:0≤(c:Int):=dA
     have q:c < (b.length:Int):=dA
     obtain ⟨aa,e476,i,j,l,m⟩:=zA9 x.out c p q
     cases e476
     replace i:=hC HB.out i
     replace j:=hC HB.out j
     replace l:=hC HB.out l
     replace m:=hC HB.out m
     replace p:=eq_true p
     replace q:=eq_true q
     go_wp2_with (first|((with_reducible refine zL (N:=4) rfl ?_);(try (refine zAD (by rfl) ?_;dsimp only));refine bE #[.int .i64 0,.int .i64 0,.int .i64 0,.int .i64 0] 50 ?_;intro d hg w52 o hb;have v:=qK (o);have ab:=qK (gS hg:w.heap.size≤d);have ac:=qK (gS hg:w.heap.size≤d);replace HB:=hQ hb;have g:=qK (nL hg a.out:s≠d);have n:=qK (nG hg a.out:d≠s);replace a:=bQ a hb;clear hb o hg;have cm:=n.out;have cn:=g.out;obtain ⟨_,_,_,_,_,_,_,_⟩:=xC4 v.out))
     go_roundg k2
     case measure=>have:=HJ1.out;have:=HK2.out;omega
     case rel=>exact ⟨(wrap64 (c+1)),sA,H',⟨by have:=HJ1.out;have:=HK2.out;omega⟩,⟨by (repeat with_reducible first|apply zD|apply zF|apply zC);refine zO ?_ g.out _;(repeat with_reducible first|apply zD|apply zF|apply zC);refine zO ?_ g.out _;(repeat with_reducible first|apply zD|apply zF|apply zC);refine zO ?_ g.out _;(repeat with_reducible first|apply zD|apply zF|apply zC);refine zO ?_ g.out _;(repeat with_reducible first|apply zD|apply zF|apply zC);exact a.out⟩,⟨bA⟩⟩
def zAL.l0:Nat→List Int→Int→List (S50)→Int→Int→Option (Bool)
 | 0,_,_,_,_,_=>none
 | k+1,x1,x5,a,b,c=>if x5 < (x1.length:Int) then (if 0≤x5 then (if (rd x1 x5) < 0 then (some false) else (if (rd x1 x5)≥(a.length:Int) then (some false) else (if x5 > 0 then (if 0≤(wrap64 (x5 - 1)) then (if (wrap64 (x5 - 1)) < (x1.length:Int) then (if (rd x1 (wrap64 (x5 - 1)))≥(rd x1 x5) then (some false) else (zAL.l0 k x1 (wrap64 (x5+1)) a b c)) else (none)) else (none)) else (zAL.l0 k x1 (wrap64 (x5+1)) a b c)))) else (none)) else (some true)
def zAL.f (k:Nat) (a:List (S50)) (b:Int) (c:Int) (l1:List Int):Option (Bool):=zAL.l0 k l1 0 a b c
set_option maxHeartbeats 8000000 in
set_option maxRecDepth 100000 in
theorem zAL.calls (k:Nat) (ad:Option Addr) (ae:Nat) (l:List (S50)) (t:Int) (u:Int) (A1:Option Addr) (c1:Nat) (l1:List Int) (r:Bool) (w:World) (ai:Kd.C k50 w ad l.length l) (aj:l.length≤ae) (hr1:Kd.C (Kd.int .i64) w A1 l1.length l1) (hc1:l1.length≤c1) (h:zAL.f k l t u l1=some r) :
 Calls Try.prog 11 #[.agg #[.slice ad l.length ae,.int .i64 t,.int .i64 u],.slice A1 l1.length c1] w fun e w'=>e= .returned (.bool r)∧Below w.heap.size w w':=by
 have ax:=Try.underlying26
 have au:=zA.mk ai
 have HC0_0:=zA.mk aj
 clear ai aj
 have HR1:=zA.mk hr1
 have HC1:=zA.mk hc1
 clear hr1 hc1
 have HB:=zA.mk (Below.refl w.heap.size w)
 have H:(zAL.l0 k l1 0 l t u)=some r:=h
 clear h
 have H':=zA.mk H
 clear H
 go_enter Try.func11,Try.ntmps11
 go_wp2_with (first|((with_reducible refine zL (N:=2) rfl ?_);(try (refine zAD (by rfl) ?_;dsimp only));refine bE #[.slice ad l.length ae,.int .i64 t,.int .i64 u] 26 ?_;intro p hg w3 x hb;have o:=qK (x);have ak:=qK (gS hg:w.heap.size≤p);have al:=qK (gS hg:w.heap.size≤p);replace HB:=hQ hb;clear hb x hg))
 repeat (go_quiet (first|((with_reducible refine zL (N:=2) rfl ?_);(try (refine zAD (by rfl) ?_;dsimp only));refine bE #[.slice ad l.length ae,.int .i64 t,.int .i64 u] 26 ?_;intro p hg w3 x hb;have o:=qK (x);have ak:=qK (gS hg:w.heap.size≤p);have al:=qK (gS hg:w.heap.size≤p);replace HB:=hQ hb;clear hb x hg));try go_wp2_with (first|((with_reducible refine zL (N:=2) rfl ?_);(try (refine zAD (by rfl) ?_;dsimp only));refine bE #[.slice ad l.length ae,.int .i64 t,.int .i64 u] 26 ?_;intro p hg w3 x hb;have o:=qK (x);have ak:=qK (gS hg:w.heap.size≤p);have al:=qK (gS hg:w.heap.size≤p);replace HB:=hQ hb;clear hb x hg)))
 go_loopg [5] k (fun kq v5 w'=>∃ (a:Int),v5= .int .i64 a∧zA (zAL.l0 kq l1 a l t u=some r)∧zA (kq≤k)∧zA (w'.heap[p]? = some (.cells #[(.slice ad l.length ae),.int .i64 t,.int .i64 u] 26 (0,0)))∧zA (Below w.heap.size w w'))
 case atStart=>exact ⟨(0),sA,H',⟨Nat.le_refl _⟩,⟨by (repeat with_reducible first|apply zD|apply zF|apply zC);exact o.out⟩,⟨bA⟩⟩
 case round =>
  clear H'
  try clear c1
  try clear p2
  obtain ⟨a,rfl,HA,HK1,o,HB⟩:=hrel
  cases gk with
  | zero=>exact absurd HA.out (by simp [zAL.l0])
  | succ k1 =>
   have H:=HA.out
   clear HA
   simp only [zAL.l0] at H
   by_cases c4:a < (l1.length:Int)
   rotate_left
   ·rw [if_neg c4] at H
    have an:decide (a < (l1.length:Int))=false:=decide_eq_false c4
    clear c4
    obtain rfl:=Option.some.inj H
    go_wp2
    repeat (go_quiet (fail);try go_wp2)
    go_ret
    exact ⟨eA,bA⟩
   rw [if_pos c4] at H
   have an:decide (a < (l1.length:Int))=true:=decide_eq_true c4
   clear c4
   by_cases c5:0≤a
   rotate_left
   ·rw [if_neg c5] at H
    exact absurd H (by simp)
   rw [if_pos c5] at H
   have ay:decide (0≤a)=true:=decide_eq_true c5
   clear c5
   by_cases c6:(rd l1 a) < 0
   ·rw [if_pos c6] at H
    have ao:decide ((rd l1 a) < 0)=true:=decide_eq_true c6
    clear c6
    obtain rfl:=Option.some.inj H
    have d:0≤(a:Int):=dA
    have g:a < (l1.length:Int):=dA
    obtain ⟨j,e482,b⟩:=Kd.zAh HR1.out a d g
    cases e482
    replace b:=hC HB.out b
    replace d:=eq_true d
    replace g:=eq_true g
    go_wp2
    repeat (go_quiet (fail);try go_wp2)
    go_ret
    exact ⟨eA,bA⟩
   rw [if_neg c6] at H
   have ao:decide ((rd l1 a) < 0)=false:=decide_eq_false c6
   clear c6
   by_cases c7:(rd l1 a)≥(l.length:Int)
   ·rw [if_pos c7] at H
    have ap:decide ((l.length:Int)≤(rd l1 a))=true:=decide_eq_true c7
    clear c7
    obtain rfl:=Option.some.inj H
    have d:0≤(a:Int):=dA
    have g:a < (l1.length:Int):=dA
    obtain ⟨j,e482,b⟩:=Kd.zAh HR1.out a d g
    cases e482
    replace b:=hC HB.out b
    replace d:=eq_true d
    replace g:=eq_true g
    have m:0≤(a:Int):=dA
    have n:a < (l1.length:Int):=dA
    obtain ⟨v,e483,c⟩:=Kd.zAh HR1.out a m n
    obtain rfl:j=v:=(by injection e483)
    replace c:=hC HB.out c
    replace m:=eq_true m
    replace n:=eq_true n
    obtain ⟨_,_,_,_,_,_⟩:=xC3 o.out
    go_wp2
    repeat (go_quiet (fail);try go_wp2)
    go_ret
    exact ⟨eA,bA⟩
   rw [if_neg c7] at H
   have ap:decide ((l.length:Int)≤(rd l1 a))=false:=decide_eq_false c7
   clear c7
   by_cases c9:a > 0
   rotate_left
   ·rw [if_neg c9] at H
    have aq:decide (0 < a)=false:=decide_eq_false c9
    clear c9
    have H':=zA.mk H
    clear H
    have d:0≤(a:Int):=dA
    have g:a < (l1.length:Int):=dA
    obtain ⟨j,e482,b⟩:=Kd.zAh HR1.out a d g
    cases e482
    replace b:=hC HB.out b
    replace d:=eq_true d
    replace g:=eq_true g
    have m:0≤(a:Int):=dA
    have n:a < (l1.length:Int):=dA
    obtain ⟨v,e483,c⟩:=Kd.zAh HR1.out a m n
    obtain rfl:j=v:=(by injection e483)
    replace c:=hC HB.out c
    replace m:=eq_true m
    replace n:=eq_true n
    obtain ⟨_,_,_,_,_,_⟩:=xC3 o.out
    go_wp2
    repeat (go_quiet (fail);try go_wp2)
    go_roundg k1
    case measure=>have:=HK1.out;omega
    case rel=>exact ⟨(wrap64 (a+1)),sA,H',⟨by have:=HK1.out;omega⟩,⟨by (repeat with_reducible first|apply zD|apply zF|apply zC);exact o.out⟩,⟨bA⟩⟩
   rw [if_pos c9] at H
   have aq:decide (0 < a)=true:=decide_eq_true c9
   clear c9
   obtain ⟨i,af⟩ : ∃ j_:Int,(wrap64 (a - 1))=j_:=⟨_,rfl⟩
   replace H:(if 0≤(i) then (if (i) < (l1.length:Int) then (if (rd l1 (i))≥(rd l1 a) then (some false) else (zAL.l0 k1 l1 (wrap64 (a+1)) l t u)) else (none)) else (none))=some r:=by first|(rw [af] at H;exact H)|(simp only [af] at H ⊢;exact H)
   have ar:(IntKind.i64.wrap (a - 1))=i:=(zBS _).trans af
   by_cases c11:0≤(i)
   rotate_left
   ·rw [if_neg c11] at H
    exact absurd H (by simp)
   rw [if_pos c11] at H
   have av:decide (0≤(i))=true:=decide_eq_true c11
   clear c11
   by_cases c12:(i) < (l1.length:Int)
   rotate_left
   ·rw [if_neg c12] at H
    exact absurd H (by simp)
   rw [if_pos c12] at H
   have aw:decide ((i) < (l1.length:Int))=true:=decide_eq_true c12
   clear c12
   by_cases c13:(rd l1 (i))≥(rd l1 a)
   ·rw [if_pos c13] at H
    have am:decide ((rd l1 a)≤(rd l1 (i)))=true:=decide_eq_true c13
    clear c13
    obtain rfl:=Option.some.inj H
    have d:0≤(a:Int):=dA
    have g:a < (l1.length:Int):=dA
    obtain ⟨j,e482,b⟩:=Kd.zAh HR1.out a d g
    cases e482
    replace b:=hC HB.out b
    replace d:=eq_true d
    replace g:=eq_true g
    have m:0≤(a:Int):=dA
    have n:a < (l1.length:Int):=dA
    obtain ⟨v,e483,c⟩:=Kd.zAh HR1.out a m n
    obtain rfl:j=v:=(by injection e483)
    replace c:=hC HB.out c
    replace m:=eq_true m
    replace n:=eq_true n
    obtain ⟨_,_,_,_,_,_⟩:=xC3 o.out
    have y:0≤((i):Int):=dA
    have aa:(i) < (l1.length:Int):=dA
    obtain ⟨ag,e484,q⟩:=Kd.zAh HR1.out (i) y aa
    obtain rfl:j=ag:=(by injection e484)
    replace q:=hC HB.out q
    replace y:=eq_true y
    replace aa:=eq_true aa
    have ab:0≤(a:Int):=dA
    have ac:a < (l1.length:Int):=dA
    obtain ⟨ah,e485,s⟩:=Kd.zAh HR1.out a ab ac
    obtain rfl:j=ah:=(by injection e485)
    replace s:=hC HB.out s
    replace ab:=eq_true ab
    replace ac:=eq_true ac
    go_wp2
    repeat (go_quiet (fail);try go_wp2)
    go_ret
    exact ⟨by first|rfl|(simp [zAQ,zAP] <;> rfl)|(simp only [← af];first|rfl|(simp [zAQ,zAP] <;> rfl))|(simp [*,zAQ,zAP] <;> rfl),bA⟩
   rw [if_neg c13] at H
   have am:decide ((rd l1 a)≤(rd l1 (i)))=false:=decide_eq_false c13
   clear c13
   have H':=zA.mk H
   clear H
   have d:0≤(a:Int):=dA
   have g:a < (l1.length:Int):=dA
   obtain ⟨j,e482,b⟩:=Kd.zAh HR1.out a d g
   cases e482
   replace b:=hC HB.out b
   replace d:=eq_true d
   replace g:=eq_true g
   have m:0≤(a:Int):=dA
   have n:a < (l1.length:Int):=dA
   obtain ⟨v,e483,c⟩:=Kd.zAh HR1.out a m n
   obtain rfl:j=v:=(by injection e483)
   replace c:=hC HB.out c
   replace m:=eq_true m
   replace n:=eq_true n
   obtain ⟨_,_,_,_,_,_⟩:=xC3 o.out
   have y:0≤((i):Int):=dA
   have aa:(i) < (l1.length:Int):=dA
   obtain ⟨ag,e484,q⟩:=Kd.zAh HR1.out (i) y aa
   obtain rfl:j=ag:=(by injection e484)
   replace q:=hC HB.out q
   replace y:=eq_true y
   replace aa:=eq_true aa
   have ab:0≤(a:Int):=dA
   have ac:a < (l1.length:Int):=dA
   obtain ⟨ah,e485,s⟩:=Kd.zAh HR1.out a ab ac
   obtain rfl:j=ah:=(by injection e485)
   replace s:=hC HB.out s
   replace ab:=eq_true ab
   replace ac:=eq_true ac
   go_wp2
   repeat (go_quiet (fail);try go_wp2)
   go_roundg k1
   case measure=>have:=HK1.out;omega
   case rel=>exact ⟨(wrap64 (a+1)),sA,H',⟨by have:=HK1.out;omega⟩,⟨by (repeat with_reducible first|apply zD|apply zF|apply zC);exact o.out⟩,⟨bA⟩⟩
end Go.Proofs.Ythimaecnpkcmeaa.K
namespace Go.Proofs.Ythimaecnpkcmeaa.K
open Go.RowKit Go.Proofs.YthimaecnpkcmeaaW.PrintWords Go.Proofs.YthimaecnpkcmeaaW.PrintLast Go.Proofs.YthimaecnpkcmeaaW.PrintMore
attribute [local go_sem] zAX zAW zAg zAf zAF zAG zAU zAV   -- for this text's walks alone
set_option linter.unusedVariables false
set_option linter.unusedSimpArgs false
theorem slices_Clone_int.ofK {w W:World} {b:Nat} {x:Int} {cs:List Value} (h:(Kd.int .i64).K w x cs):(Kd.int .i64).M W b (fun _=>False) x cs:=h
end Go.Proofs.Ythimaecnpkcmeaa.K
namespace Go.Proofs.Ythimaecnpkcmeaa.K
open Go.RowKit Go.Proofs.YthimaecnpkcmeaaW.PrintWords Go.Proofs.YthimaecnpkcmeaaW.PrintLast Go.Proofs.YthimaecnpkcmeaaW.PrintMore
attribute [local go_sem] zAX zAW zAg zAf zAF zAG zAU zAV   -- for this text's walks alone
set_option linter.unusedVariables false
set_option linter.unusedSimpArgs false
def zDV.f (k:Nat) (a:List (S50)) (b:Int) (c:Int) (l1:List Int):Option (Int × Int):=(zi.f k a b c l1).bind fun d=>(if d=0 then ((zAk.f k a b c l1).bind fun e=>(some (e,0))) else (some (0,d)))
set_option maxHeartbeats 8000000 in
set_option maxRecDepth 100000 in
theorem zDV.calls (k:Nat) (i:Option Addr) (j:Nat) (a:List (S50)) (b:Int) (c:Int) (A1:Option Addr) (c1:Nat) (l1:List Int) (r1:Int) (r2:Int) (w:World) (p:Kd.C k50 w i a.length a) (q:a.length≤j) (hr1:Kd.C (Kd.int .i64) w A1 l1.length l1) (hc1:l1.length≤c1) (h:zDV.f k a b c l1=some (r1,r2)) :
 Calls Try.prog 24 #[.agg #[.slice i a.length j,.int .i64 b,.int .i64 c],.slice A1 l1.length c1] w fun e w'=>e= .returned (.tuple #[.int .i64 r1,.int .i64 r2])∧Below w.heap.size w w':=by
 have v:=Try.underlying26
 have o:=zA.mk p
 have HC0_0:=zA.mk q
 clear p q
 have HR1:=zA.mk hr1
 have HC1:=zA.mk hc1
 clear hr1 hc1
 have HB:=zA.mk (Below.refl w.heap.size w)
 have H:((zi.f k a b c l1).bind fun g=>(if g=0 then ((zAk.f k a b c l1).bind fun m=>(some (m,0))) else (some (0,g))))=some (r1,r2):=h
 clear h
 replace H:=Option.bind_eq_some_iff.mp H
 obtain ⟨g,A30,H⟩:=H
 replace H:(if g=0 then ((zAk.f k a b c l1).bind fun m=>(some (m,0))) else (some (0,g)))=some (r1,r2):=H
 have A3:=zA.mk A30
 clear A30
 by_cases c4:g=0
 rotate_left
 ·rw [if_neg c4] at H
  have t:(g == 0)=false:=beq_eq_false_iff_ne.mpr c4
  have u:(g != 0)=true:=bne_iff_ne.mpr c4
  simp only [Option.some.injEq,Prod.mk.injEq] at H
  obtain ⟨rfl,rfl⟩:=H
  go_enter Try.func24,Try.ntmps24
  go_wp2_with (first|((with_reducible refine zL (N:=2) rfl ?_);refine bE #[.slice i a.length j,.int .i64 b,.int .i64 c] 26 ?_;intro l hg w11 n hb;have d:=qK (n);have r:=qK (gS hg:w.heap.size≤l);have s:=qK (gS hg:w.heap.size≤l);replace HB:=hQ hb;clear hb n hg;obtain ⟨_,_,_,_,_,_⟩:=xC3 d.out)|((with_reducible refine zH (f:=49) rfl ?_);refine gL (some 9) Try.func49 #[.agg #[.slice i a.length j,.int .i64 b,.int .i64 c],.slice A1 l1.length c1] ?_;(with_reducible refine (zi.calls k _ _ a b c _ _ l1 g _ ?side1 ?side2 ?side3 ?side4 A3.out).mono ?_);(case side1=>exact cS o.out);(case side2=>exact HC0_0.out);(case side3=>exact cS HR1.out);(case side4=>exact HC1.out);rintro e w13 ⟨rfl,hb⟩;refine ⟨_,rfl,?_⟩;replace d:=bQ d hb;replace HB:=hQ hb))
  go_ret2
  exact ⟨eA,bA⟩
 rw [if_pos c4] at H
 have t:(g == 0)=true:=beq_iff_eq.mpr c4
 have u:(g != 0)=false:=bne_eq_false_iff_eq.mpr c4
 clear c4
 replace H:=Option.bind_eq_some_iff.mp H
 obtain ⟨m,A50,H⟩:=H
 replace H:(some (m,0))=some (r1,r2):=H
 have A5:=zA.mk A50
 clear A50
 simp only [Option.some.injEq,Prod.mk.injEq] at H
 obtain ⟨rfl,rfl⟩:=H
 go_enter Try.func24,Try.ntmps24
 go_wp2_with (first|((with_reducible refine zL (N:=2) rfl ?_);refine bE #[.slice i a.length j,.int .i64 b,.int .i64 c] 26 ?_;intro l hg w6 n hb;have d:=qK (n);have r:=qK (gS hg:w.heap.size≤l);have s:=qK (gS hg:w.heap.size≤l);replace HB:=hQ hb;clear hb n hg;obtain ⟨_,_,_,_,_,_⟩:=xC3 d.out)|((with_reducible refine zH (f:=49) rfl ?_);refine gL (some 9) Try.func49 #[.agg #[.slice i a.length j,.int .i64 b,.int .i64 c],.slice A1 l1.length c1] ?_;(with_reducible refine (zi.calls k _ _ a b c _ _ l1 g _ ?side1 ?side2 ?side3 ?side4 A3.out).mono ?_);(case side1=>exact cS o.out);(case side2=>exact HC0_0.out);(case side3=>exact cS HR1.out);(case side4=>exact HC1.out);rintro e w8 ⟨rfl,hb⟩;refine ⟨_,rfl,?_⟩;replace d:=bQ d hb;replace HB:=hQ hb;obtain ⟨_,_,_,_,_,_⟩:=xC3 d.out)|((with_reducible refine zH (f:=61) rfl ?_);refine gL (some 15) Try.func61 #[.agg #[.slice i a.length j,.int .i64 b,.int .i64 c],.slice A1 l1.length c1] ?_;(with_reducible refine (zAk.calls k _ _ a b c _ _ l1 m _ ?side1 ?side2 ?side3 ?side4 A5.out).mono ?_);(case side1=>exact cS o.out);(case side2=>exact HC0_0.out);(case side3=>exact cS HR1.out);(case side4=>exact HC1.out);rintro e w10 ⟨rfl,hb⟩;refine ⟨_,rfl,?_⟩;replace d:=bQ d hb;replace HB:=hQ hb))
 go_ret2
 exact ⟨eA,bA⟩
end Go.Proofs.Ythimaecnpkcmeaa.K
namespace Go.Proofs.Ythimaecnpkcmeaa.K
open Go.RowKit Go.Proofs.YthimaecnpkcmeaaW.PrintWords Go.Proofs.YthimaecnpkcmeaaW.PrintLast Go.Proofs.YthimaecnpkcmeaaW.PrintMore
attribute [local go_sem] zAX zAW zAg zAf zAF zAG zAU zAV   -- for this text's walks alone
set_option linter.unusedVariables false
set_option linter.unusedSimpArgs false
def zBC.f (k:Nat) (a:List (S50)) (b:Int) (c:Int):Option (List Int × Int):=(zK.f k a b c).bind fun d=>(if d=0 then ((zAc.f k (a.length:Int)).bind fun e=>((zm.f k a b c e).bind fun g=>(some (g,0)))) else (some (([]:List Int),d)))
def zBC.T4:Bool × List (List Nat × List Nat):=(true,[([],[]),([],[]),([1],[1]),([2],[2]),([3],[3]),([0,4,4],[0,4]),([5,5,0,1,2,3,4,5],[5]),([6,0,1,2,3,4,5,6],[])])
def zBC.B4:List Nat:=[0,0,2,6,14,31,63,127]
theorem zBC.tab4:zBQ .any (opsOf Try.f25 4)=zBC.T4:=by kernel_rfl
theorem zBC.bits4:zBA zBC.T4.2 zBC.B4=true:=by kernel_rfl
set_option maxHeartbeats 8000000 in
set_option maxRecDepth 100000 in
theorem zBC.calls (k:Nat) (j:Option Addr) (l:Nat) (b:List (S50)) (c:Int) (d:Int) (r1:List Int) (r2:Int) (w:World) (t:Kd.C k50 w j b.length b) (u:b.length≤l) (h:zBC.f k b c d=some (r1,r2)) :
 Calls Try.prog 25 #[.agg #[.slice j b.length l,.int .i64 c,.int .i64 d]] w fun e w'=>∃ v0_:Value,e= .returned (.tuple #[v0_,.int .i64 r2])∧Kd.R (Kd.int .i64) 3 w' w.heap.size (fun _=>True) v0_ r1∧Below w.heap.size w w':=by
 have af:=Try.underlying26
 have s:=zA.mk t
 have HC0_0:=zA.mk u
 clear t u
 have HB:=zA.mk (Below.refl w.heap.size w)
 have H:((zK.f k b c d).bind fun g=>(if g=0 then ((zAc.f k (b.length:Int)).bind fun m=>((zm.f k b c d m).bind fun o=>(some (o,0)))) else (some (([]:List Int),g))))=some (r1,r2):=h
 clear h
 replace H:=Option.bind_eq_some_iff.mp H
 obtain ⟨g,A20,H⟩:=H
 replace H:(if g=0 then ((zAc.f k (b.length:Int)).bind fun m=>((zm.f k b c d m).bind fun o=>(some (o,0)))) else (some (([]:List Int),g)))=some (r1,r2):=H
 have A2:=zA.mk A20
 clear A20
 by_cases c3:g=0
 rotate_left
 ·rw [if_neg c3] at H
  have ab:(g == 0)=false:=beq_eq_false_iff_ne.mpr c3
  have ac:(g != 0)=true:=bne_iff_ne.mpr c3
  simp only [Option.some.injEq,Prod.mk.injEq] at H
  obtain ⟨rfl,rfl⟩:=H
  go_enter Try.func25,Try.ntmps25
  go_wp2_with (first|((with_reducible refine zL (N:=1) rfl ?_);refine bE #[.slice j b.length l,.int .i64 c,.int .i64 d] 26 ?_;intro i hg w13 r hb;have a:=qK (r);have x:=qK (gS hg:w.heap.size≤i);have y:=qK (gS hg:w.heap.size≤i);replace HB:=hQ hb;clear hb r hg;obtain ⟨_,_,_,_,_,_⟩:=xC3 a.out)|((with_reducible refine zH (f:=45) rfl ?_);refine gL (some 6) Try.func45 #[.agg #[.slice j b.length l,.int .i64 c,.int .i64 d]] ?_;(with_reducible refine (zK.calls k _ _ b c d g _ ?side1 ?side2 A2.out).mono ?_);(case side1=>exact cS s.out);(case side2=>exact HC0_0.out);rintro e w15 ⟨rfl,hb⟩;refine ⟨_,rfl,?_⟩;replace a:=bQ a hb;replace HB:=hQ hb))
  go_ret2
  exact ⟨_,eA,by first|exact Kd.zBW _ _ _ _ _|exact Kd.zCK _ _ _ _ _|exact Kd.zCM _ _ _ _ _|exact Kd.zCL _ _ _ _ _|exact Kd.zCJ _ _ _ _ _,bA⟩
 rw [if_pos c3] at H
 have ab:(g == 0)=true:=beq_iff_eq.mpr c3
 have ac:(g != 0)=false:=bne_eq_false_iff_eq.mpr c3
 clear c3
 replace H:=Option.bind_eq_some_iff.mp H
 obtain ⟨m,A40,H⟩:=H
 replace H:((zm.f k b c d m).bind fun o=>(some (o,0)))=some (r1,r2):=H
 have A4:=zA.mk A40
 clear A40
 replace H:=Option.bind_eq_some_iff.mp H
 obtain ⟨o,A50,H⟩:=H
 replace H:(some (o,0))=some (r1,r2):=H
 have A5:=zA.mk A50
 clear A50
 simp only [Option.some.injEq,Prod.mk.injEq] at H
 obtain ⟨rfl,rfl⟩:=H
 go_enter Try.func25,Try.ntmps25
 try go_wp2_with (first|((with_reducible refine zL (N:=1) rfl ?_);refine bE #[.slice j b.length l,.int .i64 c,.int .i64 d] 26 ?_;intro i hg w6 r hb;have a:=qK (r);have x:=qK (gS hg:w.heap.size≤i);have y:=qK (gS hg:w.heap.size≤i);replace HB:=hQ hb;clear hb r hg;obtain ⟨_,_,_,_,_,_⟩:=xC3 a.out)|((with_reducible refine zH (f:=45) rfl ?_);refine gL (some 6) Try.func45 #[.agg #[.slice j b.length l,.int .i64 c,.int .i64 d]] ?_;(with_reducible refine (zK.calls k _ _ b c d g _ ?side1 ?side2 A2.out).mono ?_);(case side1=>exact cS s.out);(case side2=>exact HC0_0.out);rintro e w8 ⟨rfl,hb⟩;refine ⟨_,rfl,?_⟩;replace a:=bQ a hb;replace HB:=hQ hb))
 replace a:=qK (zF a.out)
 replace HB:=qK (zx HB.out)
 refine zBH (n:=8) (S:=fun w'=>w'.cell? ⟨i,0,none⟩=some (.slice j b.length l)∧w'.cell? ⟨i,1,none⟩=some (.int .i64 c)∧w'.cell? ⟨i,2,none⟩=some (.int .i64 d)) (ds:=[]) #[false,false,false,false,false,false,false,false] (by kernel_rfl) rfl rfl ⟨(zB a.out 0).trans rfl,(zB a.out 1).trans rfl,(zB a.out 2).trans rfl⟩ (fun q=>?_);refine zAj zBC.tab4 zBC.bits4 (fun HT_ HW_=>?_)
 generalize w8.drew=w9 at a HB q ⊢
 refine pP 1 (some 11) HT_ ?_
 refine tP 0 (some 10) HT_ HW_ q ?_
 refine tP 2 (some 12) HT_ HW_ q ?_
 refine pP 3 (some 13) HT_ ?_
 refine oP 4 (some 14) HT_ (fun K hK=>?_)
 refine gO Try.func63 #[.int .i64 (b.length:Int)] ?_
 with_reducible refine (zAc.calls k (b.length:Int) m _ A4.out).mono ?_
 rintro e w10 ⟨v608,rfl,ho0,hb⟩
 refine ⟨_,rfl,?_⟩
 have p:=qK (Kd.zAH ho0 bZ)
 replace a:=bQ a hb
 replace HB:=hQ hb
 (try clear hb)
 (try clear hb2)
 (try clear hk)
 (try clear hi)
 (try clear ho0)
 obtain ⟨ad,ae,v⟩:=Kd.zq p.out
 (first|subst v|(injection v with f1_ f2_ f3_;have f4_:=f1_.symm;have f5_:=f3_.symm;clear f1_ f2_ f3_;subst f4_;subst f5_))
 refine hK.out _ _ ⟨(zB a.out 0).trans rfl,(zB a.out 1).trans rfl,(zB a.out 2).trans rfl⟩ (fun q=>?_)
 clear hK K
 refine nP ?_
 refine oP 5 (some 15) HT_ (fun K hK=>?_)
 refine gO Try.func62 #[.agg #[.slice j b.length l,.int .i64 c,.int .i64 d],.slice ad m.length ae] ?_
 with_reducible refine (zm.calls k _ _ b c d _ _ m o _ ?side1 ?side2 ?side3 ?side4 A5.out).mono ?_
 (case side1=>exact cS s.out)
 (case side2=>exact HC0_0.out)
 (case side3=>exact cR (Kd.zJ p.out).2.2)
 (case side4=>exact (Kd.zJ p.out).2.1)
 rintro e w12 ⟨v611,rfl,ho0,hb⟩
 refine ⟨_,rfl,?_⟩
 have aa:=qK (Kd.zAH (Kd.zg ho0 (Kd.zz (rS p.out))) bZ)
 replace p:=qK (Kd.zQ (rS p.out) (Kd.zV ho0) hb)
 replace a:=bQ a hb
 replace HB:=hQ hb
 (try clear hb)
 (try clear hb2)
 (try clear hk)
 (try clear hi)
 (try clear ho0)
 refine hK.out _ _ ⟨(zB a.out 0).trans rfl,(zB a.out 1).trans rfl,(zB a.out 2).trans rfl⟩ (fun q=>?_)
 clear hK K
 refine nP ?_
 refine pP 6 (some 2) HT_ ?_
 refine pP 7 (some 3) HT_ ?_
 refine zBZ (zA8 HT_.out (by kernel_rfl)) ?_
 try go_wp2
 go_ret2
 exact ⟨_,eA,by (with_reducible repeat (first|apply Kd.zAp|apply Kd.zAn|apply Kd.zAv));exact Kd.zR aa.out (fun _ hk=>trivial),bA⟩
end Go.Proofs.Ythimaecnpkcmeaa.K
namespace Go.Proofs.Ythimaecnpkcmeaa.K
open Go.ChangeShapes Go.WideShapes Go.Deep Go.RowKit Go.Proofs.YthimaecnpkcmeaaW.PrintWords Go.Proofs.YthimaecnpkcmeaaW.PrintLast Go.Proofs.YthimaecnpkcmeaaW.PrintMore
def zEt (P:Program) {α:Type} (d:Kd α) (t:TypeId):Prop :=
 ∀ (H:Type) (enc:TypeId × Value→H) (w:World) (base:Nat) (spare:Nat→Bool) (held:Bool) (fuel:Nat) (cs:List Value) (x:DataW H × List MemPlace),DataW.trod enc P w base spare held fuel t cs=some x→∃ s,d.K w s cs
theorem zCZ {P:Program} {t:TypeId} {k:IntKind} (ht:P.underlying t=some (.int k)):zEt P (Kd.int k) t:=by
 intro H enc w base spare held fuel cs x h
 obtain ⟨n,rfl,_,_⟩:=DataW.trod_int ht h
 exact ⟨n,rfl⟩
theorem zDZ {P:Program} {α:Type} {d:Kd α} {t e:TypeId} (ht:P.underlying t=some (.slice e)) (hc:P.cellsOf e=d.sz) (he:zEt P d e):zEt P (Kd.slice e d) t:=by
 intro H enc w base spare held fuel cs x h
 rcases open_slice ht h with ⟨rfl,_⟩|⟨a,len,cap,m,n,D,Pl,rfl,_,hl,hm,hmm,_,hi⟩
 ·exact ⟨[],none,0,rfl,Nat.le_refl _,Kd.C_nil _ _⟩
 ·have hlm:len≤m:=by rw [hmm];split <;> omega
  have hs : ∀ i,∃ s:Option α,i < len→∃ s',s=some s'∧∃ c,d.K w s' c∧∀ j u,c[j]? = some u→w.cell? (a.add (i*d.sz+j))=some u:=by
   intro i
   by_cases hil:i < len
   ·obtain ⟨cs',hc',ht'⟩:=hi i (by omega)
    obtain ⟨s,hk⟩:=he H enc w base spare held n cs' _ ht'
    obtain ⟨_,hcl,hat⟩:=World.cells?_some hc'
    refine ⟨some s,fun _=>⟨s,rfl,cs',hk,fun j u hj=>?_⟩⟩
    have hjl:j < P.cellsOf e:=by rw [← hcl];exact (List.getElem?_eq_some_iff.1 hj).1
    have h1:=hat j hjl
    rw [Go.Deep.add_add,hc] at h1
    rw [h1,hj]
   ·exact ⟨none,fun h=>absurd h hil⟩
  have hs2 : ∃ l:List α,l.length=len∧∀ i s',l[i]? = some s'→∃ c,d.K w s' c∧∀ j u,c[j]? = some u→w.cell? (a.add (i*d.sz+j))=some u:=by
   have key : ∀ k,k≤len→∃ l:List α,l.length=k∧∀ i s',l[i]? = some s'→∃ c,d.K w s' c∧∀ j u,c[j]? = some u→w.cell? (a.add (i*d.sz+j))=some u:=by
    intro k
    induction k with
    | zero=>exact fun _=>⟨[],rfl,fun i s' h=>by simp at h⟩
    | succ k ih =>
     intro hk
     obtain ⟨l,hl,hp⟩:=ih (by omega)
     obtain ⟨s,hs⟩:=hs k
     obtain ⟨s',rfl,hc'⟩:=hs (by omega)
     refine ⟨l ++ [s'],by simp [hl],fun i s2 h2=>?_⟩
     by_cases hik:i < l.length
     ·rw [List.getElem?_append_left hik] at h2
      exact hp i s2 h2
     ·have hi2:i < (l ++ [s']).length:=(List.getElem?_eq_some_iff.1 h2).1
      have hik2:i=l.length:=by simp at hi2;omega
      subst hik2
      simp at h2
      subst h2
      rw [hl]
      exact hc'
   exact key len (Nat.le_refl _)
  obtain ⟨l,rfl,hp⟩:=hs2
  refine ⟨l,some a,cap,rfl,hl,rfl,by unfold maxLen at hm;omega,fun _=>⟨a,rfl,fun j p hj=>?_⟩⟩
  obtain ⟨c,hk,hcell⟩:=hp j p hj
  exact ⟨c,d.K_len hk,hk,hcell⟩
set_option maxRecDepth 100000 in
theorem zFG:zEt Try.prog k24 24:=by
 intro H enc w base spare held fuel cs x h
 obtain ⟨y0,y1,n,_,hl,h0,h1⟩:=trod_struct2 Try.underlying24 h
 have hc:Try.prog.cellsOf 24=2:=by kernel_rfl
 have hc3:Try.prog.cellsOf 3=1:=by kernel_rfl
 rw [hc] at hl
 match cs,hl with
 | [c0,c1],_ =>
  obtain ⟨a,ha⟩:=zCZ Try.underlying3 _ _ _ _ _ _ _ _ _ h0
  obtain ⟨b,hb⟩:=zCZ Try.underlying3 _ _ _ _ _ _ _ _ _ h1
  have ha':[c0]=[.int .i64 a]:=by simp [hc3] at ha;exact ha
  have hb':[c1]=[.int .i64 b]:=by simp [hc3] at hb;exact hb
  cases ha'
  cases hb'
  exact ⟨⟨a,b⟩,k24_mk w ⟨a,b⟩⟩
set_option maxRecDepth 100000 in
theorem opens50:zEt Try.prog k50 50:=by
 intro H enc w base spare held fuel cs x h
 obtain ⟨y0,y1,y2,n,_,hl,h0,h1,h2⟩:=trod_struct3 Try.underlying50 h
 have hc:Try.prog.cellsOf 50=4:=by kernel_rfl
 have hc3:Try.prog.cellsOf 3=1:=by kernel_rfl
 have hc24:Try.prog.cellsOf 24=2:=by kernel_rfl
 rw [hc] at hl
 match cs,hl with
 | [c0,c1,c2,c3],_ =>
  obtain ⟨s,hs⟩:=zFG _ _ _ _ _ _ _ _ _ h0
  obtain ⟨a,ha⟩:=zCZ Try.underlying3 _ _ _ _ _ _ _ _ _ h1
  obtain ⟨b,hb⟩:=zCZ Try.underlying3 _ _ _ _ _ _ _ _ _ h2
  have hs':[c0,c1]=[.int .i64 s.f0,.int .i64 s.f1]:=by simpa [hc24] using zDt hs
  have ha':[c2]=[.int .i64 a]:=by simp [hc3] at ha;exact ha
  have hb':[c3]=[.int .i64 b]:=by simp [hc3] at hb;exact hb
  cases hs'
  cases ha'
  cases hb'
  exact ⟨⟨s,a,b⟩,k50_mk w ⟨s,a,b⟩⟩
set_option maxRecDepth 100000 in
theorem open26 {H:Type} {enc:TypeId × Value→H} {W:World} {base b0:Nat} {spare:Nat→Bool} {held:Bool} {r:Reach} {v:Value} {d:DataW H} {p:List MemPlace} (hv:Value.okWide Try.prog W r b0 26 v) (h:DataW.Trod enc Try.prog W base spare held 26 v d p) :
 ∃ (A:Option Addr) (c:Nat) (l:List S50) (a b:Int),v= .agg #[.slice A l.length c,.int .i64 a,.int .i64 b]∧Kd.C k50 W A l.length l∧l.length≤c:=by
 obtain ⟨cs,rfl,hsz⟩:=okWide_struct Try.underlying26 hv
 obtain ⟨fuel,hf⟩:=h
 obtain ⟨y0,y1,n,_,hl,h0,h1⟩:=trod_struct2 Try.underlying26 hf
 have hc:Try.prog.cellsOf 26=3:=by kernel_rfl
 have hc22:Try.prog.cellsOf 22=1:=by kernel_rfl
 have hc24:Try.prog.cellsOf 24=2:=by kernel_rfl
 rw [hc] at hsz
 obtain ⟨cs⟩:=cs
 match cs,hsz with
 | [c0,c1,c2],_ =>
  obtain ⟨l,A,c,hs,hlc,hC⟩:=zDZ Try.underlying22 (by kernel_rfl) opens50 _ _ _ _ _ _ _ _ _ h0
  obtain ⟨s,hs2⟩:=zFG _ _ _ _ _ _ _ _ _ h1
  have hs':[c0]=[.slice A l.length c]:=by simpa [Value.cells,hc22] using hs
  have hs2':[c1,c2]=[.int .i64 s.f0,.int .i64 s.f1]:=by simpa [Value.cells,hc24] using zDt hs2
  cases hs'
  cases hs2'
  exact ⟨A,c,l,s.f0,s.f1,rfl,hC,hlc⟩
set_option maxRecDepth 100000 in
theorem open27 {H:Type} {enc:TypeId × Value→H} {W:World} {base b0:Nat} {spare:Nat→Bool} {held:Bool} {r:Reach} {v:Value} {d:DataW H} {p:List MemPlace} (hv:Value.okWide Try.prog W r b0 27 v) (h:DataW.Trod enc Try.prog W base spare held 27 v d p) :
 ∃ (A:Option Addr) (c:Nat) (l:List Int),v= .slice A l.length c∧Kd.C (Kd.int .i64) W A l.length l∧l.length≤c:=by
 obtain ⟨a,len,cap,rfl⟩:=okWide_slice Try.underlying27 hv
 obtain ⟨fuel,hf⟩:=h
 obtain ⟨l,A,c,hs,hlc,hC⟩:=zDZ Try.underlying27 (by kernel_rfl) (zCZ Try.underlying3) _ _ _ _ _ _ _ _ _ hf
 simp [Value.cells] at hs
 obtain ⟨rfl,rfl,rfl⟩:=hs
 exact ⟨_,_,l,rfl,hC,hlc⟩
end Go.Proofs.Ythimaecnpkcmeaa.K
