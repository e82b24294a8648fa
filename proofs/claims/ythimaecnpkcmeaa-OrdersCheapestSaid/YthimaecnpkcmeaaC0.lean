/- The law holds for every input: the row, out of the walk of the code and the pure statement on numbers and lists. -/
import Derived.ArgAppend
import Derived.Below
import Derived.BigQuiet
import Derived.ChangeOld
import Derived.Deep.AppendLies
import Derived.Deep.CutBlock
import Derived.Deep.DeepCutAuto
import Derived.Deep.Draws
import Derived.Deep.LoopGhost
import Derived.Deep.OwnRows
import Derived.Deep.QuietTactic
import Derived.Deep.RegionHeld3
import Derived.KernelRfl
import Derived.Laws.BytesArg
import Derived.Laws.IdiomCopy
import Derived.Laws.MakeOwn
import Derived.Laws.OwnMore
import Derived.Laws.Rows
import Derived.Laws.Slices
import Derived.Lib.AppendStr
import Derived.Lib.ConvBytes
import Derived.Maps.AppendAt
import Derived.OpenShut
import Derived.OwnWalk
import Derived.ProofKit
import Derived.RowKit
import Derived.RowKit3
import Derived.SizedLaws
import Derived.Tactics
import Derived.Test.YthimaecnpkcmeaaRows
import Derived.WalkKit
import Derived.WideLaws
import Derived.Test.YthimaecnpkcmeaaB0
import Derived.Test.YthimaecnpkcmeaaB1
import Derived.Test.YthimaecnpkcmeaaB10
import Derived.Test.YthimaecnpkcmeaaB11
import Derived.Test.YthimaecnpkcmeaaB12
import Derived.Test.YthimaecnpkcmeaaB13
import Derived.Test.YthimaecnpkcmeaaB14
import Derived.Test.YthimaecnpkcmeaaB15
import Derived.Test.YthimaecnpkcmeaaB16
import Derived.Test.YthimaecnpkcmeaaB17
import Derived.Test.YthimaecnpkcmeaaB18
import Derived.Test.YthimaecnpkcmeaaB19
import Derived.Test.YthimaecnpkcmeaaB2
import Derived.Test.YthimaecnpkcmeaaB3
import Derived.Test.YthimaecnpkcmeaaB4
import Derived.Test.YthimaecnpkcmeaaB5
import Derived.Test.YthimaecnpkcmeaaB6
import Derived.Test.YthimaecnpkcmeaaB7
import Derived.Test.YthimaecnpkcmeaaB8
import Derived.Test.YthimaecnpkcmeaaB9
set_option linter.unusedVariables false
set_option linter.unusedSimpArgs false
set_option linter.unusedVariables false
set_option linter.unusedSimpArgs false
namespace Go.Proofs.YthimaecnpkcmeaaW.PrintWords
open Go.RowKit
theorem zBr.own {w w1:World} {g:Nat} {row:Option Nat} {base:Nat} {e:TypeId} {size n:Nat} {v:Value} {xs:List Value} (h:zBr w w1 g row) (ho:w.ownsRow base e size v n xs) (hg:v.ownBlock≠some g) (hr:v.ownBlock=none∨v.ownBlock≠row):w1.ownsRow base e size v n xs:=by
 obtain ⟨h1,h2⟩:=ho
 refine ⟨h1,?_⟩
 rcases h2 with h2|⟨b,cap,cur,rfl,hb,hh,r⟩
 ·exact .inl h2
 ·refine .inr ⟨b,cap,cur,rfl,hb,h.blk hh ?_ ?_,r⟩
  ·intro e
   exact hg (by rw [← e];rfl)
  ·rcases hr with hr|hr
   ·simp [Value.ownBlock] at hr
   ·exact hr
end Go.Proofs.YthimaecnpkcmeaaW.PrintWords
namespace Go.Proofs.Ythimaecnpkcmeaa.K
open Go.RowKit Go.Proofs.YthimaecnpkcmeaaW.PrintWords Go.Proofs.YthimaecnpkcmeaaW.PrintLast Go.Proofs.YthimaecnpkcmeaaW.PrintMore
attribute [local go_sem] zAX zAW zAg zAf zAF zAG zAU zAV   -- for this text's walks alone
set_option linter.unusedVariables false
set_option linter.unusedSimpArgs false
def zFa.f (k:Nat) (l0:List S50) (a1 a2:Int) (low high:Int) (items:List Int):Option Bool:=(zAO.f k l0 a1 a2 items low high).bind fun r=>some (!r.2)
set_option maxHeartbeats 4000000 in
set_option maxRecDepth 100000 in
theorem zFa.calls (k:Nat) (A0:Option Addr) (c0:Nat) (l0:List S50) (a1 a2:Int) (low high:Int) (g gl gh:Nat) (A1:Option Addr) (c1:Nat) (x:List Int) (z:Bool) (w:World)
 (hg:w.heap[g]? = some (.cells #[.slice A0 l0.length c0,.int .i64 a1,.int .i64 a2] 26 (0,0))) (hgl:w.heap[gl]? = some (.cells #[.int .i64 low] 3 (0,0))) (hgh:w.heap[gh]? = some (.cells #[.int .i64 high] 3 (0,0))) (hr0:Kd.C k50 w A0 l0.length l0) (hc0:l0.length≤c0) (hr1:Kd.C (Kd.int .i64) w A1 x.length x) (hc1:x.length≤c1) (h:zFa.f k l0 a1 a2 low high x=some z) :
 Calls Try.prog 60 #[.slice A1 x.length c1,.pointer (some ⟨g,0,none⟩),.pointer (some ⟨gl,0,none⟩),.pointer (some ⟨gh,0,none⟩)] w fun e w'=>e= .returned (.bool z)∧Below w.heap.size w w':=by
 have a:=Try.underlying26
 unfold zFa.f at h
 obtain ⟨⟨r1,r2⟩,ha,h⟩:=Option.bind_eq_some_iff.1 h
 have hz:=Option.some.inj h
 have HA:=zA.mk ha
 have HZ:=zA.mk hz
 have HR0:=zA.mk hr0
 have HR1:=zA.mk hr1
 have b:w.cell? ⟨g,0,none⟩=some (.slice A0 l0.length c0):=(zB hg 0).trans rfl
 have c:w.cell? ⟨g,1,none⟩=some (.int .i64 a1):=(zB hg 1).trans rfl
 have d:w.cell? ⟨g,2,none⟩=some (.int .i64 a2):=(zB hg 2).trans rfl
 have hcl:w.cell? ⟨gl,0,none⟩=some (.int .i64 low):=(zB hgl 0).trans rfl
 have hch:w.cell? ⟨gh,0,none⟩=some (.int .i64 high):=(zB hgh 0).trans rfl
 clear h ha hz hg hgl hgh hr0 hr1
 go_enter Try.func60,Try.ntmps60
 go_wp2_with (go_at_call 48;refine (zAO.calls k A0 c0 l0 a1 a2 A1 c1 x low high r1 r2 _ HR0.out hc0 HR1.out hc1 HA.out).mono ?_;rintro e W ⟨v,rfl,-,hb⟩;have n1:=zA.mk hb;clear hb)
 go_ret
 exact ⟨by rw [← HZ.out];rfl,n1.out⟩
def zFb.f (k:Nat) (a:List (S50)) (b:Int) (c:Int) (a1:Int) (a2:Int):Option (List Int × Bool × Int) :=
 (zA2.f k a b c [] a1 a2).bind fun e=>if e=0 then (if a.length≤40 then (zBV (zFa.f k a b c a1 a2) (zAS.f k a b c) (zAt a.length) ([],false)).bind fun r=>some (r.1,r.2,0) else none) else some ([],false,e)
set_option maxHeartbeats 4000000 in
set_option maxRecDepth 100000 in
theorem zFb.calls (k:Nat) (i:Option Addr) (j:Nat) (a:List (S50)) (d:Int) (g:Int) (a1:Int) (a2:Int) (r1:List Int) (r2:Bool) (r3:Int) (w:World) (n:Kd.C k50 w i a.length a) (m:a.length≤j) (h:zFb.f k a d g a1 a2=some (r1,r2,r3)) :
 Calls Try.prog 23 #[.agg #[.slice i a.length j,.int .i64 d,.int .i64 g],.int .i64 a1,.int .i64 a2] w fun e w'=>∃ v0_:Value,e= .returned (.tuple #[v0_,.bool r2,.int .i64 r3])∧Kd.R (Kd.int .i64) 3 w' w.heap.size (fun _=>True) v0_ r1∧Below w.heap.size w w':=by
 have p:=Try.underlying26
 have o:=Try.underlying100
 unfold zFb.f at h
 obtain ⟨er,he,h⟩:=Option.bind_eq_some_iff.1 h
 have HR0:=zA.mk n
 have HE:=zA.mk he
 have ec : ∀ args w,(callFunc 60 args).run Try.prog w= .ok (.enter 60 args) w:=enters_of Try.func60 (by kernel_rfl) rfl
 have EC:=zA.mk ec
 clear he n ec
 obtain ⟨w0,hw0⟩ : ∃ w0,((w.alloc (.cells #[.slice i a.length j,.int .i64 d,.int .i64 g] 26)).alloc (.cells #[.int .i64 a1] 3)).alloc (.cells #[.int .i64 a2] 3)=w0:=⟨_,rfl⟩
 have hb0:Below w.heap.size w w0:=by rw [← hw0];exact zo (zo (zo (Below.refl _ _) _) _) _
 have hwe:w0.heap[w.heap.size]? = some (.cells #[.slice i a.length j,.int .i64 d,.int .i64 g] 26 (0,0)):=by rw [← hw0];exact zC (zC (zBb _ _) _) _
 have hwl:w0.heap[w.heap.size+1]? = some (.cells #[.int .i64 a1] 3 (0,0)):=by
  have:=zC (zBb (w.alloc (.cells #[.slice i a.length j,.int .i64 d,.int .i64 g] 26)) (.cells #[.int .i64 a1] 3)) (.cells #[.int .i64 a2] 3)
  rw [World.size_alloc] at this
  rw [← hw0];exact this
 have hwh:w0.heap[w.heap.size+1+1]? = some (.cells #[.int .i64 a2] 3 (0,0)):=by
  have:=zBb ((w.alloc (.cells #[.slice i a.length j,.int .i64 d,.int .i64 g] 26)).alloc (.cells #[.int .i64 a1] 3)) (.cells #[.int .i64 a2] 3)
  rw [World.size_alloc,World.size_alloc] at this
  rw [← hw0];exact this
 have HCL : ∀ W,Below w0.heap.size w0 W→Below w.heap.size w W∧W.heap[w.heap.size]? = some (.cells #[.slice i a.length j,.int .i64 d,.int .i64 g] 26 (0,0))∧W.heap[w.heap.size+1]? = some (.cells #[.int .i64 a1] 3 (0,0))∧W.heap[w.heap.size+1+1]? = some (.cells #[.int .i64 a2] 3 (0,0)) :=
  fun W hW=>⟨zAx hb0 hW,zT hwe hW,zT hwl hW,zT hwh hW⟩
 rw [← hw0] at HCL
 have HCL:=zA.mk HCL
 clear hb0 hwe hwl hwh hw0 w0
 go_enter Try.func23,Try.ntmps23
 by_cases h1:er=0
 rotate_left
 ·rw [if_neg h1] at h
  have hd1:(er != 0)=true:=bne_iff_ne.mpr h1
  simp only [Option.some.injEq,Prod.mk.injEq] at h
  obtain ⟨rfl,rfl,rfl⟩:=h
  go_wp2_with (go_at_call 47;refine (zA2.calls k i j a d g none 0 [] a1 a2 er _ (Kd.zAZ HR0.out (zo (zo (zo (Below.refl _ _) _) _) _)) m (Kd.C_nil _ _) (Nat.le_refl _) HE.out).mono ?_;rintro e W ⟨rfl,hb⟩;obtain ⟨hb0,hbe,hbl,hbh⟩:=HCL.out _ hb;have n1:=zA.mk hb0;clear hb hb0 hbe hbl hbh)
  go_ret3
  exact ⟨_,rfl,Kd.zBW _ _ _ _ _,n1.out⟩
 rw [if_pos h1] at h
 split at h
 case isFalse=>cases h
 case isTrue hn =>
 obtain ⟨⟨q1,q2⟩,hq,h⟩:=Option.bind_eq_some_iff.1 h
 simp only [Option.some.injEq,Prod.mk.injEq] at h
 obtain ⟨rfl,rfl,rfl⟩:=h
 subst h1
 have HQ:=zA.mk hq
 have HN:=zA.mk hn
 clear hq hn
 go_wp2_with (first
  | (go_at_call 47;refine (zA2.calls k i j a d g none 0 [] a1 a2 0 _ (Kd.zAZ HR0.out (zo (zo (zo (Below.refl _ _) _) _) _)) m (Kd.C_nil _ _) (Nat.le_refl _) HE.out).mono ?_;rintro e W ⟨rfl,hb⟩;obtain ⟨hb0,hbe,hbl,hbh⟩:=HCL.out _ hb;have n1:=zA.mk hb0;have n2:=zA.mk hbe;have n3:=zA.mk hbl;have n4:=zA.mk hbh;have q:W.cell? ⟨w.heap.size,0,none⟩=some (.slice i a.length j):=(zB hbe 0).trans rfl;have r:W.cell? ⟨w.heap.size,1,none⟩=some (.int .i64 d):=(zB hbe 1).trans rfl;have s:W.cell? ⟨w.heap.size,2,none⟩=some (.int .i64 g):=(zB hbe 2).trans rfl;clear hb hb0 hbe hbl hbh)
  | (go_at_call 59;refine (zDq k i j a d g 60 #[.pointer (some ⟨w.heap.size,0,none⟩),.pointer (some ⟨w.heap.size+1,0,none⟩),.pointer (some ⟨w.heap.size+1+1,0,none⟩)] (zFa.f k a d g a1 a2) q1 q2 _ HN.out (Kd.zAZ HR0.out n1.out) m EC.out (fun l b A c W2 h1 h2 h3 h4=>by have hh:=zFa.calls k i j a d g a1 a2 w.heap.size (w.heap.size+1) (w.heap.size+1+1) A c l b W2 (zT n2.out h2) (zT n3.out h2) (zT n4.out h2) (Kd.zAZ HR0.out (n1.out.trans (h2.mono n1.out.size))) m h3 h4 h1;simpa using hh) HQ.out).mono ?_;rintro e W2 ⟨v,rfl,hR,hb⟩;have HRR:=zA.mk (Kd.zAH hR n1.out.size);have m1:=zA.mk (zAx n1.out hb);clear hR hb))
 go_ret3
 exact ⟨v,rfl,HRR.out,m1.out⟩
end Go.Proofs.Ythimaecnpkcmeaa.K
namespace Go.Proofs.Ythimaecnpkcmeaa.K
open Go.RowKit Go.Proofs.YthimaecnpkcmeaaW.PrintWords Go.Proofs.YthimaecnpkcmeaaW.PrintLast Go.Proofs.YthimaecnpkcmeaaW.PrintMore
attribute [local go_sem] zAX zAW zAg zAf zAF zAG zAU zAV   -- for this text's walks alone
set_option linter.unusedVariables false
set_option linter.unusedSimpArgs false
mutual
def zFZ.j0:Nat→List Int→Int→Int→Bool→List (S50)→Int→Int→Option (Bool)
 | 0,_,_,_,_,_,_,_=>none
 | k+1,x1,x2,x3,x41,a,b,c=>if x41=true then (some true) else ((zFb.f k a b c x2 x3).bind fun d=>((zBX.f k a b c x1 x2 x3).bind fun e=>(if d.2.2=0 then (if e.2=0 then (if e.1=true then (zFZ.j1 k x1 x2 x3 d.1 d.2.1 e.1 (!d.2.1) a b c) else (zFZ.j1 k x1 x2 x3 d.1 d.2.1 e.1 false a b c)) else (zFZ.j1 k x1 x2 x3 d.1 d.2.1 e.1 true a b c)) else (zFZ.j1 k x1 x2 x3 d.1 d.2.1 e.1 true a b c))))
def zFZ.j1:Nat→List Int→Int→Int→List Int→Bool→Bool→Bool→List (S50)→Int→Int→Option (Bool)
 | 0,_,_,_,_,_,_,_,_,_,_=>none
 | k+1,x1,x2,x3,x9,x10,x12,x70,a,b,c=>if x70=true then (some false) else (if x10=true then ((zBX.f k a b c x9 x2 x3).bind fun g=>((zDV.f k a b c x9).bind fun h=>((zDV.f k a b c x1).bind fun i=>(if g.2=0 then (if h.2=0 then (if i.2=0 then (if g.1=true then (if x12=true then (some (decide (h.1≤i.1))) else (some true)) else (some false)) else (some false)) else (some false)) else (some false))))) else (some ((x9.length:Int) == 0)))
end
def zFZ.f (k:Nat) (a:List (S50)) (b:Int) (c:Int) (l1:List Int) (a2:Int) (a3:Int):Option (Bool):=(zCR.f).bind fun d=>(if d=true then ((zZ.f k a b c).bind fun e=>(if e=true then ((zAL.f k a b c l1).bind fun g=>(if g=true then (if a2≥a3 then (zFZ.j0 k l1 a2 a3 true a b c) else (if a2 < (-1099511627776) then (zFZ.j0 k l1 a2 a3 true a b c) else (zFZ.j0 k l1 a2 a3 (decide (a3 > 1099511627776)) a b c))) else (zFZ.j0 k l1 a2 a3 true a b c))) else (zFZ.j0 k l1 a2 a3 true a b c))) else (some false))
set_option maxHeartbeats 8000000 in
set_option maxRecDepth 100000 in
theorem zFZ.calls (k:Nat) (l:Option Addr) (m:Nat) (a:List (S50)) (b:Int) (c:Int) (A1:Option Addr) (c1:Nat) (l1:List Int) (a2:Int) (a3:Int) (r:Bool) (w:World) (cf:Kd.C k50 w l a.length a) (cg:a.length≤m) (hr1:Kd.C (Kd.int .i64) w A1 l1.length l1) (hc1:l1.length≤c1) (h:zFZ.f k a b c l1 a2 a3=some r) :
 Calls Try.prog 5 #[.agg #[.slice l a.length m,.int .i64 b,.int .i64 c],.slice A1 l1.length c1,.int .i64 a2,.int .i64 a3] w fun e w'=>e= .returned (.bool r)∧Below w.heap.size w w':=by
 have dv:=Try.underlying26
 have j:=zA.mk cf
 have HC0_0:=zA.mk cg
 clear cf cg
 have HR1:=zA.mk hr1
 have HC1:=zA.mk hc1
 clear hr1 hc1
 have HB:=zA.mk (Below.refl w.heap.size w)
 have H:((zCR.f).bind fun cc=>(if cc=true then ((zZ.f k a b c).bind fun af=>(if af=true then ((zAL.f k a b c l1).bind fun x=>(if x=true then (if a2≥a3 then (zFZ.j0 k l1 a2 a3 true a b c) else (if a2 < (-1099511627776) then (zFZ.j0 k l1 a2 a3 true a b c) else (zFZ.j0 k l1 a2 a3 (decide (a3 > 1099511627776)) a b c))) else (zFZ.j0 k l1 a2 a3 true a b c))) else (zFZ.j0 k l1 a2 a3 true a b c))) else (some false)))=some r:=h
 clear h
 replace H:=Option.bind_eq_some_iff.mp H
 obtain ⟨cc,A50,H⟩:=H
 replace H:(if cc=true then ((zZ.f k a b c).bind fun af=>(if af=true then ((zAL.f k a b c l1).bind fun x=>(if x=true then (if a2≥a3 then (zFZ.j0 k l1 a2 a3 true a b c) else (if a2 < (-1099511627776) then (zFZ.j0 k l1 a2 a3 true a b c) else (zFZ.j0 k l1 a2 a3 (decide (a3 > 1099511627776)) a b c))) else (zFZ.j0 k l1 a2 a3 true a b c))) else (zFZ.j0 k l1 a2 a3 true a b c))) else (some false))=some r:=H
 have A5:=zA.mk A50
 clear A50
 by_cases c6:cc=true
 rotate_left
 ·replace c6:=Bool.eq_false_iff.mpr c6
  subst c6
  have H1:(some false)=some r:=by rw [if_neg (show ¬ (false=true) by decide)] at H;exact H
  clear H
  have H:=H1
  clear H1
  obtain rfl:=Option.some.inj H
  go_enter Try.func5,Try.ntmps5
  go_wp2_with (first|((with_reducible refine zL (N:=4) rfl ?_);refine bE #[.slice l a.length m,.int .i64 b,.int .i64 c] 26 ?_;intro ac hg w98 ao hb;have d:=qK (ao);have df:=qK (gS hg:w.heap.size≤ac);have dg:=qK (gS hg:w.heap.size≤ac);replace HB:=hQ hb;clear hb ao hg)|((with_reducible refine zH (f:=9) rfl ?_);refine gL (some 18) Try.func9 #[] ?_;(with_reducible refine (zCR.calls false _ A5.out).mono ?_);rintro e w99 ⟨rfl,hb⟩;refine ⟨_,rfl,?_⟩;replace d:=bQ d hb;replace HB:=hQ hb))
  go_ret
  exact ⟨eA,bA⟩
 subst c6
 have H1:((zZ.f k a b c).bind fun af=>(if af=true then ((zAL.f k a b c l1).bind fun x=>(if x=true then (if a2≥a3 then (zFZ.j0 k l1 a2 a3 true a b c) else (if a2 < (-1099511627776) then (zFZ.j0 k l1 a2 a3 true a b c) else (zFZ.j0 k l1 a2 a3 (decide (a3 > 1099511627776)) a b c))) else (zFZ.j0 k l1 a2 a3 true a b c))) else (zFZ.j0 k l1 a2 a3 true a b c)))=some r:=by rw [if_pos rfl] at H;exact H
 clear H
 have H:=H1
 clear H1
 have HC7:=zA.mk H
 clear H
 go_enter Try.func5,Try.ntmps5
 go_upto_region 3 with (first|((with_reducible refine zL (N:=4) rfl ?_);refine bE #[.slice l a.length m,.int .i64 b,.int .i64 c] 26 ?_;intro ac hg w8 ao hb;have d:=qK (ao);have df:=qK (gS hg:w.heap.size≤ac);have dg:=qK (gS hg:w.heap.size≤ac);replace HB:=hQ hb;clear hb ao hg)|((with_reducible refine zH (f:=9) rfl ?_);refine gL (some 18) Try.func9 #[] ?_;(with_reducible refine (zCR.calls true _ A5.out).mono ?_);rintro e w9 ⟨rfl,hb⟩;refine ⟨_,rfl,?_⟩;replace d:=bQ d hb;replace HB:=hQ hb))
 (try simp only [Act.put,List.setIfInBounds_toArray,List.set_cons_zero,List.set_cons_succ])
 go_cut [41] (fun v41 wc=>∃ (kq:Nat) (an:Bool),v41= .bool an∧zA (zFZ.j0 kq l1 a2 a3 an a b c=some r)∧zA (kq≤k)∧zA (wc.heap[ac]? = some (.cells #[(.slice l a.length m),.int .i64 b,.int .i64 c] 26 (0,0)))∧zA (Below w.heap.size w wc))
 case first =>
  have H:=HC7.out
  clear HC7
  replace H:=Option.bind_eq_some_iff.mp H
  obtain ⟨af,A100,H⟩:=H
  replace H:(if af=true then ((zAL.f k a b c l1).bind fun x=>(if x=true then (if a2≥a3 then (zFZ.j0 k l1 a2 a3 true a b c) else (if a2 < (-1099511627776) then (zFZ.j0 k l1 a2 a3 true a b c) else (zFZ.j0 k l1 a2 a3 (decide (a3 > 1099511627776)) a b c))) else (zFZ.j0 k l1 a2 a3 true a b c))) else (zFZ.j0 k l1 a2 a3 true a b c))=some r:=H
  have A10:=zA.mk A100
  clear A100
  by_cases c11:af=true
  rotate_left
  ·replace c11:=Bool.eq_false_iff.mpr c11
   subst c11
   have H1:(zFZ.j0 k l1 a2 a3 true a b c)=some r:=by rw [if_neg (show ¬ (false=true) by decide)] at H;exact H
   clear H
   have H:=H1
   clear H1
   have H':=zA.mk H
   clear H
   obtain ⟨ap,aq,ar,au,av,aw⟩:=xC3 d.out
   go_wp2_with (first|((with_reducible refine zH (f:=10) rfl ?_);refine gL (some 21) Try.func10 #[.agg #[.slice l a.length m,.int .i64 b,.int .i64 c]] ?_;(with_reducible refine (zZ.calls k _ _ a b c false _ ?side1 ?side2 A10.out).mono ?_);(case side1=>exact cS j.out);(case side2=>exact HC0_0.out);rintro e w33 ⟨rfl,hb⟩;refine ⟨_,rfl,?_⟩;replace d:=bQ d hb;replace HB:=hQ hb))
   go_meet
   case rel=>exact ⟨_,(true),sA,H',⟨by first|omega|exact Nat.le_refl _⟩,⟨by (repeat with_reducible first|apply zD|apply zF|apply zC);exact d.out⟩,⟨bA⟩⟩
  subst c11
  have H1:((zAL.f k a b c l1).bind fun x=>(if x=true then (if a2≥a3 then (zFZ.j0 k l1 a2 a3 true a b c) else (if a2 < (-1099511627776) then (zFZ.j0 k l1 a2 a3 true a b c) else (zFZ.j0 k l1 a2 a3 (decide (a3 > 1099511627776)) a b c))) else (zFZ.j0 k l1 a2 a3 true a b c)))=some r:=by rw [if_pos rfl] at H;exact H
  clear H
  have H:=H1
  clear H1
  replace H:=Option.bind_eq_some_iff.mp H
  obtain ⟨x,A120,H⟩:=H
  replace H:(if x=true then (if a2≥a3 then (zFZ.j0 k l1 a2 a3 true a b c) else (if a2 < (-1099511627776) then (zFZ.j0 k l1 a2 a3 true a b c) else (zFZ.j0 k l1 a2 a3 (decide (a3 > 1099511627776)) a b c))) else (zFZ.j0 k l1 a2 a3 true a b c))=some r:=H
  have A12:=zA.mk A120
  clear A120
  by_cases c13:x=true
  rotate_left
  ·replace c13:=Bool.eq_false_iff.mpr c13
   subst c13
   have H1:(zFZ.j0 k l1 a2 a3 true a b c)=some r:=by rw [if_neg (show ¬ (false=true) by decide)] at H;exact H
   clear H
   have H:=H1
   clear H1
   have H':=zA.mk H
   clear H
   obtain ⟨ax,ay,az,a0,a1,a4⟩:=xC3 d.out
   go_wp2_with (first|((with_reducible refine zH (f:=10) rfl ?_);refine gL (some 21) Try.func10 #[.agg #[.slice l a.length m,.int .i64 b,.int .i64 c]] ?_;(with_reducible refine (zZ.calls k _ _ a b c true _ ?side1 ?side2 A10.out).mono ?_);(case side1=>exact cS j.out);(case side2=>exact HC0_0.out);rintro e w29 ⟨rfl,hb⟩;refine ⟨_,rfl,?_⟩;replace d:=bQ d hb;replace HB:=hQ hb;obtain ⟨a5,a6,a7,a8,a9,ba⟩:=xC3 d.out)|(go_at_call 11;(with_reducible refine (zAL.calls k _ _ a b c _ _ l1 false _ ?side1 ?side2 ?side3 ?side4 A12.out).mono ?_);(case side1=>exact cS j.out);(case side2=>exact HC0_0.out);(case side3=>exact cS HR1.out);(case side4=>exact HC1.out);rintro e w31 ⟨rfl,hb⟩;replace d:=bQ d hb;replace HB:=hQ hb))
   go_meet
   case rel=>exact ⟨_,(true),sA,H',⟨by first|omega|exact Nat.le_refl _⟩,⟨by (repeat with_reducible first|apply zD|apply zF|apply zC);exact d.out⟩,⟨bA⟩⟩
  subst c13
  have H1:(if a2≥a3 then (zFZ.j0 k l1 a2 a3 true a b c) else (if a2 < (-1099511627776) then (zFZ.j0 k l1 a2 a3 true a b c) else (zFZ.j0 k l1 a2 a3 (decide (a3 > 1099511627776)) a b c)))=some r:=by rw [if_pos rfl] at H;exact H
  clear H
  have H:=H1
  clear H1
  by_cases c14:a2≥a3
  ·rw [if_pos c14] at H
   have ad:decide (a3≤a2)=true:=decide_eq_true c14
   clear c14
   (first|rw [ad]|(simp only [zBS,zBg];rw [ad])|skip)
   have H':=zA.mk H
   clear H
   obtain ⟨bb,bc,bd,be,bf,bg⟩:=xC3 d.out
   go_wp2_with (first|((with_reducible refine zH (f:=10) rfl ?_);refine gL (some 21) Try.func10 #[.agg #[.slice l a.length m,.int .i64 b,.int .i64 c]] ?_;(with_reducible refine (zZ.calls k _ _ a b c true _ ?side1 ?side2 A10.out).mono ?_);(case side1=>exact cS j.out);(case side2=>exact HC0_0.out);rintro e w16 ⟨rfl,hb⟩;refine ⟨_,rfl,?_⟩;replace d:=bQ d hb;replace HB:=hQ hb;obtain ⟨bh,bi,bj,bk,bl,bm⟩:=xC3 d.out)|(go_at_call 11;(with_reducible refine (zAL.calls k _ _ a b c _ _ l1 true _ ?side1 ?side2 ?side3 ?side4 A12.out).mono ?_);(case side1=>exact cS j.out);(case side2=>exact HC0_0.out);(case side3=>exact cS HR1.out);(case side4=>exact HC1.out);rintro e w18 ⟨rfl,hb⟩;replace d:=bQ d hb;replace HB:=hQ hb))
   go_meet
   case rel=>exact ⟨_,(true),sA,H',⟨by first|omega|exact Nat.le_refl _⟩,⟨by (repeat with_reducible first|apply zD|apply zF|apply zC);exact d.out⟩,⟨bA⟩⟩
  rw [if_neg c14] at H
  have ad:decide (a3≤a2)=false:=decide_eq_false c14
  clear c14
  (first|rw [ad]|(simp only [zBS,zBg];rw [ad])|skip)
  by_cases c19:a2 < (-1099511627776)
  ·rw [if_pos c19] at H
   have cd:decide (a2 < (-1099511627776))=true:=decide_eq_true c19
   clear c19
   have H':=zA.mk H
   clear H
   obtain ⟨bn,bo,bp,bq,br,bs⟩:=xC3 d.out
   go_wp2_with (first|((with_reducible refine zH (f:=10) rfl ?_);refine gL (some 21) Try.func10 #[.agg #[.slice l a.length m,.int .i64 b,.int .i64 c]] ?_;(with_reducible refine (zZ.calls k _ _ a b c true _ ?side1 ?side2 A10.out).mono ?_);(case side1=>exact cS j.out);(case side2=>exact HC0_0.out);rintro e w21 ⟨rfl,hb⟩;refine ⟨_,rfl,?_⟩;replace d:=bQ d hb;replace HB:=hQ hb;obtain ⟨bt,bu,bv,bw,bx,bz⟩:=xC3 d.out)|(go_at_call 11;(with_reducible refine (zAL.calls k _ _ a b c _ _ l1 true _ ?side1 ?side2 ?side3 ?side4 A12.out).mono ?_);(case side1=>exact cS j.out);(case side2=>exact HC0_0.out);(case side3=>exact cS HR1.out);(case side4=>exact HC1.out);rintro e w23 ⟨rfl,hb⟩;replace d:=bQ d hb;replace HB:=hQ hb))
   go_meet
   case rel=>exact ⟨_,(true),sA,H',⟨by first|omega|exact Nat.le_refl _⟩,⟨by (repeat with_reducible first|apply zD|apply zF|apply zC);exact d.out⟩,⟨bA⟩⟩
  rw [if_neg c19] at H
  have cd:decide (a2 < (-1099511627776))=false:=decide_eq_false c19
  clear c19
  have H':=zA.mk H
  clear H
  obtain ⟨b0,b1,b2,b3,b4,b5⟩:=xC3 d.out
  go_wp2_with (first|((with_reducible refine zH (f:=10) rfl ?_);refine gL (some 21) Try.func10 #[.agg #[.slice l a.length m,.int .i64 b,.int .i64 c]] ?_;(with_reducible refine (zZ.calls k _ _ a b c true _ ?side1 ?side2 A10.out).mono ?_);(case side1=>exact cS j.out);(case side2=>exact HC0_0.out);rintro e w25 ⟨rfl,hb⟩;refine ⟨_,rfl,?_⟩;replace d:=bQ d hb;replace HB:=hQ hb;obtain ⟨b6,b7,b8,b9,ca,cb⟩:=xC3 d.out)|(go_at_call 11;(with_reducible refine (zAL.calls k _ _ a b c _ _ l1 true _ ?side1 ?side2 ?side3 ?side4 A12.out).mono ?_);(case side1=>exact cS j.out);(case side2=>exact HC0_0.out);(case side3=>exact cS HR1.out);(case side4=>exact HC1.out);rintro e w27 ⟨rfl,hb⟩;replace d:=bQ d hb;replace HB:=hQ hb))
  go_meet
  case rel=>exact ⟨_,(decide (a3 > 1099511627776)),sA,H',⟨by first|omega|exact Nat.le_refl _⟩,⟨by (repeat with_reducible first|apply zD|apply zF|apply zC);exact d.out⟩,⟨bA⟩⟩
 case rest =>
  clear HC7
  try clear c1
  try clear p2
  try clear c5
  try clear c6
  try clear c9
  try clear c10
  try clear c11
  try clear c13
  try clear c14
  try clear ad
  try clear c19
  try clear cd
  try clear bb
  try clear bc
  try clear bd
  try clear bh
  try clear bi
  try clear bj
  try clear bn
  try clear bo
  try clear bp
  try clear bt
  try clear bu
  try clear bv
  try clear b0
  try clear b1
  try clear b2
  try clear b6
  try clear b7
  try clear b8
  try clear ax
  try clear ay
  try clear az
  try clear a5
  try clear a6
  try clear a7
  try clear ap
  try clear aq
  try clear ar
  try clear be
  try clear bf
  try clear bg
  try clear bk
  try clear bl
  try clear bm
  try clear bq
  try clear br
  try clear bs
  try clear bw
  try clear bx
  try clear bz
  try clear b3
  try clear b4
  try clear b5
  try clear b9
  try clear ca
  try clear cb
  try clear a0
  try clear a1
  try clear a4
  try clear a8
  try clear a9
  try clear ba
  try clear au
  try clear av
  try clear aw
  obtain ⟨kq,an,rfl,HA,HJ6,d,HB⟩:=hcut
  cases kq with
  | zero=>exact absurd HA.out (by simp [zFZ.j0])
  | succ kj6 =>
   have H:=HA.out
   clear HA
   simp only [zFZ.j0] at H
   by_cases c34:an=true
   ·subst c34
    have H1:(some true)=some r:=by rw [if_pos rfl] at H;exact H
    clear H
    have H:=H1
    clear H1
    obtain rfl:=Option.some.inj H
    go_wp2
    go_ret
    exact ⟨eA,bA⟩
   replace c34:=Bool.eq_false_iff.mpr c34
   subst c34
   have H1:((zFb.f kj6 a b c a2 a3).bind fun v=>((zBX.f kj6 a b c l1 a2 a3).bind fun p=>(if v.2.2=0 then (if p.2=0 then (if p.1=true then (zFZ.j1 kj6 l1 a2 a3 v.1 v.2.1 p.1 (!v.2.1) a b c) else (zFZ.j1 kj6 l1 a2 a3 v.1 v.2.1 p.1 false a b c)) else (zFZ.j1 kj6 l1 a2 a3 v.1 v.2.1 p.1 true a b c)) else (zFZ.j1 kj6 l1 a2 a3 v.1 v.2.1 p.1 true a b c))))=some r:=by rw [if_neg (show ¬ (false=true) by decide)] at H;exact H
   clear H
   have H:=H1
   clear H1
   replace H:=Option.bind_eq_some_iff.mp H
   obtain ⟨⟨i,o,ag⟩,A350,H⟩:=H
   replace H:((zBX.f kj6 a b c l1 a2 a3).bind fun p=>(if ag=0 then (if p.2=0 then (if p.1=true then (zFZ.j1 kj6 l1 a2 a3 i o p.1 (!o) a b c) else (zFZ.j1 kj6 l1 a2 a3 i o p.1 false a b c)) else (zFZ.j1 kj6 l1 a2 a3 i o p.1 true a b c)) else (zFZ.j1 kj6 l1 a2 a3 i o p.1 true a b c)))=some r:=H
   have A35:=zA.mk A350
   clear A350
   replace H:=Option.bind_eq_some_iff.mp H
   obtain ⟨⟨q,aj⟩,A360,H⟩:=H
   replace H:(if ag=0 then (if aj=0 then (if q=true then (zFZ.j1 kj6 l1 a2 a3 i o q (!o) a b c) else (zFZ.j1 kj6 l1 a2 a3 i o q false a b c)) else (zFZ.j1 kj6 l1 a2 a3 i o q true a b c)) else (zFZ.j1 kj6 l1 a2 a3 i o q true a b c))=some r:=H
   have A36:=zA.mk A360
   clear A360
   have ce:=zA.mk H
   clear H
   obtain ⟨ck,cl,cm,cn,co,cp⟩:=xC3 d.out
   go_upto_region 7 with (first|((with_reducible refine zH (f:=23) rfl ?_);refine gL (some 46) Try.func23 #[.agg #[.slice l a.length m,.int .i64 b,.int .i64 c],.int .i64 a2,.int .i64 a3] ?_;(with_reducible refine (zFb.calls kj6 _ _ a b c a2 a3 i o ag _ ?side1 ?side2 A35.out).mono ?_);(case side1=>exact cS j.out);(case side2=>exact HC0_0.out);rintro e w39 ⟨v593,rfl,ho0,hb⟩;refine ⟨_,rfl,?_⟩;have ah:=qK (Kd.zAH ho0 bZ);replace d:=bQ d hb;replace HB:=hQ hb;obtain ⟨cq,cr,cs,ct,cu,cv⟩:=xC3 d.out)|((with_reducible refine zH (f:=12) rfl ?_);refine gL (some 55) Try.func12 #[.agg #[.slice l a.length m,.int .i64 b,.int .i64 c],.slice A1 l1.length c1,.int .i64 a2,.int .i64 a3] ?_;(with_reducible refine (zBX.calls kj6 _ _ a b c _ _ l1 a2 a3 q aj _ ?side1 ?side2 ?side3 ?side4 A36.out).mono ?_);(case side1=>exact cS j.out);(case side2=>exact HC0_0.out);(case side3=>exact cS HR1.out);(case side4=>exact HC1.out);rintro e w41 ⟨rfl,hb⟩;refine ⟨_,rfl,?_⟩;replace ah:=rB ah hb;replace d:=bQ d hb;replace HB:=hQ hb))
   (try simp only [Act.put,List.setIfInBounds_toArray,List.set_cons_zero,List.set_cons_succ])
   go_cut [70] (fun v70 wc=>∃ (kq:Nat) (al:Bool),v70= .bool al∧zA (zFZ.j1 kq l1 a2 a3 i o q al a b c=some r)∧zA (kq≤kj6)∧zA (Kd.R (Kd.int .i64) 3 wc w.heap.size (fun _=>True) v593 i)∧zA (wc.heap[ac]? = some (.cells #[(.slice l a.length m),.int .i64 b,.int .i64 c] 26 (0,0)))∧zA (Below w.heap.size w wc))
   case first =>
    have H:=ce.out
    clear ce
    by_cases c42:ag=0
    rotate_left
    ·rw [if_neg c42] at H
     have ai:(ag == 0)=false:=beq_eq_false_iff_ne.mpr c42
     have ch:(ag != 0)=true:=bne_iff_ne.mpr c42
     (first|rw [ai]|(simp only [zBS,zBg];rw [ai])|skip)
     have H':=zA.mk H
     clear H
     go_wp2
     go_meet
     case rel=>exact ⟨_,(true),sA,H',⟨by have:=HJ6.out;first|omega|exact Nat.le_refl _⟩,⟨by (with_reducible repeat (first|apply Kd.zAp|apply Kd.zAn|apply Kd.zAv));exact ah.out⟩,⟨by (repeat with_reducible first|apply zD|apply zF|apply zC);exact d.out⟩,⟨bA⟩⟩
    rw [if_pos c42] at H
    have ai:(ag == 0)=true:=beq_iff_eq.mpr c42
    have ch:(ag != 0)=false:=bne_eq_false_iff_eq.mpr c42
    clear c42
    (first|rw [ai]|(simp only [zBS,zBg];rw [ai])|skip)
    by_cases c43:aj=0
    rotate_left
    ·rw [if_neg c43] at H
     have ci:(aj == 0)=false:=beq_eq_false_iff_ne.mpr c43
     have cj:(aj != 0)=true:=bne_iff_ne.mpr c43
     have H':=zA.mk H
     clear H
     go_wp2
     go_meet
     case rel=>exact ⟨_,(true),sA,H',⟨by have:=HJ6.out;first|omega|exact Nat.le_refl _⟩,⟨by (with_reducible repeat (first|apply Kd.zAp|apply Kd.zAn|apply Kd.zAv));exact ah.out⟩,⟨by (repeat with_reducible first|apply zD|apply zF|apply zC);exact d.out⟩,⟨bA⟩⟩
    rw [if_pos c43] at H
    have ci:(aj == 0)=true:=beq_iff_eq.mpr c43
    have cj:(aj != 0)=false:=bne_eq_false_iff_eq.mpr c43
    clear c43
    by_cases c44:q=true
    ·subst c44
     have H1:(zFZ.j1 kj6 l1 a2 a3 i o true (!o) a b c)=some r:=by rw [if_pos rfl] at H;exact H
     clear H
     have H:=H1
     clear H1
     have H':=zA.mk H
     clear H
     go_wp2
     go_meet
     case rel=>exact ⟨_,(!o),sA,H',⟨by have:=HJ6.out;first|omega|exact Nat.le_refl _⟩,⟨by (with_reducible repeat (first|apply Kd.zAp|apply Kd.zAn|apply Kd.zAv));exact ah.out⟩,⟨by (repeat with_reducible first|apply zD|apply zF|apply zC);exact d.out⟩,⟨bA⟩⟩
    replace c44:=Bool.eq_false_iff.mpr c44
    subst c44
    have H1:(zFZ.j1 kj6 l1 a2 a3 i o false false a b c)=some r:=by rw [if_neg (show ¬ (false=true) by decide)] at H;exact H
    clear H
    have H:=H1
    clear H1
    have H':=zA.mk H
    clear H
    go_wp2
    go_meet
    case rel=>exact ⟨_,(false),sA,H',⟨by have:=HJ6.out;first|omega|exact Nat.le_refl _⟩,⟨by (with_reducible repeat (first|apply Kd.zAp|apply Kd.zAn|apply Kd.zAv));exact ah.out⟩,⟨by (repeat with_reducible first|apply zD|apply zF|apply zC);exact d.out⟩,⟨bA⟩⟩
   case rest =>
    clear ce
    try clear c1
    try clear c2
    try clear p2
    try clear c3
    try clear c4
    try clear c5
    try clear c6
    try clear c9
    try clear c10
    try clear c11
    try clear c12
    try clear c13
    try clear c14
    try clear ad
    try clear c19
    try clear cd
    try clear c23
    try clear c34
    try clear c42
    try clear ai
    try clear ch
    try clear c43
    try clear ci
    try clear cj
    try clear c44
    try clear bb
    try clear bc
    try clear bd
    try clear bh
    try clear bi
    try clear bj
    try clear bn
    try clear bo
    try clear bp
    try clear bt
    try clear bu
    try clear bv
    try clear b0
    try clear b1
    try clear b2
    try clear b6
    try clear b7
    try clear b8
    try clear ax
    try clear ay
    try clear az
    try clear a5
    try clear a6
    try clear a7
    try clear ap
    try clear aq
    try clear ar
    try clear ck
    try clear cl
    try clear cm
    try clear cq
    try clear cr
    try clear cs
    try clear be
    try clear bf
    try clear bg
    try clear bk
    try clear bl
    try clear bm
    try clear bq
    try clear br
    try clear bs
    try clear bw
    try clear bx
    try clear bz
    try clear b3
    try clear b4
    try clear b5
    try clear b9
    try clear ca
    try clear cb
    try clear a0
    try clear a1
    try clear a4
    try clear a8
    try clear a9
    try clear ba
    try clear au
    try clear av
    try clear aw
    try clear cn
    try clear co
    try clear cp
    try clear ct
    try clear cu
    try clear cv
    try clear p2
    obtain ⟨kq,al,rfl,HA,dw,g,d,HB⟩:=hcut
    cases kq with
    | zero=>exact absurd HA.out (by simp [zFZ.j1])
    | succ n =>
     have H:=HA.out
     clear HA
     simp only [zFZ.j1] at H
     by_cases c45:al=true
     ·subst c45
      have H1:(some false)=some r:=by rw [if_pos rfl] at H;exact H
      clear H
      have H:=H1
      clear H1
      obtain rfl:=Option.some.inj H
      go_wp2
      go_ret
      exact ⟨eA,bA⟩
     replace c45:=Bool.eq_false_iff.mpr c45
     subst c45
     have H1:(if o=true then ((zBX.f n a b c i a2 a3).bind fun am=>((zDV.f n a b c i).bind fun aa=>((zDV.f n a b c l1).bind fun s=>(if am.2=0 then (if aa.2=0 then (if s.2=0 then (if am.1=true then (if q=true then (some (decide (aa.1≤s.1))) else (some true)) else (some false)) else (some false)) else (some false)) else (some false))))) else (some ((i.length:Int) == 0)))=some r:=by rw [if_neg (show ¬ (false=true) by decide)] at H;exact H
     clear H
     have H:=H1
     clear H1
     by_cases c46:o=true
     rotate_left
     ·replace c46:=Bool.eq_false_iff.mpr c46
      subst c46
      have H1:(some ((i.length:Int) == 0))=some r:=by rw [if_neg (show ¬ (false=true) by decide)] at H;exact H
      clear H
      have H:=H1
      clear H1
      obtain rfl:=Option.some.inj H
      obtain ⟨dx,dy,dn⟩:=Kd.zq g.out
      subst dn
      go_wp2
      go_ret
      exact ⟨eA,bA⟩
     subst c46
     have H1:((zBX.f n a b c i a2 a3).bind fun am=>((zDV.f n a b c i).bind fun aa=>((zDV.f n a b c l1).bind fun s=>(if am.2=0 then (if aa.2=0 then (if s.2=0 then (if am.1=true then (if q=true then (some (decide (aa.1≤s.1))) else (some true)) else (some false)) else (some false)) else (some false)) else (some false)))))=some r:=by rw [if_pos rfl] at H;exact H
     clear H
     have H:=H1
     clear H1
     replace H:=Option.bind_eq_some_iff.mp H
     obtain ⟨⟨ak,t⟩,A470,H⟩:=H
     replace H:((zDV.f n a b c i).bind fun aa=>((zDV.f n a b c l1).bind fun s=>(if t=0 then (if aa.2=0 then (if s.2=0 then (if ak=true then (if q=true then (some (decide (aa.1≤s.1))) else (some true)) else (some false)) else (some false)) else (some false)) else (some false))))=some r:=H
     have A47:=zA.mk A470
     clear A470
     replace H:=Option.bind_eq_some_iff.mp H
     obtain ⟨⟨ab,u⟩,A480,H⟩:=H
     replace H:((zDV.f n a b c l1).bind fun s=>(if t=0 then (if u=0 then (if s.2=0 then (if ak=true then (if q=true then (some (decide (ab≤s.1))) else (some true)) else (some false)) else (some false)) else (some false)) else (some false)))=some r:=H
     have A48:=zA.mk A480
     clear A480
     replace H:=Option.bind_eq_some_iff.mp H
     obtain ⟨⟨ae,y⟩,A490,H⟩:=H
     replace H:(if t=0 then (if u=0 then (if y=0 then (if ak=true then (if q=true then (some (decide (ab≤ae))) else (some true)) else (some false)) else (some false)) else (some false)) else (some false))=some r:=H
     have A49:=zA.mk A490
     clear A490
     by_cases c50:t=0
     rotate_left
     ·rw [if_neg c50] at H
      have dh:(t == 0)=false:=beq_eq_false_iff_ne.mpr c50
      have di:(t != 0)=true:=bne_iff_ne.mpr c50
      obtain rfl:=Option.some.inj H
      obtain ⟨_,_,_,_,_,_⟩:=xC3 d.out
      obtain ⟨cw,cx,dp⟩:=Kd.zq g.out
      subst dp
      go_wp2_with (first|((with_reducible refine zH (f:=12) rfl ?_);refine gL (some 81) Try.func12 #[.agg #[.slice l a.length m,.int .i64 b,.int .i64 c],.slice cw i.length cx,.int .i64 a2,.int .i64 a3] ?_;(with_reducible refine (zBX.calls n _ _ a b c _ _ i a2 a3 ak t _ ?side1 ?side2 ?side3 ?side4 A47.out).mono ?_);(case side1=>exact cS j.out);(case side2=>exact HC0_0.out);(case side3=>exact cR (Kd.zJ g.out).2.2);(case side4=>exact (Kd.zJ g.out).2.1);rintro e w92 ⟨rfl,hb⟩;refine ⟨_,rfl,?_⟩;replace g:=rB g hb;replace d:=bQ d hb;replace HB:=hQ hb;obtain ⟨_,_,_,_,_,_⟩:=xC3 d.out)|((with_reducible refine zH (f:=24) rfl ?_);refine gL (some 87) Try.func24 #[.agg #[.slice l a.length m,.int .i64 b,.int .i64 c],.slice cw i.length cx] ?_;(with_reducible refine (zDV.calls n _ _ a b c _ _ i ab u _ ?side1 ?side2 ?side3 ?side4 A48.out).mono ?_);(case side1=>exact cS j.out);(case side2=>exact HC0_0.out);(case side3=>exact cR (Kd.zJ g.out).2.2);(case side4=>exact (Kd.zJ g.out).2.1);rintro e w94 ⟨rfl,hb⟩;refine ⟨_,rfl,?_⟩;replace g:=rB g hb;replace d:=bQ d hb;replace HB:=hQ hb;obtain ⟨_,_,_,_,_,_⟩:=xC3 d.out)|((with_reducible refine zH (f:=24) rfl ?_);refine gL (some 93) Try.func24 #[.agg #[.slice l a.length m,.int .i64 b,.int .i64 c],.slice A1 l1.length c1] ?_;(with_reducible refine (zDV.calls n _ _ a b c _ _ l1 ae y _ ?side1 ?side2 ?side3 ?side4 A49.out).mono ?_);(case side1=>exact cS j.out);(case side2=>exact HC0_0.out);(case side3=>exact cS HR1.out);(case side4=>exact HC1.out);rintro e w96 ⟨rfl,hb⟩;refine ⟨_,rfl,?_⟩;replace g:=rB g hb;replace d:=bQ d hb;replace HB:=hQ hb))
      go_ret
      exact ⟨eA,bA⟩
     rw [if_pos c50] at H
     have dh:(t == 0)=true:=beq_iff_eq.mpr c50
     have di:(t != 0)=false:=bne_eq_false_iff_eq.mpr c50
     clear c50
     by_cases c51:u=0
     rotate_left
     ·rw [if_neg c51] at H
      have dj:(u == 0)=false:=beq_eq_false_iff_ne.mpr c51
      have dk:(u != 0)=true:=bne_iff_ne.mpr c51
      obtain rfl:=Option.some.inj H
      obtain ⟨_,_,_,_,_,_⟩:=xC3 d.out
      obtain ⟨cy,cz,dq⟩:=Kd.zq g.out
      subst dq
      go_wp2_with (first|((with_reducible refine zH (f:=12) rfl ?_);refine gL (some 81) Try.func12 #[.agg #[.slice l a.length m,.int .i64 b,.int .i64 c],.slice cy i.length cz,.int .i64 a2,.int .i64 a3] ?_;(with_reducible refine (zBX.calls n _ _ a b c _ _ i a2 a3 ak t _ ?side1 ?side2 ?side3 ?side4 A47.out).mono ?_);(case side1=>exact cS j.out);(case side2=>exact HC0_0.out);(case side3=>exact cR (Kd.zJ g.out).2.2);(case side4=>exact (Kd.zJ g.out).2.1);rintro e w85 ⟨rfl,hb⟩;refine ⟨_,rfl,?_⟩;replace g:=rB g hb;replace d:=bQ d hb;replace HB:=hQ hb;obtain ⟨_,_,_,_,_,_⟩:=xC3 d.out)|((with_reducible refine zH (f:=24) rfl ?_);refine gL (some 87) Try.func24 #[.agg #[.slice l a.length m,.int .i64 b,.int .i64 c],.slice cy i.length cz] ?_;(with_reducible refine (zDV.calls n _ _ a b c _ _ i ab u _ ?side1 ?side2 ?side3 ?side4 A48.out).mono ?_);(case side1=>exact cS j.out);(case side2=>exact HC0_0.out);(case side3=>exact cR (Kd.zJ g.out).2.2);(case side4=>exact (Kd.zJ g.out).2.1);rintro e w87 ⟨rfl,hb⟩;refine ⟨_,rfl,?_⟩;replace g:=rB g hb;replace d:=bQ d hb;replace HB:=hQ hb;obtain ⟨_,_,_,_,_,_⟩:=xC3 d.out)|((with_reducible refine zH (f:=24) rfl ?_);refine gL (some 93) Try.func24 #[.agg #[.slice l a.length m,.int .i64 b,.int .i64 c],.slice A1 l1.length c1] ?_;(with_reducible refine (zDV.calls n _ _ a b c _ _ l1 ae y _ ?side1 ?side2 ?side3 ?side4 A49.out).mono ?_);(case side1=>exact cS j.out);(case side2=>exact HC0_0.out);(case side3=>exact cS HR1.out);(case side4=>exact HC1.out);rintro e w89 ⟨rfl,hb⟩;refine ⟨_,rfl,?_⟩;replace g:=rB g hb;replace d:=bQ d hb;replace HB:=hQ hb))
      go_ret
      exact ⟨eA,bA⟩
     rw [if_pos c51] at H
     have dj:(u == 0)=true:=beq_iff_eq.mpr c51
     have dk:(u != 0)=false:=bne_eq_false_iff_eq.mpr c51
     clear c51
     by_cases c52:y=0
     rotate_left
     ·rw [if_neg c52] at H
      have dl:(y == 0)=false:=beq_eq_false_iff_ne.mpr c52
      have dm:(y != 0)=true:=bne_iff_ne.mpr c52
      obtain rfl:=Option.some.inj H
      obtain ⟨_,_,_,_,_,_⟩:=xC3 d.out
      obtain ⟨c0,c7,dr⟩:=Kd.zq g.out
      subst dr
      go_wp2_with (first|((with_reducible refine zH (f:=12) rfl ?_);refine gL (some 81) Try.func12 #[.agg #[.slice l a.length m,.int .i64 b,.int .i64 c],.slice c0 i.length c7,.int .i64 a2,.int .i64 a3] ?_;(with_reducible refine (zBX.calls n _ _ a b c _ _ i a2 a3 ak t _ ?side1 ?side2 ?side3 ?side4 A47.out).mono ?_);(case side1=>exact cS j.out);(case side2=>exact HC0_0.out);(case side3=>exact cR (Kd.zJ g.out).2.2);(case side4=>exact (Kd.zJ g.out).2.1);rintro e w78 ⟨rfl,hb⟩;refine ⟨_,rfl,?_⟩;replace g:=rB g hb;replace d:=bQ d hb;replace HB:=hQ hb;obtain ⟨_,_,_,_,_,_⟩:=xC3 d.out)|((with_reducible refine zH (f:=24) rfl ?_);refine gL (some 87) Try.func24 #[.agg #[.slice l a.length m,.int .i64 b,.int .i64 c],.slice c0 i.length c7] ?_;(with_reducible refine (zDV.calls n _ _ a b c _ _ i ab u _ ?side1 ?side2 ?side3 ?side4 A48.out).mono ?_);(case side1=>exact cS j.out);(case side2=>exact HC0_0.out);(case side3=>exact cR (Kd.zJ g.out).2.2);(case side4=>exact (Kd.zJ g.out).2.1);rintro e w80 ⟨rfl,hb⟩;refine ⟨_,rfl,?_⟩;replace g:=rB g hb;replace d:=bQ d hb;replace HB:=hQ hb;obtain ⟨_,_,_,_,_,_⟩:=xC3 d.out)|((with_reducible refine zH (f:=24) rfl ?_);refine gL (some 93) Try.func24 #[.agg #[.slice l a.length m,.int .i64 b,.int .i64 c],.slice A1 l1.length c1] ?_;(with_reducible refine (zDV.calls n _ _ a b c _ _ l1 ae y _ ?side1 ?side2 ?side3 ?side4 A49.out).mono ?_);(case side1=>exact cS j.out);(case side2=>exact HC0_0.out);(case side3=>exact cS HR1.out);(case side4=>exact HC1.out);rintro e w82 ⟨rfl,hb⟩;refine ⟨_,rfl,?_⟩;replace g:=rB g hb;replace d:=bQ d hb;replace HB:=hQ hb))
      go_ret
      exact ⟨eA,bA⟩
     rw [if_pos c52] at H
     have dl:(y == 0)=true:=beq_iff_eq.mpr c52
     have dm:(y != 0)=false:=bne_eq_false_iff_eq.mpr c52
     clear c52
     by_cases c53:ak=true
     rotate_left
     ·replace c53:=Bool.eq_false_iff.mpr c53
      subst c53
      have H1:(some false)=some r:=by rw [if_neg (show ¬ (false=true) by decide)] at H;exact H
      clear H
      have H:=H1
      clear H1
      obtain rfl:=Option.some.inj H
      obtain ⟨_,_,_,_,_,_⟩:=xC3 d.out
      obtain ⟨c8,da,ds⟩:=Kd.zq g.out
      subst ds
      go_wp2_with (first|((with_reducible refine zH (f:=12) rfl ?_);refine gL (some 81) Try.func12 #[.agg #[.slice l a.length m,.int .i64 b,.int .i64 c],.slice c8 i.length da,.int .i64 a2,.int .i64 a3] ?_;(with_reducible refine (zBX.calls n _ _ a b c _ _ i a2 a3 false t _ ?side1 ?side2 ?side3 ?side4 A47.out).mono ?_);(case side1=>exact cS j.out);(case side2=>exact HC0_0.out);(case side3=>exact cR (Kd.zJ g.out).2.2);(case side4=>exact (Kd.zJ g.out).2.1);rintro e w71 ⟨rfl,hb⟩;refine ⟨_,rfl,?_⟩;replace g:=rB g hb;replace d:=bQ d hb;replace HB:=hQ hb;obtain ⟨_,_,_,_,_,_⟩:=xC3 d.out)|((with_reducible refine zH (f:=24) rfl ?_);refine gL (some 87) Try.func24 #[.agg #[.slice l a.length m,.int .i64 b,.int .i64 c],.slice c8 i.length da] ?_;(with_reducible refine (zDV.calls n _ _ a b c _ _ i ab u _ ?side1 ?side2 ?side3 ?side4 A48.out).mono ?_);(case side1=>exact cS j.out);(case side2=>exact HC0_0.out);(case side3=>exact cR (Kd.zJ g.out).2.2);(case side4=>exact (Kd.zJ g.out).2.1);rintro e w73 ⟨rfl,hb⟩;refine ⟨_,rfl,?_⟩;replace g:=rB g hb;replace d:=bQ d hb;replace HB:=hQ hb;obtain ⟨_,_,_,_,_,_⟩:=xC3 d.out)|((with_reducible refine zH (f:=24) rfl ?_);refine gL (some 93) Try.func24 #[.agg #[.slice l a.length m,.int .i64 b,.int .i64 c],.slice A1 l1.length c1] ?_;(with_reducible refine (zDV.calls n _ _ a b c _ _ l1 ae y _ ?side1 ?side2 ?side3 ?side4 A49.out).mono ?_);(case side1=>exact cS j.out);(case side2=>exact HC0_0.out);(case side3=>exact cS HR1.out);(case side4=>exact HC1.out);rintro e w75 ⟨rfl,hb⟩;refine ⟨_,rfl,?_⟩;replace g:=rB g hb;replace d:=bQ d hb;replace HB:=hQ hb))
      go_ret
      exact ⟨eA,bA⟩
     subst c53
     have H1:(if q=true then (some (decide (ab≤ae))) else (some true))=some r:=by rw [if_pos rfl] at H;exact H
     clear H
     have H:=H1
     clear H1
     by_cases c54:q=true
     ·subst c54
      have H1:(some (decide (ab≤ae)))=some r:=by rw [if_pos rfl] at H;exact H
      clear H
      have H:=H1
      clear H1
      obtain rfl:=Option.some.inj H
      obtain ⟨_,_,_,_,_,_⟩:=xC3 d.out
      obtain ⟨db,dc,dt⟩:=Kd.zq g.out
      subst dt
      go_wp2_with (first|((with_reducible refine zH (f:=12) rfl ?_);refine gL (some 81) Try.func12 #[.agg #[.slice l a.length m,.int .i64 b,.int .i64 c],.slice db i.length dc,.int .i64 a2,.int .i64 a3] ?_;(with_reducible refine (zBX.calls n _ _ a b c _ _ i a2 a3 true t _ ?side1 ?side2 ?side3 ?side4 A47.out).mono ?_);(case side1=>exact cS j.out);(case side2=>exact HC0_0.out);(case side3=>exact cR (Kd.zJ g.out).2.2);(case side4=>exact (Kd.zJ g.out).2.1);rintro e w57 ⟨rfl,hb⟩;refine ⟨_,rfl,?_⟩;replace g:=rB g hb;replace d:=bQ d hb;replace HB:=hQ hb;obtain ⟨_,_,_,_,_,_⟩:=xC3 d.out)|((with_reducible refine zH (f:=24) rfl ?_);refine gL (some 87) Try.func24 #[.agg #[.slice l a.length m,.int .i64 b,.int .i64 c],.slice db i.length dc] ?_;(with_reducible refine (zDV.calls n _ _ a b c _ _ i ab u _ ?side1 ?side2 ?side3 ?side4 A48.out).mono ?_);(case side1=>exact cS j.out);(case side2=>exact HC0_0.out);(case side3=>exact cR (Kd.zJ g.out).2.2);(case side4=>exact (Kd.zJ g.out).2.1);rintro e w59 ⟨rfl,hb⟩;refine ⟨_,rfl,?_⟩;replace g:=rB g hb;replace d:=bQ d hb;replace HB:=hQ hb;obtain ⟨_,_,_,_,_,_⟩:=xC3 d.out)|((with_reducible refine zH (f:=24) rfl ?_);refine gL (some 93) Try.func24 #[.agg #[.slice l a.length m,.int .i64 b,.int .i64 c],.slice A1 l1.length c1] ?_;(with_reducible refine (zDV.calls n _ _ a b c _ _ l1 ae y _ ?side1 ?side2 ?side3 ?side4 A49.out).mono ?_);(case side1=>exact cS j.out);(case side2=>exact HC0_0.out);(case side3=>exact cS HR1.out);(case side4=>exact HC1.out);rintro e w61 ⟨rfl,hb⟩;refine ⟨_,rfl,?_⟩;replace g:=rB g hb;replace d:=bQ d hb;replace HB:=hQ hb))
      go_ret
      exact ⟨eA,bA⟩
     replace c54:=Bool.eq_false_iff.mpr c54
     subst c54
     have H1:(some true)=some r:=by rw [if_neg (show ¬ (false=true) by decide)] at H;exact H
     clear H
     have H:=H1
     clear H1
     obtain rfl:=Option.some.inj H
     obtain ⟨_,_,_,_,_,_⟩:=xC3 d.out
     obtain ⟨dd,de,du⟩:=Kd.zq g.out
     subst du
     go_wp2_with (first|((with_reducible refine zH (f:=12) rfl ?_);refine gL (some 81) Try.func12 #[.agg #[.slice l a.length m,.int .i64 b,.int .i64 c],.slice dd i.length de,.int .i64 a2,.int .i64 a3] ?_;(with_reducible refine (zBX.calls n _ _ a b c _ _ i a2 a3 true t _ ?side1 ?side2 ?side3 ?side4 A47.out).mono ?_);(case side1=>exact cS j.out);(case side2=>exact HC0_0.out);(case side3=>exact cR (Kd.zJ g.out).2.2);(case side4=>exact (Kd.zJ g.out).2.1);rintro e w64 ⟨rfl,hb⟩;refine ⟨_,rfl,?_⟩;replace g:=rB g hb;replace d:=bQ d hb;replace HB:=hQ hb;obtain ⟨_,_,_,_,_,_⟩:=xC3 d.out)|((with_reducible refine zH (f:=24) rfl ?_);refine gL (some 87) Try.func24 #[.agg #[.slice l a.length m,.int .i64 b,.int .i64 c],.slice dd i.length de] ?_;(with_reducible refine (zDV.calls n _ _ a b c _ _ i ab u _ ?side1 ?side2 ?side3 ?side4 A48.out).mono ?_);(case side1=>exact cS j.out);(case side2=>exact HC0_0.out);(case side3=>exact cR (Kd.zJ g.out).2.2);(case side4=>exact (Kd.zJ g.out).2.1);rintro e w66 ⟨rfl,hb⟩;refine ⟨_,rfl,?_⟩;replace g:=rB g hb;replace d:=bQ d hb;replace HB:=hQ hb;obtain ⟨_,_,_,_,_,_⟩:=xC3 d.out)|((with_reducible refine zH (f:=24) rfl ?_);refine gL (some 93) Try.func24 #[.agg #[.slice l a.length m,.int .i64 b,.int .i64 c],.slice A1 l1.length c1] ?_;(with_reducible refine (zDV.calls n _ _ a b c _ _ l1 ae y _ ?side1 ?side2 ?side3 ?side4 A49.out).mono ?_);(case side1=>exact cS j.out);(case side2=>exact HC0_0.out);(case side3=>exact cS HR1.out);(case side4=>exact HC1.out);rintro e w68 ⟨rfl,hb⟩;refine ⟨_,rfl,?_⟩;replace g:=rB g hb;replace d:=bQ d hb;replace HB:=hQ hb))
     go_ret
     exact ⟨eA,bA⟩
end Go.Proofs.Ythimaecnpkcmeaa.K
namespace Go.Proofs.Ythimaecnpkcmeaa.Pure
open Go.RowKit Go.Proofs.Ythimaecnpkcmeaa.K Go.Proofs.YthimaecnpkcmeaaW.PrintWords Go.Proofs.YthimaecnpkcmeaaW.PrintLast Go.Proofs.YthimaecnpkcmeaaW.PrintMore
def zFc (l:List S50) (items:List Int):Int:=(items.map fun j=>(zG l j).f1).sum
theorem zFk (l:List S50) (items:List Int) (i:Nat) (h:i < items.length):zFc l (items.take (i+1))=zFc l (items.take i)+(zG l items[i]).f1:=by
 unfold zFc;rw [List.take_succ_eq_append_getElem h];simp only [List.map_append,List.sum_append,List.map_cons,List.map_nil,List.sum_cons,List.sum_nil,Int.add_zero]
theorem zFt (l:List S50) (h:l.all okB=true) : ∀ (items:List Int),(∀ j ∈ items,0≤j∧j < (l.length:Int))→0≤zFc l items∧zFc l items≤10000*items.length
 | [],_=>by simp [zFc]
 | i :: is,hr=>by
  have h1:=hr i (by simp)
  have h2:=zB4.1 (zER h i h1.1 h1.2)
  have h3:=zFt l h is fun j hj=>hr j (by simp [hj])
  have e:zFc l (i :: is)=(zG l i).f1+zFc l is:=by simp [zFc]
  rw [e,List.length_cons]
  omega
theorem cost_l0 (l:List S50) (a b:Int) (h:l.all okB=true) (items:List Int) (hr : ∀ j ∈ items,0≤j∧j < (l.length:Int)) (hn:items.length≤40) : ∀ d i k,i+d=items.length→d < k →
 zAk.l0 k (zFc l (items.take i)) items items.length (i:Int) l a b=some (zFc l items):=by
 intro d
 induction d with
 | zero =>
  intro i k hi hk
  obtain ⟨k,rfl⟩:=fuel hk
  simp only [zAk.l0]
  rw [if_neg (by omega),List.take_of_length_le (by omega)]
 | succ d ih =>
  intro i k hi hk
  obtain ⟨k,rfl⟩:=fuel hk
  have hil:i < items.length:=by omega
  have hm:=hr _ (List.getElem_mem hil)
  have hok:=zB4.1 (zER h _ hm.1 hm.2)
  have hb:=zFt l h (items.take i) fun j hj=>hr j (List.mem_of_mem_take hj)
  have h3:=List.length_take_le i items
  simp only [zAk.l0]
  rw [if_pos (by omega),if_pos (by omega),if_pos (by omega),zC3 items i hil,zDC hil (by omega),if_pos hm.1,if_pos hm.2,w64 (x:=zFc _ _+_) (by omega) (by omega),← zFk l items i hil]
  exact ih (i+1) k (by omega) (by omega)
theorem zFp (l:List S50) (a b:Int) (h:l.all okB=true) (items:List Int) (hr : ∀ j ∈ items,0≤j∧j < (l.length:Int)) (hn:items.length≤40) (k:Nat) (hk:40 < k):zAk.f k l a b items=some (zFc l items) :=
 cost_l0 l a b h items hr hn items.length 0 k (by omega) (by omega)
theorem zFo (x y:List Int) (hx:x.length≤40) : ∀ d i k,i+d=x.length→d < k→∃ c,zAJ.l0 k x y x x.length (i:Int)=some c:=by
 intro d
 induction d with
 | zero =>
  intro i k hi hk
  obtain ⟨k,rfl⟩:=fuel hk
  simp only [zAJ.l0]
  rw [if_neg (by omega)]
  split <;> exact ⟨_,rfl⟩
 | succ d ih =>
  intro i k hi hk
  obtain ⟨k,rfl⟩:=fuel hk
  have hil:i < x.length:=by omega
  simp only [zAJ.l0]
  rw [if_pos (by omega),if_pos (by omega),if_pos (by omega),zDC hil (by omega)]
  by_cases c1:(i:Int)≥y.length
  ·rw [if_pos c1];exact ⟨_,rfl⟩
  ·rw [if_neg c1,if_pos (by omega)]
   have : ∃ t,cmp_Compare_int.f (rd x i) (rd y i)=some t:=by
    unfold cmp_Compare_int.f cmp_isNaN_int.f
    simp
    split <;> (try split) <;> exact ⟨_,rfl⟩
   obtain ⟨t,ht⟩:=this
   rw [ht]
   simp only [Option.bind_some]
   split
   ·exact ih (i+1) k (by omega) (by omega)
   ·exact ⟨_,rfl⟩
theorem zFq (l:List S50) (a b:Int) (h:l.all okB=true) (x y:List Int) (hx : ∀ j ∈ x,0≤j∧j < (l.length:Int)) (hy : ∀ j ∈ y,0≤j∧j < (l.length:Int)) (nx:x.length≤40) (ny:y.length≤40) (k:Nat) (hk:40 < k) :
 ∃ c,zAS.f k l a b x y=some c∧(c < 0→zFc l x≤zFc l y)∧(¬ c < 0→zFc l y≤zFc l x):=by
 unfold zAS.f
 rw [zFp l a b h x hx nx k hk,zFp l a b h y hy ny k hk]
 obtain ⟨c,hc⟩:=zFo x y nx x.length 0 k (by omega) (by omega)
 unfold zAJ.f
 rw [Int.natCast_zero] at hc
 rw [hc]
 simp only [Option.bind_some]
 refine ⟨_,rfl,?_⟩
 unfold or3
 have e:zDB (zFc l x) (zFc l y)=if zFc l x < zFc l y then -1 else if zFc l y < zFc l x then 1 else 0:=rfl
 rw [e]
 by_cases c1:zFc l x < zFc l y
 ·rw [if_pos c1]
  exact ⟨fun _=>by omega,fun h=>by simp at h⟩
 ·rw [if_neg c1]
  by_cases c2:zFc l y < zFc l x
  ·rw [if_pos c2]
   exact ⟨fun h=>by simp at h,fun _=>by omega⟩
  ·exact ⟨fun _=>by omega,fun _=>by omega⟩
theorem zFh (n:Nat) : ∀ (q:List Nat) (p:Int),(∀ x ∈ q,x < n∧p < (x:Int))→q.Pairwise (· < ·)→rightFrom n p (q.map Int.ofNat)=true
 | [],_,_,_=>rfl
 | x :: xs,p,h,hp=>by
  have h1:=h x (by simp)
  rw [List.pairwise_cons] at hp
  rw [List.map_cons]
  refine zCh.2 ⟨by simp,by simp;exact h1.1,by simpa using h1.2,zFh n xs _ (fun y hy=>⟨(h y (by simp [hy])).1,by have:=hp.1 y hy;simp;omega⟩) hp.2⟩
theorem zFn (n s:Nat):rightFrom n (-1) (subset n s)=true:=by
 unfold subset
 refine zFh n _ _ (fun x hx=>?_) (List.Pairwise.filter _ List.pairwise_lt_range)
 have:=List.mem_range.1 (List.mem_filter.1 hx).1
 omega
theorem zFd {n:Nat} {x:List Int} (h:x ∈ zAt n):rightFrom n (-1) x=true:=by
 obtain ⟨s,_,rfl⟩:=List.mem_map.1 h
 exact zFn n s
theorem zFe (n:Nat) : ∀ (items:List Int) (p:Int),rightFrom (n+1:Nat) p items=true→rightFrom n p items=true∨∃ init,items=init ++ [(n:Int)]∧rightFrom n p init=true
 | [],p,_=>.inl rfl
 | i :: is,p,h=>by
  obtain ⟨h1,h2,h3,h4⟩:=zCh.1 h
  rcases zFe n is i h4 with h5|⟨init,rfl,h5⟩
  ·by_cases c:i < (n:Int)
   ·exact .inl (zCh.2 ⟨h1,c,h3,h5⟩)
   ·have hin:i=(n:Int):=by omega
    cases is with
    | nil=>exact .inr ⟨[],by simp [hin],rfl⟩
    | cons j js =>
     have:=zCh.1 h4
     omega
  ·by_cases c:i < (n:Int)
   ·exact .inr ⟨i :: init,rfl,zCh.2 ⟨h1,c,h3,h5⟩⟩
   ·exfalso
    have:=zCs h4 (n:Int) (by simp)
    omega
theorem zFj (n s:Nat):subset (n+1) s=subset n s ++ (if s.testBit n=true then [(n:Int)] else []):=by
 unfold subset
 rw [List.range_succ,List.filter_append,List.map_append]
 congr 1
 by_cases h:s.testBit n=true <;> simp [h]
theorem zFr (n s:Nat):subset n (2 ^ n+s)=subset n s:=by
 unfold subset
 congr 1
 refine List.filter_congr fun i hi=>?_
 exact Nat.testBit_two_pow_add_gt (List.mem_range.1 hi) s
theorem zFg : ∀ (n:Nat) (items:List Int),rightFrom n (-1) items=true→∃ s,s < 2 ^ n∧subset n s=items
 | 0,items,h=>by
  cases items with
  | nil=>exact ⟨0,by simp,rfl⟩
  | cons i is=>have:=zCh.1 h;omega
 | n+1,items,h=>by
  rcases zFe n items (-1) h with h1|⟨init,rfl,h1⟩
  ·obtain ⟨s,hs,e⟩:=zFg n items h1
   refine ⟨s,by rw [Nat.pow_succ];omega,?_⟩
   rw [zFj,if_neg (by rw [Nat.testBit_lt_two_pow hs];simp),List.append_nil,e]
  ·obtain ⟨s,hs,e⟩:=zFg n init h1
   refine ⟨2 ^ n+s,by rw [Nat.pow_succ];omega,?_⟩
   rw [zFj,zFr,e,if_pos]
   rw [Nat.testBit_two_pow_add_eq,Nat.testBit_lt_two_pow hs]
   rfl
theorem zFi {n:Nat} {items:List Int} (h:rightFrom n (-1) items=true):items ∈ zAt n:=by
 obtain ⟨s,hs,e⟩:=zFg n items h
 exact List.mem_map.2 ⟨s,List.mem_range.2 hs,e⟩
theorem zFf (p:List Int→Bool) (cost:List Int→Int) (isf:List Int→Option Bool) (cmpf:List Int→List Int→Option Int) (xs0:List (List Int)) (hp : ∀ x ∈ xs0,isf x=some (p x))
 (hc : ∀ x ∈ xs0,∀ y ∈ xs0,∃ c,cmpf x y=some c∧(c < 0→cost x≤cost y)∧(¬ c < 0→cost y≤cost x)) :
 ∀ (xs pre:List (List Int)) (st:List Int × Bool),pre ++ xs=xs0→(st.2=false→st.1=[]∧∀ x ∈ pre,p x=false)→(st.2=true→st.1 ∈ pre∧p st.1=true∧∀ x ∈ pre,p x=true→cost st.1≤cost x) →
 ∃ r,zBV isf cmpf xs st=some r∧(r.2=false→r.1=[]∧∀ x ∈ xs0,p x=false)∧(r.2=true→r.1 ∈ xs0∧p r.1=true∧∀ x ∈ xs0,p x=true→cost r.1≤cost x)
 | [],pre,st,he,h1,h2=>⟨st,rfl,by rw [← he,List.append_nil];exact h1,by rw [← he,List.append_nil];exact h2⟩
 | x :: xs,pre,st,he,h1,h2=>by
  have hx:x ∈ xs0:=by rw [← he];simp
  have he2:(pre ++ [x]) ++ xs=xs0:=by rw [← he];simp
  have key : ∀ st',zCF isf cmpf st x=some st'→(st'.2=false→st'.1=[]∧∀ y ∈ pre ++ [x],p y=false)→(st'.2=true→st'.1 ∈ pre ++ [x]∧p st'.1=true∧∀ y ∈ pre ++ [x],p y=true→cost st'.1≤cost y) →
   ∃ r,zBV isf cmpf (x :: xs) st=some r∧(r.2=false→r.1=[]∧∀ x ∈ xs0,p x=false)∧(r.2=true→r.1 ∈ xs0∧p r.1=true∧∀ x ∈ xs0,p x=true→cost r.1≤cost x):=by
   intro st' e g1 g2
   obtain ⟨r,er,hr⟩:=zFf p cost isf cmpf xs0 hp hc xs (pre ++ [x]) st' he2 g1 g2
   exact ⟨r,by rw [zBV,e];exact er,hr⟩
  cases hs:st.2 with
  | false =>
   obtain ⟨k1,k2⟩:=h1 hs
   cases hpx:p x with
   | true =>
    refine key (x,true) (by unfold zCF;rw [if_pos hs,hp x hx,hpx];rfl) (fun h=>by cases h) (fun _=>⟨by simp,hpx,fun y hy hpy=>?_⟩)
    rcases List.mem_append.1 hy with hy|hy
    ·rw [k2 y hy] at hpy;cases hpy
    ·simp at hy;subst hy;exact Int.le_refl _
   | false =>
    refine key st (by unfold zCF;rw [if_pos hs,hp x hx,hpx];rfl) (fun _=>⟨k1,fun y hy=>?_⟩) (fun h=>by rw [hs] at h;cases h)
    rcases List.mem_append.1 hy with hy|hy
    ·exact k2 y hy
    ·simp at hy;subst hy;exact hpx
  | true =>
   obtain ⟨k1,k2,k3⟩:=h2 hs
   have hm:st.1 ∈ xs0:=by rw [← he];simp [k1]
   obtain ⟨c,hcc,c1,c2⟩:=hc x hx st.1 hm
   have hstay : ∀ (_:p x=true→cost st.1≤cost x),(st.2=false→st.1=[]∧∀ y ∈ pre ++ [x],p y=false)∧(st.2=true→st.1 ∈ pre ++ [x]∧p st.1=true∧∀ y ∈ pre ++ [x],p y=true→cost st.1≤cost y):=fun hle =>
    ⟨fun h=>(by rw [hs] at h;cases h),fun _=>⟨by simp [k1],k2,fun y hy hpy=>by
     rcases List.mem_append.1 hy with hy|hy
     ·exact k3 y hy hpy
     ·simp at hy;subst hy;exact hle hpy⟩⟩
   by_cases hlt:c < 0
   ·cases hpx:p x with
    | true =>
     refine key (x,true) (by unfold zCF;rw [if_neg (by rw [hs];simp),hcc];simp only [Option.bind_some];rw [if_pos hlt,hp x hx,hpx];rfl) (fun h=>by cases h) (fun _=>⟨by simp,hpx,fun y hy hpy=>?_⟩)
     rcases List.mem_append.1 hy with hy|hy
     ·have:=k3 y hy hpy;have:=c1 hlt;show cost x≤cost y;omega
     ·simp at hy;subst hy;exact Int.le_refl _
    | false =>
     obtain ⟨g1,g2⟩:=hstay (fun h=>by rw [hpx] at h;cases h)
     exact key st (by unfold zCF;rw [if_neg (by rw [hs];simp),hcc];simp only [Option.bind_some];rw [if_pos hlt,hp x hx,hpx];rfl) g1 g2
   ·obtain ⟨g1,g2⟩:=hstay (fun _=>c2 hlt)
    exact key st (by unfold zCF;rw [if_neg (by rw [hs];simp),hcc];simp only [Option.bind_some];rw [if_neg hlt]) g1 g2
end Go.Proofs.Ythimaecnpkcmeaa.Pure
namespace Go.Proofs.Ythimaecnpkcmeaa.Pure
open Go.RowKit Go.Proofs.Ythimaecnpkcmeaa.K Go.Proofs.YthimaecnpkcmeaaW.PrintWords Go.Proofs.YthimaecnpkcmeaaW.PrintLast Go.Proofs.YthimaecnpkcmeaaW.PrintMore
theorem zFs (l:List S50) (a b:Int) (items:List Int) (hn:items.length≤9223372036854775807) (k:Nat) (hk:100+items.length < k) (hv:zCB l a b=true) (hr:rightFrom l.length (-1) items=true):zDV.f k l a b items=some (zFc l items,0):=by
 have hv':=zDm.1 hv
 have hnl:=zCY hr (by omega) (by omega)
 unfold zDV.f
 rw [right_eq l a b items hn k (by omega)]
 simp only [Option.bind_some,hv,hr,if_true]
 rw [zFp l a b hv'.2.2.2.2.2.1 items (fun j hj=>by have:=zCs hr j hj;omega) (by omega) k (by omega)]
 rfl
theorem zFm (l:List S50) (a b low high:Int) (k:Nat) (hk:200 < k) (hv:zCB l a b=true) (h0 : -1099511627776≤low) (h1:low < high) (h2:high≤1099511627776) :
 ∃ best is,zFb.f k l a b low high=some (best,is,0)∧(is=false→best=[]∧∀ x,rightFrom l.length (-1) x=true→(openS l a b (zDw l x) low high).isNone=false) ∧
  (is=true→rightFrom l.length (-1) best=true∧(openS l a b (zDw l best) low high).isNone=true∧∀ x,rightFrom l.length (-1) x=true→(openS l a b (zDw l x) low high).isNone=true→zFc l best≤zFc l x):=by
 have hv':=zDm.1 hv
 have hok:=hv'.2.2.2.2.2.1
 unfold zFb.f
 rw [zFO l a b [] low high (by simp) k (by simp;omega)]
 simp only [Option.bind_some,hv,if_true]
 have hr0:rightFrom l.length (-1) ([]:List Int)=true:=rfl
 rw [if_pos hr0,if_pos (by omega)]
 rw [if_pos (by omega)]
 have hm : ∀ x ∈ zAt l.length,∀ j ∈ x,0≤j∧j < (l.length:Int):=fun x hx j hj=>by have:=zCs (zFd hx) j hj;omega
 have hln : ∀ x ∈ zAt l.length,x.length≤40:=fun x hx=>by have:=zCY (zFd hx) (by omega) (by omega);omega
 obtain ⟨r,e1,e2,e3⟩:=zFf (fun x=>(openS l a b (zDw l x) low high).isNone) (zFc l) (zFa.f k l a b low high) (zAS.f k l a b) (zAt l.length)
  (fun x hx=>by
   unfold zFa.f
   rw [open_eq l a b low high x hv (zFd hx) h0 h1 h2 k (by omega)]
   cases openS l a b (zDw l x) low high <;> rfl)
  (fun x hx y hy=>zFq l a b hok x y (hm x hx) (hm y hy) (hln x hx) (hln y hy) k (by omega))
  (zAt l.length) [] ([],false) rfl (fun _=>⟨rfl,fun x hx=>by simp at hx⟩) (fun h=>by cases h)
 rw [e1]
 refine ⟨r.1,r.2,rfl,fun h=>⟨(e2 h).1,fun x hx=>(e2 h).2 x (zFi hx)⟩,fun h=>⟨zFd (e3 h).1,(e3 h).2.1,fun x hx hp=>(e3 h).2.2 x (zFi hx) hp⟩⟩
theorem zFl (l:List S50) (a b:Int) (items:List Int) (low high:Int) (h1:items.length≤9223372036854775807) : ∃ k,zFZ.f k l a b items low high=some true:=by
 obtain ⟨k,hk⟩ : ∃ k,k=1000+items.length:=⟨_,rfl⟩
 refine ⟨k+1,?_⟩
 unfold zFZ.f
 have hsane:zCR.f=some true:=rfl
 rw [hsane]
 simp only [Option.bind_some,if_true]
 rw [refValid_eq l a b (k+1) (by omega)]
 simp only [Option.bind_some]
 have hj:zFZ.j0 (k+1) items low high true l a b=some true:=by simp [zFZ.j0]
 by_cases hv:zCB l a b=true
 rotate_left
 ·rw [if_neg hv];exact hj
 rw [if_pos hv,refRight_eq l a b items h1 (k+1) (by omega)]
 simp only [Option.bind_some]
 by_cases hr:rightFrom l.length (-1) items=true
 rotate_left
 ·rw [if_neg hr];exact hj
 rw [if_pos hr]
 by_cases c2:low≥high
 ·rw [if_pos c2];exact hj
 rw [if_neg c2]
 by_cases c3:low < -1099511627776
 ·rw [if_pos c3];exact hj
 rw [if_neg c3]
 by_cases c4:high > 1099511627776
 ·rw [decide_eq_true c4];exact hj
 rw [decide_eq_false c4]
 have hv':=zDm.1 hv
 simp only [zFZ.j0,Bool.false_eq_true,if_false]
 obtain ⟨best,is,e1,e2,e3⟩:=zFm l a b low high k (by omega) hv (by omega) (by omega) (by omega)
 rw [e1,decides_eq l a b low high items h1 k (by omega) hv hr (by omega) (by omega) (by omega)]
 simp only [Option.bind_some,if_true]
 obtain ⟨k,rfl⟩:=fuel (show 0 < k by omega)
 have key : ∀ q,(q=true→(openS l a b (zDw l items) low high).isNone=true)→zFZ.j1 (k+1) items low high best is (openS l a b (zDw l items) low high).isNone false l a b=some true:=by
  intro q _
  simp only [zFZ.j1,Bool.false_eq_true,if_false]
  cases is with
  | false =>
   rw [if_neg (by simp),(e2 rfl).1]
   rfl
  | true =>
   obtain ⟨g1,g2,g3⟩:=e3 rfl
   have hbl:=zCY g1 (by omega) (by omega)
   rw [if_pos rfl,decides_eq l a b low high best (by omega) k (by omega) hv g1 (by omega) (by omega) (by omega),zFs l a b best (by omega) k (by omega) hv g1,zFs l a b items h1 k (by omega) hv hr]
   simp only [Option.bind_some,if_true,g2]
   split
   ·rename_i hany
    rw [decide_eq_true (g3 items hr hany)]
   ·rfl
 cases ho:(openS l a b (zDw l items) low high).isNone with
 | false =>
  rw [if_neg (by simp)]
  have:=key false (fun h=>by cases h)
  rw [ho] at this
  exact this
 | true =>
  rw [if_pos rfl]
  have his:is=true:=by
   cases is with
   | true=>rfl
   | false=>have:=(e2 rfl).2 items hr;rw [ho] at this;cases this
  have:=key true (fun _=>ho)
  rw [ho] at this
  rw [his] at this ⊢
  exact this
end Go.Proofs.Ythimaecnpkcmeaa.Pure
namespace Go.Proofs.Ythimaecnpkcmeaa.ordersCheapest
open Go.ChangeShapes Go.WideShapes Go.ChangeAt Go.RowKit Go.Proofs.Ythimaecnpkcmeaa.K Go.Proofs.YthimaecnpkcmeaaW.PrintWords
set_option linter.unusedVariables false
theorem own:ownKnob Try.prog.godebug=none:=by kernel_rfl
theorem laidOut:laidOutB Try.prog=true:=by kernel_rfl
set_option maxRecDepth 100000 in
theorem lifted (os:Os) (started:os.Started) (H:Type) (enc:TypeId × Value→H) :
 ReturnsInHanded {} Try.checked os 5 .any (Rows.ordersCheapestSpec.pre6 enc Try.prog Try.f5 Rows.ordersCheapestRow.domain false) (Rows.ordersCheapestSpec.post enc Try.prog Try.f5 false true false false):=by
 refine returnsInHanded_of_change_sized (C:=Try.checked) own started (by kernel_rfl) Try.func5
  (ChangeSpec.witness6 (enc:=enc) (C:=Try.checked) false ⟨#[],#[.agg #[.slice none 0 0,.int .i64 0,.int .i64 0],.slice none 0 0,.int .i64 0,.int .i64 0],[]⟩ 8 (by kernel_rfl) (by kernel_rfl) (by kernel_rfl) (by kernel_rfl)) ?_
 intro W base args ds gs before hval0 hW hcnd hsz0 _
 have hval : ∀ (j:Nat) t v,Try.f5.params[j]? = some t→args[j]? = some v→Value.okWide Try.prog W .any base t v:=hval0
 have hW':=hW
 obtain ⟨p,q,hA0,hV,rfl,hfz,hnd⟩:=hW
 have hA:DataW.TrodAll enc Try.prog W 0 (fun _=>true) true Try.f5.params.toList args.toList ds p:=hA0
 rw [Try.params5] at hA hval
 obtain ⟨v0,vs0,d0,ds0,p0,q0,hargs,rfl,rfl,h0,r0⟩:=trodAll_cons hA
 obtain ⟨v1,vs1,d1,ds1,p1,q1,rfl,rfl,rfl,h1,r1⟩:=trodAll_cons r0
 obtain ⟨v2,vs2,d2,ds2,p2,q2,rfl,rfl,rfl,h2,r2⟩:=trodAll_cons r1
 obtain ⟨v3,vs3,d3,ds3,p3,q3,rfl,rfl,rfl,h3,r3⟩:=trodAll_cons r2
 obtain ⟨rfl,rfl,rfl⟩:=trodAll_nil r3
 obtain rfl:args=#[v0,v1,v2,v3]:=by cases args;simp_all
 obtain ⟨rfl,rfl⟩:=trodVars_none hV
 have k0:=h0
 have lt0 : ∀ x ∈ p0,x.block < W.heap.size:=by obtain ⟨m,hm⟩:=k0;exact DataW.trod_lt m _ _ _ hm
 obtain ⟨A0,c0,l0,a0_1,a0_2,rfl,e0,g0⟩:=open26 (hval 0 26 v0 rfl rfl) h0
 have k1:=h1
 have lt1 : ∀ x ∈ p1,x.block < W.heap.size:=by obtain ⟨m,hm⟩:=k1;exact DataW.trod_lt m _ _ _ hm
 obtain ⟨A1,c1,l1,rfl,e1,g1⟩:=open27 (hval 1 27 v1 rfl rfl) h1
 obtain ⟨a2,rfl,rfl,rfl,w2⟩:=open_int Try.underlying3 (hval 2 3 v2 rfl rfl) h2
 obtain ⟨a3,rfl,rfl,rfl,w3⟩:=open_int Try.underlying3 (hval 3 3 v3 rfl rfl) h3
 clear hA0 hval0 hsz0
 obtain ⟨k,hk⟩:=Pure.zFl l0 a0_1 a0_2 l1 a2 a3 e1.2.1
 refine (K.zFZ.calls k A0 c0 l0 a0_1 a0_2 A1 c1 l1 a2 a3 true W e0 g0 e1 g1 hk).mono fun e W' ⟨he,bel⟩=>?_
 subst he
 exact ⟨_,rfl,_,_,_,[],_,[],hW',trodAll_mk1 (shut_bool Try.underlying4 _),(trodAll_cons_mk (Below.trod laidOut (by kernel_rfl) (of_decide_eq_true (by kernel_rfl)) k0 bel lt0) (trodAll_cons_mk (Below.trod laidOut (by kernel_rfl) (of_decide_eq_true (by kernel_rfl)) k1 bel lt1) (trodAll_cons_mk (shut_int Try.underlying3 w2) (trodAll_cons_mk (shut_int Try.underlying3 w3) trodAll_mk0)))),rfl,bel.frame _,fun h=>by cases h⟩
theorem over:Rows.ordersCheapestRow.holds Try.pinned (OpenSpec.ofChange Rows.ordersCheapestSpec) :=
 OpenClaim.holds_of_wide 5 Try.f5 rfl rfl rfl rfl rfl rfl rfl ⟨rfl,rfl,rfl,rfl,rfl⟩ rfl rfl rfl rfl rfl (by kernel_rfl) Try.func5 (by kernel_rfl)
  (of_decide_eq_true (by kernel_rfl)) (by unfold Func.isWrapper;first|(rw [if_pos (by decide +kernel)];kernel_rfl)|(rw [if_neg (by decide +kernel)];exact ⟨rfl,rfl⟩))
  (fun os started H enc _=>lifted os started H enc)
theorem proved:Rows.OrdersCheapestSaid:=over
#print axioms proved
end Go.Proofs.Ythimaecnpkcmeaa.ordersCheapest
namespace Go.Proofs.Ythimaecnpkcmeaa
theorem ordersCheapest_holds:Rows.OrdersCheapestSaid:=ordersCheapest.proved
end Go.Proofs.Ythimaecnpkcmeaa
