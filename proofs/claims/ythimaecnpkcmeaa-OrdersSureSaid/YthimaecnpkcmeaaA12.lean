/- Contracts of Go functions and lemmas for them: each theorem states what one function returns and what it leaves of memory; its conditions stand in its statement. -/
import Derived.Test.YthimaecnpkcmeaaA3
import Derived.Test.YthimaecnpkcmeaaA4
import Derived.Test.YthimaecnpkcmeaaA5
import Derived.Test.YthimaecnpkcmeaaA11
set_option linter.unusedVariables false
set_option linter.unusedSimpArgs false
namespace Go.Proofs.Ythimaecnpkcmeaa.K
open Go.RowKit Go.Proofs.YthimaecnpkcmeaaW.PrintWords Go.Proofs.YthimaecnpkcmeaaW.PrintLast Go.Proofs.YthimaecnpkcmeaaW.PrintMore
attribute [local go_sem] max2_int min2_int max_two min_two max_three min_three max_four min_four   -- for this text's walks alone
set_option linter.unusedVariables false
set_option linter.unusedSimpArgs false
theorem orders_fronts.clone_eq {l r:List S64} (h:slices_Clone_Pair.f l=some r):r=l:=by
 unfold slices_Clone_Pair.f at h
 split at h
 ·exact (Option.some.inj h).symm
 ·cases h
def orders_fronts.move (c g:Int) (p:S64):S64:=⟨wrap64 (p.f0+c),wrap64 (p.f1+g)⟩
def orders_fronts.step (k:Nat) (i:S50) (cur:List S64):Option (List S64) :=
 (orders_gain.f i.f0.f0 i.f0.f1 i.f1 i.f2).bind fun g=>(slices_Clone_Pair.f cur).bind fun l =>
  if cur.length < 4398046511104 then (orders_front.f k (l ++ cur.map (orders_fronts.move i.f1 g))).bind fun r=>some r.1 else none
def orders_fronts.go (k:Nat):List S50→List (List S64)→List S64→Option (List (List S64))
 | [],out,_=>some out
 | i :: is,out,cur=>(orders_fronts.step k i cur).bind fun r=>if out.length < 5864062014804 then orders_fronts.go k is (out ++ [r]) r else none
def orders_fronts.f (k:Nat) (l0_0:List (S50)) (a0_1:Int) (a0_2:Int):Option (List (List S64)):=orders_fronts.go k l0_0 [[⟨0,0⟩]] [⟨0,0⟩]
def orders_fronts.T9:Bool × List (List Nat × List Nat):=(true,[([],[]),([],[]),([1],[1]),([],[]),([3],[3]),([2,4],[2,4]),([],[]),([6],[6]),([],[]),([8],[8]),([7,9],[7,9]),([5,10],[5,10]),([11],[11]),([0,12,9],[0,12]),([13,13,0,1,2,3,4,5,6,7,8,9,10,11,12,13],[0,13])])
def orders_fronts.B9:List Nat:=[0,0,2,0,8,30,0,64,0,256,960,2046,4094,8191,16383]
theorem orders_fronts.tab9:rtab .any (opsOf Try.f67 9)=orders_fronts.T9:=by kernel_rfl
theorem orders_fronts.bits9:waitsOk orders_fronts.T9.2 orders_fronts.B9=true:=by kernel_rfl
set_option maxHeartbeats 4000000 in
set_option maxRecDepth 100000 in
theorem orders_fronts.calls (k:Nat) (A0_0:Option Addr) (c0_0:Nat) (l0_0:List (S50)) (a0_1:Int) (a0_2:Int) (r:List (List (S64))) (w:World) (hr0_0:Kd.C k50 w A0_0 l0_0.length l0_0) (hc0_0:l0_0.length≤c0_0) (h:orders_fronts.f k l0_0 a0_1 a0_2=some r) :
 Calls Try.prog 67 #[.agg #[.slice A0_0 l0_0.length c0_0,.int .i64 a0_1,.int .i64 a0_2]] w fun e w'=>∃ v0_:Value,e= .returned (v0_)∧Kd.N (Kd.slice 64 k64) 63 w' w.heap.size (fun k_=>(w.heap.size≤k_)) v0_ r∧Below w.heap.size w w':=by
 have hu26:=Try.underlying26
 have hu50:=Try.underlying50
 have hu64:=Try.underlying64
 have HR0_0:=Aside0.mk hr0_0
 clear hr0_0
 have H':=Aside0.mk h
 clear h
 go_enter Try.func67,Try.ntmps67
 go_wp2_with (first
  | ((with_reducible refine gate_dst (N:=1) rfl ?_);refine bE #[.slice A0_0 l0_0.length c0_0,.int .i64 a0_1,.int .i64 a0_2] 26 ?_;intro gb hg w1 hbox hb;have BK:=Aside0.mk hbox;have HB:=Aside0.mk hb;have hcz0:w1.cell? ⟨gb,0,none⟩=some (.slice A0_0 l0_0.length c0_0):=(blk_cell BK.out 0).trans rfl;clear hg hbox hb)
  | ((with_reducible refine gate_dst (N:=10) rfl ?_);refine Kd.R_lit k64 (w0:=w) w.heap.size 64 rfl (N:=10) rfl (xs:=[⟨0,0⟩]) (inner:=[.int .i64 0,.int .i64 0]) (ok:=fun k_=>w.heap.size≤k_) (okp:=fun _=>False) ?hr ?hp (fun _ hk=>hk.elim) HB.out.size HB.out (Nat.le_trans (Nat.le_refl _) HB.out.size) (by decide) ?_;(case hp=>exact Reps.c2 (k64_mkM _ _ _ (⟨0,0⟩:S64)) (Reps.none _ _));(case hr=>first|(go_simp;done)|(go_simp;rfl));intro v10 w2 ho hb hg hat;obtain ⟨A10,c10,e10⟩:=Kd.R_slice ho;subst e10;have BK2:=Aside0.mk (blk_grown BK.out hg (by simp));clear BK;have BK:=BK2;clear BK2;have HO:=Aside0.mk ho;clear HB;have HB:=Aside0.mk hb;clear ho hb hg hat)
  | ((with_reducible refine gate_dst (N:=11) rfl ?_);refine Kd.N_lit (Kd.slice 64 k64) (w0:=w) w.heap.size 63 rfl (N':=11) rfl (xs:=[[⟨0,0⟩]]) (inner:=[.slice A10 1 c10]) (ok:=fun k_=>w.heap.size≤k_) (okp:=fun k_=>w.heap.size≤k_) ?hr ?hp (fun _ hk=>hk) HB.out.size HB.out (Nat.le_trans (Nat.le_refl _) HB.out.size) (by decide) ?_;(case hp=>exact Reps.one (Kd.FK_slice_mk (Kd.R_reads' HO.out).2.1 (Kd.R_F HO.out)) (Reps.none _ _));(case hr=>first|(go_simp;done)|(go_simp;rfl));intro v11 w3 ho hb hg hat;have BK2:=Aside0.mk (blk_grown BK.out hg (by simp));clear BK;have BK:=BK2;clear BK2;clear HO;have HO:=Aside0.mk ho;clear HB;have HB:=Aside0.mk hb;have hcz0:w3.cell? ⟨gb,0,none⟩=some (.slice A0_0 l0_0.length c0_0):=(blk_cell BK.out 0).trans rfl;clear ho hb hg hat))
 go_loopg [3,15] (l0_0.length+1) (fun kq v3 v15 w'=>∃ (x:Int) (i:Nat) (outl:List (List S64)) (cur:List S64),v15= .int .i64 x∧Aside0 (x=(i:Int))∧Aside0 (kq+i=l0_0.length+1)∧Aside0 (i≤l0_0.length)∧Aside0 (orders_fronts.go k (l0_0.drop i) outl cur=some r)∧Aside0 (outl.length=i+1)∧Aside0 (outl[i]? = some cur)∧Aside0 (Kd.N (Kd.slice 64 k64) 63 w' w.heap.size (fun k_=>w.heap.size≤k_) v3 outl)∧Aside0 (Below w.heap.size w w'))
 case atStart=>exact ⟨0,0,[[⟨0,0⟩]],[⟨0,0⟩],rfl,⟨rfl⟩,⟨rfl⟩,⟨Nat.zero_le _⟩,H',⟨rfl⟩,⟨rfl⟩,HO,HB⟩
 case round =>
  obtain ⟨x,i,outl,cur,rfl,HX,Hk,Hi,HG,HL,HT,HN,HB⟩:=hrel
  clear hcz0 HO H' BK
  have hlen:l0_0.length≤9223372036854775807:=HR0_0.out.2.1
  by_cases ht:i < l0_0.length
  rotate_left
  ·have hil:i=l0_0.length:=by have:=Hi.out;omega
   have c0:decide (x < (l0_0.length:Int))=false:=decide_eq_false (by have:=HX.out;omega)
   have hG:=HG.out
   rw [hil,List.drop_of_length_le (Nat.le_refl _)] at hG
   unfold orders_fronts.go at hG
   obtain rfl:=Option.some.inj hG
   clear hG HG
   go_wp2
   go_ret
   exact ⟨_,rfl,HN.out,HB.out⟩
  have c0:decide (x < (l0_0.length:Int))=true:=decide_eq_true (by have:=HX.out;omega)
  have c0p:(x < (l0_0.length:Int))=True:=eq_true (by have:=HX.out;omega)
  have c00p:(0≤x)=True:=eq_true (by have:=HX.out;omega)
  have c00:decide (0≤x)=true:=decide_eq_true (by have:=HX.out;omega)
  obtain ⟨ad5,e5,hx5_0,hx5_1,hx5_2,hx5_3⟩:=at_T50 HR0_0.out x (by have:=HX.out;omega) (by have:=HX.out;omega)
  subst e5
  have hit:rd_T50 l0_0 x=l0_0[i]:=by rw [HX.out];unfold rd_T50;rw [Int.toNat_natCast,List.getD_eq_getElem?_getD,List.getElem?_eq_getElem ht];rfl
  rw [hit] at hx5_0 hx5_1 hx5_2 hx5_3
  have hG:=HG.out
  rw [List.drop_eq_getElem_cons ht] at hG
  clear HG hit
  revert hx5_0 hx5_1 hx5_2 hx5_3 hG
  generalize l0_0[i]=it
  intro hx5_0 hx5_1 hx5_2 hx5_3 hG
  unfold orders_fronts.go orders_fronts.step at hG
  obtain ⟨rr,hS,hG⟩:=Option.bind_eq_some_iff.1 hG
  obtain ⟨g,hg,hS⟩:=Option.bind_eq_some_iff.1 hS
  obtain ⟨l,hl,hS⟩:=Option.bind_eq_some_iff.1 hS
  split at hS
  case isFalse=>cases hS
  case isTrue hlim =>
  obtain ⟨⟨r1,r2⟩,hF,hS⟩:=Option.bind_eq_some_iff.1 hS
  obtain rfl:=Option.some.inj hS
  clear hS
  split at hG
  case isFalse=>cases hG
  case isTrue hlim2 =>
  have HGain:=Aside0.mk hg
  have HClone:=Aside0.mk hl
  have HFront:=Aside0.mk hF
  have HG:=Aside0.mk hG
  have LM1:=Aside0.mk hlim
  have LM2:=Aside0.mk hlim2
  have HT0:=Aside0.mk ht
  clear hg hl hF hG hlim hlim2 ht
  replace hx5_0:=hC HB.out hx5_0
  replace hx5_1:=hC HB.out hx5_1
  replace hx5_2:=hC HB.out hx5_2
  replace hx5_3:=hC HB.out hx5_3
  obtain ⟨g3,c3,e3,hg3b,hg3,-⟩:=Kd.N_form HN.out (by have:=HL.out;omega)
  subst e3
  obtain ⟨ad3,A6,c6,e3,hx3,hc6,hC6⟩:=at_L6 (Kd.N_reads' HN.out).2.2 x (by have:=HX.out;omega) (by have:=HX.out;have:=HL.out;omega)
  cases e3
  have hrd:rd_L6 outl x=cur:=by rw [HX.out];unfold rd_L6;rw [Int.toNat_natCast,List.getD_eq_getElem?_getD,HT.out];rfl
  rw [hrd] at hx3 hc6 hC6
  clear hrd
  rw [show (⟨g3,0,none⟩:Addr).add x.toNat=⟨g3,x.toNat,none⟩ from by unfold Addr.add;split <;> simp_all] at hx3
  have HC6:=Aside0.mk hC6
  clear hC6
  have c1p:(x < (outl.length:Int))=True:=eq_true (by have:=HX.out;have:=HL.out;omega)
  have c1:decide (x < (outl.length:Int))=true:=decide_eq_true (by have:=HX.out;have:=HL.out;omega)
  have hl:=orders_fronts.clone_eq HClone.out
  subst hl
  go_wp2_with (first
   | (go_at_call 98;(with_reducible refine (slices_Clone_Pair.calls A6 c6 l l _ ?side1 hc6 HClone.out).mono ?_);(case side1=>exact Kd.C_below HC6.out (below_alloc (Below.refl _ _) _));rintro e w6 ⟨v6,rfl,hR,hB⟩;have key : ∃ W1:World,Aside0 (Below w.heap.size w W1)∧Aside0 (Kd.N (Kd.slice 64 k64) 63 W1 w.heap.size (fun k_=>w.heap.size≤k_) (.slice (some ⟨g3,0,none⟩) outl.length c3) outl)∧Aside0 (W1.heap[wr.heap.size]? = some (.cells #[.int .i64 it.f0.f0,.int .i64 it.f0.f1,.int .i64 it.f1,.int .i64 it.f2] 50 (0,0)))∧Aside0 (W1.cell? ⟨g3,x.toNat,none⟩=some (.slice A6 l.length c6))∧Aside0 (Kd.C k64 W1 A6 l.length l)∧Aside0 (Kd.R k64 64 w6 W1.heap.size (fun _=>True) v6 l)∧Aside0 (Below W1.heap.size W1 w6):=⟨_,⟨below_alloc HB.out _⟩,⟨Kd.N_alloc HN.out _⟩,⟨blk_new _ _⟩,⟨((below_alloc (Below.refl _ _) _).cell (World.block_lt_of_cell? _ _ hx3)).trans hx3⟩,⟨Kd.C_below HC6.out (below_alloc (Below.refl _ _) _)⟩,⟨hR⟩,⟨hB⟩⟩;clear hR hB HN HC6 hx3 HB;obtain ⟨W1,HB,HN,BK5,HX3,HC6,HO6,HB1⟩:=key;have hx3:w6.cell? ⟨g3,x.toNat,none⟩=some (.slice A6 l.length c6):=(HB1.out.cell (World.block_lt_of_cell? _ _ HX3.out)).trans HX3.out))
  generalize hgb5:wr.heap.size=gb5 at BK5 ⊢
  clear hgb5
  obtain ⟨n1,rfl⟩ : ∃ n,gk=n+1:=⟨gk - 1,by have:=Hk.out;have:=HT0.out;omega⟩
  go_loopg [6,30] (l.length+1) (fun kq v6 v30 w'=>∃ (y:Int) (j:Nat),v30= .int .i64 y∧Aside0 (y=(j:Int))∧Aside0 (kq+j=l.length+1)∧Aside0 (j≤l.length)∧Aside0 (Kd.R k64 64 w' W1.heap.size (fun _=>True) v6 (l ++ (l.take j).map (orders_fronts.move it.f1 g)))∧Aside0 (Below W1.heap.size W1 w'))
  case atStart=>exact ⟨0,0,rfl,⟨rfl⟩,⟨by omega⟩,⟨Nat.zero_le _⟩,⟨by simpa using HO6.out⟩,HB1⟩
  case round =>
   clear HO6 HB1 hx3
   obtain ⟨y,j,rfl,HY,Hk2,Hj,HO6,HB1⟩:=hrel
   have hx3:wr.cell? ⟨g3,x.toNat,none⟩=some (.slice A6 l.length c6):=(HB1.out.cell (World.block_lt_of_cell? _ _ HX3.out)).trans HX3.out
   by_cases hj:j < l.length
   rotate_left
   ·have hjl:j=l.length:=by have:=Hj.out;omega
    have HJ:=Aside0.mk hjl
    have d0:decide (y < (l.length:Int))=false:=decide_eq_false (by have:=HY.out;omega)
    have HO:=Aside0.mk (show Kd.R k64 64 wr W1.heap.size (fun _=>True) u6 (l ++ l.map (orders_fronts.move it.f1 g)) by have:=HO6.out;rw [hjl,List.take_of_length_le (by simp)] at this;exact this)
    have HF:=Aside0.mk (show orders_front.f k (l ++ l.map (orders_fronts.move it.f1 g))=some (r1,r2) from HFront.out)
    clear HO6 hj hjl
    go_wp2_with (first
     | ((with_reducible refine gate_callee (f:=74) rfl ?_);refine gL (some 51) Try.func74 #[u6] ?_;(with_reducible refine (orders_front.calls k (fun k_=>W1.heap.size≤k_) u6 (l ++ l.map (orders_fronts.move it.f1 g)) r1 r2 W1 _ ?side1 ?side2 HF.out).mono ?_);(case side1=>exact HB1.out);(case side2=>exact Kd.R_reok rfl HO.out (fun k_ e_=>Kd.R_base HO.out k_ e_));rintro e w7 ⟨v7,rfl,hR,_,hB,_⟩;refine ⟨_,rfl,?_⟩;obtain ⟨A7,c7,e7⟩:=Kd.R_slice hR;subst e7;have HN7:=Aside0.mk (Kd.N_below HN.out hB);have HB7:=Aside0.mk (below_step HB.out hB);have HR7:=Aside0.mk (Kd.R_reok rfl hR (fun k_ e_=>Kd.R_base hR k_ e_):Kd.R k64 64 w7 W1.heap.size (fun k_=>W1.heap.size≤k_) _ r1);clear hR hB)
     | ((with_reducible refine gate_builtin (b:=.append) (xs:=#[.tmp 49,.tmp 52]) rfl ?_);at_builtin;refine Kd.N_append (Kd.slice 64 k64) (w0:=w) w.heap.size rfl (.tmp 49) (.tmp 52) 59 63 (.slice none 0 0) 24 rfl Try.underlying59 info63 rfl (by decide) (by omega) (.slice (some ⟨g3,0,none⟩) outl.length c3) outl r1 [.slice A7 r1.length c7] (fun k_=>w.heap.size≤k_) (fun k_=>W1.heap.size≤k_) rfl rfl ?aP ?aK ?aF HN7.out HB7.out (below_size HB7.out) ?aL ?_;(case aP=>exact Kd.FK_slice_mk (Kd.R_reads' HR7.out).2.1 (Kd.R_F HR7.out));(case aK=>exact fun k_ hk=>⟨Nat.le_trans (below_size HB.out) hk,fun e=>by have:=Kd.N_lt HN.out _ e.symm;omega⟩);(case aF=>exact fun k_ hk=>Nat.le_trans (below_size HB7.out) hk);(case aL=>have:=LM2.out;omega);intro v53 w8 ho hb hg hat;have HN8:=Aside0.mk ho;have HB8:=Aside0.mk hb;clear ho hb hg hat))
    go_roundg n1
    case measure=>omega
    case rel=>exact ⟨wrap64 (x+1),i+1,outl ++ [r1],r1,rfl,⟨by have h1:=HX.out;have h2:=HT0.out;unfold wrap64;omega⟩,⟨by have:=Hk.out;omega⟩,⟨HT0.out⟩,HG,⟨by have:=HL.out;simp;omega⟩,⟨by have:=HL.out;rw [List.getElem?_append_right (by omega),this];simp⟩,HN8,HB8⟩
   obtain ⟨n2,rfl⟩ : ∃ n,gk=n+1:=⟨gk - 1,by have:=Hk2.out;omega⟩
   have d0:decide (y < (l.length:Int))=true:=decide_eq_true (by have:=HY.out;omega)
   have d0p:(y < (l.length:Int))=True:=eq_true (by have:=HY.out;omega)
   have d00p:(0≤y)=True:=eq_true (by have:=HY.out;omega)
   have d00:decide (0≤y)=true:=decide_eq_true (by have:=HY.out;omega)
   obtain ⟨ad7,e7,hx7_0,hx7_1⟩:=at_T64 HC6.out y (by have:=HY.out;omega) (by have:=HY.out;omega)
   subst e7
   have hit:rd_T64 l y=l[j]:=by rw [HY.out];unfold rd_T64;rw [Int.toNat_natCast,List.getD_eq_getElem?_getD,List.getElem?_eq_getElem hj];rfl
   rw [hit] at hx7_0 hx7_1
   have htk:l ++ (l.take (j+1)).map (orders_fronts.move it.f1 g)=(l ++ (l.take j).map (orders_fronts.move it.f1 g)) ++ [orders_fronts.move it.f1 g l[j]]:=by rw [List.take_succ_eq_append_getElem hj,List.map_append,List.append_assoc];rfl
   have hlq:(l ++ (l.take j).map (orders_fronts.move it.f1 g)).length+1≤8796093022208:=by have:=LM1.out;simp;omega
   have HTK:=Aside0.mk htk
   have HLQ:=Aside0.mk hlq
   have HJ:=Aside0.mk hj
   clear hit htk hlq
   revert hx7_0 hx7_1 HTK
   generalize l[j]=p
   intro hx7_0 hx7_1 HTK
   clear hj
   replace hx7_0:=(HB1.out.cell (World.block_lt_of_cell? _ _ hx7_0)).trans hx7_0
   replace hx7_1:=(HB1.out.cell (World.block_lt_of_cell? _ _ hx7_1)).trans hx7_1
   have bk:=HB1.out.block gb5 (blk_lt BK5.out)
   rw [BK5.out] at bk
   have h5_0:wr.cell? ⟨gb5,0,none⟩=some (.int .i64 it.f0.f0):=(blk_cell bk 0).trans rfl
   have h5_1:wr.cell? ⟨gb5,1,none⟩=some (.int .i64 it.f0.f1):=(blk_cell bk 1).trans rfl
   have h5_2:wr.cell? ⟨gb5,2,none⟩=some (.int .i64 it.f1):=(blk_cell bk 2).trans rfl
   have h5_3:wr.cell? ⟨gb5,3,none⟩=some (.int .i64 it.f2):=(blk_cell bk 3).trans rfl
   clear bk
   have hne8:some wr.heap.size≠(u6:Value).ownBlock:=fun e=>by have:=Kd.R_lt HO6.out _ e.symm;omega
   have hne5:some gb5≠(u6:Value).ownBlock:=fun e=>by have:=Kd.R_base HO6.out _ e.symm;have:=blk_lt BK5.out;omega
   have bk5:wr.heap[gb5]? = some (.cells #[.int .i64 it.f0.f0,.int .i64 it.f0.f1,.int .i64 it.f1,.int .i64 it.f2] 50 (0,0)):=by have bk:=HB1.out.block gb5 (blk_lt BK5.out);rw [BK5.out] at bk;exact bk
   go_wp2
   have n0_:=Aside0.mk (Kd.R_drew (Kd.R_alloc HO6.out (.cells #[.int .i64 p.f0,.int .i64 p.f1] 64)))
   have n1_:=Aside0.mk (below_drew1 (below_alloc HB1.out (.cells #[.int .i64 p.f0,.int .i64 p.f1] 64)))
   have n2_:=Aside0.mk (blk_drew (blk_new wr (.cells #[.int .i64 p.f0,.int .i64 p.f1] 64)))
   have n3_:=Aside0.mk (blk_drew (blk_alloc bk5 (.cells #[.int .i64 p.f0,.int .i64 p.f1] 64)))
   clear HO6 HB1 bk5
   generalize wr.alloc (.cells #[.int .i64 p.f0,.int .i64 p.f1] 64)=w8 at n0_ n1_ n2_ n3_ ⊢
   generalize wr.heap.size=gb8 at n2_ hne8 ⊢
   refine start_ (n:=15) (S:=fun w'=>w'.cell? ⟨gb8,0,none⟩=some (.int .i64 p.f0)∧w'.cell? ⟨gb8,1,none⟩=some (.int .i64 p.f1)∧w'.cell? ⟨gb5,0,none⟩=some (.int .i64 it.f0.f0)∧w'.cell? ⟨gb5,1,none⟩=some (.int .i64 it.f0.f1)∧w'.cell? ⟨gb5,2,none⟩=some (.int .i64 it.f1)∧w'.cell? ⟨gb5,3,none⟩=some (.int .i64 it.f2)) (ds:=[]) #[false,false,false,false,false,false,false,false,false,false,false,false,false,false,false] (by kernel_rfl) rfl rfl ⟨(blk_cell n2_.out 0).trans rfl,(blk_cell n2_.out 1).trans rfl,(blk_cell n3_.out 0).trans rfl,(blk_cell n3_.out 1).trans rfl,(blk_cell n3_.out 2).trans rfl,(blk_cell n3_.out 3).trans rfl⟩ (fun hHeld=>?_)
   refine with_tabW orders_fronts.tab9 orders_fronts.bits9 (fun HT_ HW_=>?_)
   generalize w8.drew=w9 at n0_ n1_ n2_ n3_ hHeld ⊢
   refine pP 0 (some 34) HT_ ?_
   refine pP 1 (some 35) HT_ ?_
   refine pP 3 (some 37) HT_ ?_
   refine pP 6 (some 40) HT_ ?_
   refine tP 2 (some 36) HT_ HW_ hHeld ?_
   refine tP 4 (some 38) HT_ HW_ hHeld ?_
   refine pP 5 (some 39) HT_ ?_
   refine tP 7 (some 41) HT_ HW_ hHeld ?_
   refine tP 8 (some 42) HT_ HW_ hHeld ?_
   refine oP 9 (some 43) HT_ (fun K hK=>?_)
   refine gO Try.func97 #[.agg #[.int .i64 it.f0.f0,.int .i64 it.f0.f1,.int .i64 it.f1,.int .i64 it.f2]] ?_
   with_reducible refine (orders_gain.calls it.f0.f0 it.f0.f1 it.f1 it.f2 g _ HGain.out).mono ?_
   rintro e w31 ⟨rfl,hb⟩
   refine ⟨_,rfl,?_⟩
   have m0_:=Aside0.mk (Kd.R_below n0_.out hb)
   have m1_:=Aside0.mk (below_step n1_.out hb)
   have m2_:=Aside0.mk (blk_below n2_.out hb)
   have m3_:=Aside0.mk (blk_below n3_.out hb)
   clear n0_ n1_ n2_ n3_ hb
   refine hK.out _ _ ⟨(blk_cell m2_.out 0).trans rfl,(blk_cell m2_.out 1).trans rfl,(blk_cell m3_.out 0).trans rfl,(blk_cell m3_.out 1).trans rfl,(blk_cell m3_.out 2).trans rfl,(blk_cell m3_.out 3).trans rfl⟩ (fun hHeld=>?_)
   clear hK K
   refine nP ?_
   refine pP 10 (some 44) HT_ ?_
   refine pP 11 (some 45) HT_ ?_
   refine oP 12 (some 46) HT_ (fun K hK=>?_)
   refine value_ (w1:=?_) (v:=?_) (by rfl) rfl ?_ ?_
   rotate_left 2
   ·go_simp
    constructor
    ·rfl
    ·rfl
   refine hK.out _ _ ⟨(blk_cell (blk_alloc m2_.out _) 0).trans rfl,(blk_cell (blk_alloc m2_.out _) 1).trans rfl,(blk_cell (blk_alloc m3_.out _) 0).trans rfl,(blk_cell (blk_alloc m3_.out _) 1).trans rfl,(blk_cell (blk_alloc m3_.out _) 2).trans rfl,(blk_cell (blk_alloc m3_.out _) 3).trans rfl⟩ (fun hHeld=>?_)
   clear hK K
   refine nP ?_
   refine oP 13 (some 47) HT_ (fun K hK=>?_)
   refine Kd.R_append_step k64 (w0:=W1) W1.heap.size (by rfl) (.tmp 34) (.tmp 46) 63 64 (.agg #[(.int .i64 0),(.int .i64 0)]) 16 rfl Try.underlying63 info64 rfl (by decide) (by omega) u6 (l ++ (l.take j).map (orders_fronts.move it.f1 g)) (orders_fronts.move it.f1 g p) [.int .i64 (wrap64 (p.f0+it.f1)),.int .i64 (wrap64 (p.f1+g))] (fun _=>True) (fun _=>False) rfl rfl ?aP (fun _ hk=>hk.elim) (fun _ _=>trivial) m0_.out m1_.out (below_size m1_.out) ?aL ?_
   (case aP=>exact k64_mkM _ _ _ (⟨wrap64 (p.f0+it.f1),wrap64 (p.f1+g)⟩:S64))
   (case aL=>have:=HLQ.out;omega)
   intro v47 w32 ho hb hg hat
   rw [← HTK.out] at ho
   have n0_:=Aside0.mk ho
   have n1_:=Aside0.mk hb
   have n2_:=Aside0.mk (blk_grown m2_.out hg hne8)
   have n3_:=Aside0.mk (blk_grown m3_.out hg hne5)
   clear m0_ m1_ m2_ m3_ ho hb hg hat
   refine hK.out _ _ ⟨(blk_cell n2_.out 0).trans rfl,(blk_cell n2_.out 1).trans rfl,(blk_cell n3_.out 0).trans rfl,(blk_cell n3_.out 1).trans rfl,(blk_cell n3_.out 2).trans rfl,(blk_cell n3_.out 3).trans rfl⟩ (fun hHeld=>?_)
   clear hK K
   refine nP ?_
   refine pP 14 (some 6) HT_ ?_
   refine done_ (done_of HT_.out (by kernel_rfl)) ?_
   try go_wp2
   go_roundg n2
   case measure=>omega
   case rel=>exact ⟨wrap64 (y+1),j+1,rfl,⟨by have h1:=HY.out;have h2:=HJ.out;have h3:=LM1.out;unfold wrap64;omega⟩,⟨by have:=Hk2.out;omega⟩,⟨HJ.out⟩,n0_,n1_⟩
end Go.Proofs.Ythimaecnpkcmeaa.K
namespace Go.Proofs.Ythimaecnpkcmeaa.K
open Go.RowKit Go.Proofs.YthimaecnpkcmeaaW.PrintWords Go.Proofs.YthimaecnpkcmeaaW.PrintLast Go.Proofs.YthimaecnpkcmeaaW.PrintMore
attribute [local go_sem] max2_int min2_int max_two min_two max_three min_three max_four min_four   -- for this text's walks alone
set_option linter.unusedVariables false
set_option linter.unusedSimpArgs false
def orders_Fronts.f (k:Nat) (l0_0:List (S50)) (a0_1:Int) (a0_2:Int):Option ((List (List (S64))) × Int):=(orders_Check.f k l0_0 a0_1 a0_2).bind fun t278=>(if t278=0 then ((orders_fronts.f k l0_0 a0_1 a0_2).bind fun t279=>(some (t279,0))) else (some (([]:List (List (S64))),t278)))
set_option maxHeartbeats 8000000 in
set_option maxRecDepth 100000 in
theorem orders_Fronts.calls (k:Nat) (A0_0:Option Addr) (c0_0:Nat) (l0_0:List (S50)) (a0_1:Int) (a0_2:Int) (r1:List (List (S64))) (r2:Int) (w:World) (hr0_0:Kd.C k50 w A0_0 l0_0.length l0_0) (hc0_0:l0_0.length≤c0_0) (h:orders_Fronts.f k l0_0 a0_1 a0_2=some (r1,r2)) :
 Calls Try.prog 27 #[.agg #[.slice A0_0 l0_0.length c0_0,.int .i64 a0_1,.int .i64 a0_2]] w fun e w'=>∃ v0_:Value,e= .returned (.tuple #[v0_,.int .i64 r2])∧Kd.N (Kd.slice 64 k64) 63 w' w.heap.size (fun k_=>(w.heap.size≤k_)) v0_ r1∧Below w.heap.size w w':=by
 have hu26:=Try.underlying26
 have HR0_0:=Aside0.mk hr0_0
 have HC0_0:=Aside0.mk hc0_0
 clear hr0_0 hc0_0
 have HB:=Aside0.mk (Below.refl w.heap.size w)
 have H:((orders_Check.f k l0_0 a0_1 a0_2).bind fun t278=>(if t278=0 then ((orders_fronts.f k l0_0 a0_1 a0_2).bind fun t279=>(some (t279,0))) else (some (([]:List (List (S64))),t278))))=some (r1,r2):=h
 clear h
 replace H:=Option.bind_eq_some_iff.mp H
 obtain ⟨t278,A20,H⟩:=H
 replace H:(if t278=0 then ((orders_fronts.f k l0_0 a0_1 a0_2).bind fun t279=>(some (t279,0))) else (some (([]:List (List (S64))),t278)))=some (r1,r2):=H
 have A2:=Aside0.mk A20
 clear A20
 by_cases c3:t278=0
 rotate_left
 ·rw [if_neg c3] at H
  have c3b0:(t278 == 0)=false:=beq_eq_false_iff_ne.mpr c3
  have c3b1:(t278 != 0)=true:=bne_iff_ne.mpr c3
  simp only [Option.some.injEq,Prod.mk.injEq] at H
  obtain ⟨rfl,rfl⟩:=H
  go_enter Try.func27,Try.ntmps27
  go_wp2_with (first|((with_reducible refine gate_dst (N:=1) rfl ?_);refine bE #[.slice A0_0 l0_0.length c0_0,.int .i64 a0_1,.int .i64 a0_2] 26 ?_;intro gb277 hg w10 hbox hb;have BK277:=qK (hbox);have GW277:=qK ((gS hg:w.heap.size≤gb277));have GE277:=qK ((gS hg:w.heap.size≤gb277));replace HB:=qK (bS hb);clear hb hbox hg;obtain ⟨_,_,_,_,_,_⟩:=xC3 BK277.out)|((with_reducible refine gate_callee (f:=45) rfl ?_);refine gL (some 6) Try.func45 #[.agg #[.slice A0_0 l0_0.length c0_0,.int .i64 a0_1,.int .i64 a0_2]] ?_;(with_reducible refine (orders_Check.calls k _ _ l0_0 a0_1 a0_2 t278 _ ?side1 ?side2 A2.out).mono ?_);(case side1=>exact cS HR0_0.out);(case side2=>exact HC0_0.out);rintro e w12 ⟨rfl,hb⟩;refine ⟨_,rfl,?_⟩;replace BK277:=qK (bB BK277.out hb);replace HB:=qK (bS hb)))
  go_ret2
  exact ⟨_,by first|rfl|(simp [errW_none,errW_some] <;> rfl)|(simp [*,errW_none,errW_some] <;> rfl),by first|exact Kd.S_nil _ _ _ _ _|exact Kd.N_nil _ _ _ _ _|exact Kd.V_nil _ _ _ _ _|exact Kd.Q_nil _ _ _ _ _|exact Kd.R_nil _ _ _ _ _,bA⟩
 rw [if_pos c3] at H
 have c3b0:(t278 == 0)=true:=beq_iff_eq.mpr c3
 have c3b1:(t278 != 0)=false:=bne_eq_false_iff_eq.mpr c3
 clear c3
 replace H:=Option.bind_eq_some_iff.mp H
 obtain ⟨t279,A40,H⟩:=H
 replace H:(some (t279,0))=some (r1,r2):=H
 have A4:=Aside0.mk A40
 clear A40
 simp only [Option.some.injEq,Prod.mk.injEq] at H
 obtain ⟨rfl,rfl⟩:=H
 go_enter Try.func27,Try.ntmps27
 go_wp2_with (first|((with_reducible refine gate_dst (N:=1) rfl ?_);refine bE #[.slice A0_0 l0_0.length c0_0,.int .i64 a0_1,.int .i64 a0_2] 26 ?_;intro gb277 hg w5 hbox hb;have BK277:=qK (hbox);have GW277:=qK ((gS hg:w.heap.size≤gb277));have GE277:=qK ((gS hg:w.heap.size≤gb277));replace HB:=qK (bS hb);clear hb hbox hg;obtain ⟨_,_,_,_,_,_⟩:=xC3 BK277.out)|((with_reducible refine gate_callee (f:=45) rfl ?_);refine gL (some 6) Try.func45 #[.agg #[.slice A0_0 l0_0.length c0_0,.int .i64 a0_1,.int .i64 a0_2]] ?_;(with_reducible refine (orders_Check.calls k _ _ l0_0 a0_1 a0_2 t278 _ ?side1 ?side2 A2.out).mono ?_);(case side1=>exact cS HR0_0.out);(case side2=>exact HC0_0.out);rintro e w7 ⟨rfl,hb⟩;refine ⟨_,rfl,?_⟩;replace BK277:=qK (bB BK277.out hb);replace HB:=qK (bS hb);obtain ⟨_,_,_,_,_,_⟩:=xC3 BK277.out)|((with_reducible refine gate_callee (f:=67) rfl ?_);refine gL (some 11) Try.func67 #[.agg #[.slice A0_0 l0_0.length c0_0,.int .i64 a0_1,.int .i64 a0_2]] ?_;(with_reducible refine (orders_fronts.calls k _ _ l0_0 a0_1 a0_2 t279 _ ?side1 ?side2 A4.out).mono ?_);(case side1=>exact cS HR0_0.out);(case side2=>exact HC0_0.out);rintro e w9 ⟨v280,rfl,ho0,hb⟩;refine ⟨_,rfl,?_⟩;have HO281:=qK (Kd.N_lower (Kd.N_mono (ok':=fun k_=>(w.heap.size≤k_)∧k_≠gb277) ho0 (fun k_ hk_=>⟨(Nat.le_trans bZ hk_),(Kd.freshB (g:=gb277) (o:=.cells #[.slice A0_0 l0_0.length c0_0,.int .i64 a0_1,.int .i64 a0_2] 26 (0,0)) (bX BK277.out) k_ hk_)⟩)) bZ);replace BK277:=qK (bB BK277.out hb);replace HB:=qK (bS hb)))
 go_ret2
 exact ⟨_,by first|rfl|(simp [errW_none,errW_some] <;> rfl)|(simp [*,errW_none,errW_some] <;> rfl),by (with_reducible repeat (first|apply Kd.N_alloc|apply Kd.N_drewN|apply Kd.N_drew));exact Kd.N_mono HO281.out (fun _ hk=>hk.1),bA⟩
end Go.Proofs.Ythimaecnpkcmeaa.K
