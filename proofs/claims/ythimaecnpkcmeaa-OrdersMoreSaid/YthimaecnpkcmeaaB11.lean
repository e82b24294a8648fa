/- Contracts of Go functions and lemmas for them: each theorem states what one function returns and what it leaves of memory; its conditions stand in its statement. -/
import Derived.Test.YthimaecnpkcmeaaB10
import Derived.Test.YthimaecnpkcmeaaB3
import Derived.Test.YthimaecnpkcmeaaB4
import Derived.Test.YthimaecnpkcmeaaB5
set_option linter.unusedVariables false
set_option linter.unusedSimpArgs false
namespace Go.Proofs.Ythimaecnpkcmeaa.K
open Go.RowKit Go.Proofs.YthimaecnpkcmeaaW.PrintWords Go.Proofs.YthimaecnpkcmeaaW.PrintLast Go.Proofs.YthimaecnpkcmeaaW.PrintMore
attribute [local go_sem] zAX zAW zAg zAf zAF zAG zAU zAV   -- for this text's walks alone
set_option linter.unusedVariables false
set_option linter.unusedSimpArgs false
theorem zf.clone_eq {l r:List S64} (h:zAz.f l=some r):r=l:=by
 unfold zAz.f at h
 split at h
 ·exact (Option.some.inj h).symm
 ·cases h
def zf.move (c g:Int) (p:S64):S64:=⟨wrap64 (p.f0+c),wrap64 (p.f1+g)⟩
def zf.step (k:Nat) (i:S50) (cur:List S64):Option (List S64) :=
 (zBK.f i.f0.f0 i.f0.f1 i.f1 i.f2).bind fun g=>(zAz.f cur).bind fun l =>
  if cur.length < 4398046511104 then (zAa.f k (l ++ cur.map (zf.move i.f1 g))).bind fun r=>some r.1 else none
def zf.go (k:Nat):List S50→List (List S64)→List S64→Option (List (List S64))
 | [],out,_=>some out
 | i :: is,out,cur=>(zf.step k i cur).bind fun r=>if out.length < 5864062014804 then zf.go k is (out ++ [r]) r else none
def zf.f (k:Nat) (a:List (S50)) (b:Int) (c:Int):Option (List (List S64)):=zf.go k a [[⟨0,0⟩]] [⟨0,0⟩]
def zf.T9:Bool × List (List Nat × List Nat):=(true,[([],[]),([],[]),([1],[1]),([],[]),([3],[3]),([2,4],[2,4]),([],[]),([6],[6]),([],[]),([8],[8]),([7,9],[7,9]),([5,10],[5,10]),([11],[11]),([0,12,9],[0,12]),([13,13,0,1,2,3,4,5,6,7,8,9,10,11,12,13],[0,13])])
def zf.B9:List Nat:=[0,0,2,0,8,30,0,64,0,256,960,2046,4094,8191,16383]
theorem zf.tab9:zBQ .any (opsOf Try.f67 9)=zf.T9:=by kernel_rfl
theorem zf.bits9:zBA zf.T9.2 zf.B9=true:=by kernel_rfl
set_option maxHeartbeats 4000000 in
set_option maxRecDepth 100000 in
theorem zf.calls (k:Nat) (u:Option Addr) (aa:Nat) (a:List (S50)) (ab:Int) (ac:Int) (r:List (List (S64))) (w:World) (ad:Kd.C k50 w u a.length a) (ak:a.length≤aa) (h:zf.f k a ab ac=some r) :
 Calls Try.prog 67 #[.agg #[.slice u a.length aa,.int .i64 ab,.int .i64 ac]] w fun e w'=>∃ v0_:Value,e= .returned (v0_)∧Kd.N (Kd.slice 64 k64) 63 w' w.heap.size (fun k_=>(w.heap.size≤k_)) v0_ r∧Below w.heap.size w w':=by
 have al:=Try.underlying26
 have am:=Try.underlying50
 have an:=Try.underlying64
 have ae:=zA.mk ad
 clear ad
 have H':=zA.mk h
 clear h
 go_enter Try.func67,Try.ntmps67
 go_wp2_with (first
  | ((with_reducible refine zL (N:=1) rfl ?_);refine bE #[.slice u a.length aa,.int .i64 ab,.int .i64 ac] 26 ?_;intro gb hg w1 af hb;have BK:=zA.mk af;have HB:=zA.mk hb;have ag:w1.cell? ⟨gb,0,none⟩=some (.slice u a.length aa):=(zB BK.out 0).trans rfl;clear hg af hb)
  | ((with_reducible refine zL (N:=10) rfl ?_);refine Kd.zBw k64 (w0:=w) w.heap.size 64 rfl (N:=10) rfl (xs:=[⟨0,0⟩]) (inner:=[.int .i64 0,.int .i64 0]) (ok:=fun k_=>w.heap.size≤k_) (okp:=fun _=>False) ?hr ?hp (fun _ hk=>hk.elim) HB.out.size HB.out (Nat.le_trans (Nat.le_refl _) HB.out.size) (by decide) ?_;(case hp=>exact zAI.c2 (zBB _ _ _ (⟨0,0⟩:S64)) (zAI.none _ _));(case hr=>first|(go_simp;done)|(go_simp;rfl));intro v10 w2 ho hb hg hat;obtain ⟨A10,c10,e10⟩:=Kd.zq ho;subst e10;have BK2:=zA.mk (zA0 BK.out hg (by simp));clear BK;have BK:=BK2;clear BK2;have HO:=zA.mk ho;clear HB;have HB:=zA.mk hb;clear ho hb hg hat)
  | ((with_reducible refine zL (N:=11) rfl ?_);refine Kd.N_lit (Kd.slice 64 k64) (w0:=w) w.heap.size 63 rfl (N':=11) rfl (xs:=[[⟨0,0⟩]]) (inner:=[.slice A10 1 c10]) (ok:=fun k_=>w.heap.size≤k_) (okp:=fun k_=>w.heap.size≤k_) ?hr ?hp (fun _ hk=>hk) HB.out.size HB.out (Nat.le_trans (Nat.le_refl _) HB.out.size) (by decide) ?_;(case hp=>exact zAI.one (Kd.zB8 (Kd.zJ HO.out).2.1 (Kd.R_F HO.out)) (zAI.none _ _));(case hr=>first|(go_simp;done)|(go_simp;rfl));intro v11 w3 ho hb hg hat;have BK2:=zA.mk (zA0 BK.out hg (by simp));clear BK;have BK:=BK2;clear BK2;clear HO;have HO:=zA.mk ho;clear HB;have HB:=zA.mk hb;have ag:w3.cell? ⟨gb,0,none⟩=some (.slice u a.length aa):=(zB BK.out 0).trans rfl;clear ho hb hg hat))
 go_loopg [3,15] (a.length+1) (fun kq v3 v15 w'=>∃ (x:Int) (i:Nat) (outl:List (List S64)) (cur:List S64),v15= .int .i64 x∧zA (x=(i:Int))∧zA (kq+i=a.length+1)∧zA (i≤a.length)∧zA (zf.go k (a.drop i) outl cur=some r)∧zA (outl.length=i+1)∧zA (outl[i]? = some cur)∧zA (Kd.N (Kd.slice 64 k64) 63 w' w.heap.size (fun k_=>w.heap.size≤k_) v3 outl)∧zA (Below w.heap.size w w'))
 case atStart=>exact ⟨0,0,[[⟨0,0⟩]],[⟨0,0⟩],rfl,⟨rfl⟩,⟨rfl⟩,⟨Nat.zero_le _⟩,H',⟨rfl⟩,⟨rfl⟩,HO,HB⟩
 case round =>
  obtain ⟨x,i,outl,cur,rfl,HX,Hk,Hi,HG,HL,HT,HN,HB⟩:=hrel
  clear ag HO H' BK
  have hlen:a.length≤9223372036854775807:=ae.out.2.1
  by_cases ht:i < a.length
  rotate_left
  ·have hil:i=a.length:=by have:=Hi.out;omega
   have c0:decide (x < (a.length:Int))=false:=decide_eq_false (by have:=HX.out;omega)
   have hG:=HG.out
   rw [hil,List.drop_of_length_le (Nat.le_refl _)] at hG
   unfold zf.go at hG
   obtain rfl:=Option.some.inj hG
   clear hG HG
   go_wp2
   go_ret
   exact ⟨_,rfl,HN.out,HB.out⟩
  have c0:decide (x < (a.length:Int))=true:=decide_eq_true (by have:=HX.out;omega)
  have c0p:(x < (a.length:Int))=True:=eq_true (by have:=HX.out;omega)
  have c00p:(0≤x)=True:=eq_true (by have:=HX.out;omega)
  have c00:decide (0≤x)=true:=decide_eq_true (by have:=HX.out;omega)
  obtain ⟨ad5,e5,o,q,s,t⟩:=zA9 ae.out x (by have:=HX.out;omega) (by have:=HX.out;omega)
  subst e5
  have hit:zG a x=a[i]:=by rw [HX.out];unfold zG;rw [Int.toNat_natCast,List.getD_eq_getElem?_getD,List.getElem?_eq_getElem ht];rfl
  rw [hit] at o q s t
  have hG:=HG.out
  rw [List.drop_eq_getElem_cons ht] at hG
  clear HG hit
  revert o q s t hG
  generalize a[i]=it
  intro o q s t hG
  unfold zf.go zf.step at hG
  obtain ⟨rr,hS,hG⟩:=Option.bind_eq_some_iff.1 hG
  obtain ⟨g,hg,hS⟩:=Option.bind_eq_some_iff.1 hS
  obtain ⟨l,hl,hS⟩:=Option.bind_eq_some_iff.1 hS
  split at hS
  case isFalse=>cases hS
  case isTrue hlim =>
  obtain ⟨⟨r1,r2⟩,hF,hS⟩:=Option.bind_eq_some_iff.1 hS
  obtain rfl:=Option.some.inj hS
  clear hS
  split at hG
  case isFalse=>cases hG
  case isTrue hlim2 =>
  have HGain:=zA.mk hg
  have HClone:=zA.mk hl
  have HFront:=zA.mk hF
  have HG:=zA.mk hG
  have LM1:=zA.mk hlim
  have LM2:=zA.mk hlim2
  have HT0:=zA.mk ht
  clear hg hl hF hG hlim hlim2 ht
  replace o:=hC HB.out o
  replace q:=hC HB.out q
  replace s:=hC HB.out s
  replace t:=hC HB.out t
  obtain ⟨g3,c3,e3,hg3b,hg3,-⟩:=Kd.N_form HN.out (by have:=HL.out;omega)
  subst e3
  obtain ⟨ad3,A6,c6,e3,hx3,hc6,hC6⟩:=zDn (Kd.zBm HN.out).2.2 x (by have:=HX.out;omega) (by have:=HX.out;have:=HL.out;omega)
  cases e3
  have hrd:zBj outl x=cur:=by rw [HX.out];unfold zBj;rw [Int.toNat_natCast,List.getD_eq_getElem?_getD,HT.out];rfl
  rw [hrd] at hx3 hc6 hC6
  clear hrd
  rw [show (⟨g3,0,none⟩:Addr).add x.toNat=⟨g3,x.toNat,none⟩ from by unfold Addr.add;split <;> simp_all] at hx3
  have HC6:=zA.mk hC6
  clear hC6
  have c1p:(x < (outl.length:Int))=True:=eq_true (by have:=HX.out;have:=HL.out;omega)
  have c1:decide (x < (outl.length:Int))=true:=decide_eq_true (by have:=HX.out;have:=HL.out;omega)
  have hl:=zf.clone_eq HClone.out
  subst hl
  go_wp2_with (first
   | (go_at_call 98;(with_reducible refine (zAz.calls A6 c6 l l _ ?side1 hc6 HClone.out).mono ?_);(case side1=>exact Kd.zAZ HC6.out (zo (Below.refl _ _) _));rintro e w6 ⟨v6,rfl,hR,hB⟩;have key : ∃ W1:World,zA (Below w.heap.size w W1)∧zA (Kd.N (Kd.slice 64 k64) 63 W1 w.heap.size (fun k_=>w.heap.size≤k_) (.slice (some ⟨g3,0,none⟩) outl.length c3) outl)∧zA (W1.heap[wr.heap.size]? = some (.cells #[.int .i64 it.f0.f0,.int .i64 it.f0.f1,.int .i64 it.f1,.int .i64 it.f2] 50 (0,0)))∧zA (W1.cell? ⟨g3,x.toNat,none⟩=some (.slice A6 l.length c6))∧zA (Kd.C k64 W1 A6 l.length l)∧zA (Kd.R k64 64 w6 W1.heap.size (fun _=>True) v6 l)∧zA (Below W1.heap.size W1 w6):=⟨_,⟨zo HB.out _⟩,⟨Kd.zEZ HN.out _⟩,⟨zBb _ _⟩,⟨((zo (Below.refl _ _) _).cell (World.block_lt_of_cell? _ _ hx3)).trans hx3⟩,⟨Kd.zAZ HC6.out (zo (Below.refl _ _) _)⟩,⟨hR⟩,⟨hB⟩⟩;clear hR hB HN HC6 hx3 HB;obtain ⟨W1,HB,HN,BK5,HX3,HC6,HO6,HB1⟩:=key;have hx3:w6.cell? ⟨g3,x.toNat,none⟩=some (.slice A6 l.length c6):=(HB1.out.cell (World.block_lt_of_cell? _ _ HX3.out)).trans HX3.out))
  generalize ai:wr.heap.size=gb5 at BK5 ⊢
  clear ai
  obtain ⟨n1,rfl⟩ : ∃ n,gk=n+1:=⟨gk - 1,by have:=Hk.out;have:=HT0.out;omega⟩
  go_loopg [6,30] (l.length+1) (fun kq v6 v30 w'=>∃ (y:Int) (j:Nat),v30= .int .i64 y∧zA (y=(j:Int))∧zA (kq+j=l.length+1)∧zA (j≤l.length)∧zA (Kd.R k64 64 w' W1.heap.size (fun _=>True) v6 (l ++ (l.take j).map (zf.move it.f1 g)))∧zA (Below W1.heap.size W1 w'))
  case atStart=>exact ⟨0,0,rfl,⟨rfl⟩,⟨by omega⟩,⟨Nat.zero_le _⟩,⟨by simpa using HO6.out⟩,HB1⟩
  case round =>
   clear HO6 HB1 hx3
   obtain ⟨y,j,rfl,HY,Hk2,Hj,HO6,HB1⟩:=hrel
   have hx3:wr.cell? ⟨g3,x.toNat,none⟩=some (.slice A6 l.length c6):=(HB1.out.cell (World.block_lt_of_cell? _ _ HX3.out)).trans HX3.out
   by_cases hj:j < l.length
   rotate_left
   ·have hjl:j=l.length:=by have:=Hj.out;omega
    have HJ:=zA.mk hjl
    have d0:decide (y < (l.length:Int))=false:=decide_eq_false (by have:=HY.out;omega)
    have HO:=zA.mk (show Kd.R k64 64 wr W1.heap.size (fun _=>True) u6 (l ++ l.map (zf.move it.f1 g)) by have:=HO6.out;rw [hjl,List.take_of_length_le (by simp)] at this;exact this)
    have HF:=zA.mk (show zAa.f k (l ++ l.map (zf.move it.f1 g))=some (r1,r2) from HFront.out)
    clear HO6 hj hjl
    go_wp2_with (first
     | ((with_reducible refine zH (f:=74) rfl ?_);refine gL (some 51) Try.func74 #[u6] ?_;(with_reducible refine (zAa.calls k (fun k_=>W1.heap.size≤k_) u6 (l ++ l.map (zf.move it.f1 g)) r1 r2 W1 _ ?side1 ?side2 HF.out).mono ?_);(case side1=>exact HB1.out);(case side2=>exact Kd.zDM rfl HO.out (fun k_ e_=>Kd.zV HO.out k_ e_));rintro e w7 ⟨v7,rfl,hR,_,hB,_⟩;refine ⟨_,rfl,?_⟩;obtain ⟨A7,c7,e7⟩:=Kd.zq hR;subst e7;have HN7:=zA.mk (Kd.zBT HN.out hB);have HB7:=zA.mk (zAx HB.out hB);have HR7:=zA.mk (Kd.zDM rfl hR (fun k_ e_=>Kd.zV hR k_ e_):Kd.R k64 64 w7 W1.heap.size (fun k_=>W1.heap.size≤k_) _ r1);clear hR hB)
     | ((with_reducible refine zBF (b:=.append) (xs:=#[.tmp 49,.tmp 52]) rfl ?_);at_builtin;refine Kd.N_append (Kd.slice 64 k64) (w0:=w) w.heap.size rfl (.tmp 49) (.tmp 52) 59 63 (.slice none 0 0) 24 rfl Try.underlying59 info63 rfl (by decide) (by omega) (.slice (some ⟨g3,0,none⟩) outl.length c3) outl r1 [.slice A7 r1.length c7] (fun k_=>w.heap.size≤k_) (fun k_=>W1.heap.size≤k_) rfl rfl ?aP ?aK ?aF HN7.out HB7.out (zB3 HB7.out) ?aL ?_;(case aP=>exact Kd.zB8 (Kd.zJ HR7.out).2.1 (Kd.R_F HR7.out));(case aK=>exact fun k_ hk=>⟨Nat.le_trans (zB3 HB.out) hk,fun e=>by have:=Kd.N_lt HN.out _ e.symm;omega⟩);(case aF=>exact fun k_ hk=>Nat.le_trans (zB3 HB7.out) hk);(case aL=>have:=LM2.out;omega);intro v53 w8 ho hb hg hat;have HN8:=zA.mk ho;have HB8:=zA.mk hb;clear ho hb hg hat))
    go_roundg n1
    case measure=>omega
    case rel=>exact ⟨wrap64 (x+1),i+1,outl ++ [r1],r1,rfl,⟨by have h1:=HX.out;have h2:=HT0.out;unfold wrap64;omega⟩,⟨by have:=Hk.out;omega⟩,⟨HT0.out⟩,HG,⟨by have:=HL.out;simp;omega⟩,⟨by have:=HL.out;rw [List.getElem?_append_right (by omega),this];simp⟩,HN8,HB8⟩
   obtain ⟨n2,rfl⟩ : ∃ n,gk=n+1:=⟨gk - 1,by have:=Hk2.out;omega⟩
   have d0:decide (y < (l.length:Int))=true:=decide_eq_true (by have:=HY.out;omega)
   have d0p:(y < (l.length:Int))=True:=eq_true (by have:=HY.out;omega)
   have d00p:(0≤y)=True:=eq_true (by have:=HY.out;omega)
   have d00:decide (0≤y)=true:=decide_eq_true (by have:=HY.out;omega)
   obtain ⟨ad7,e7,d,m⟩:=zBa HC6.out y (by have:=HY.out;omega) (by have:=HY.out;omega)
   subst e7
   have hit:zI l y=l[j]:=by rw [HY.out];unfold zI;rw [Int.toNat_natCast,List.getD_eq_getElem?_getD,List.getElem?_eq_getElem hj];rfl
   rw [hit] at d m
   have htk:l ++ (l.take (j+1)).map (zf.move it.f1 g)=(l ++ (l.take j).map (zf.move it.f1 g)) ++ [zf.move it.f1 g l[j]]:=by rw [List.take_succ_eq_append_getElem hj,List.map_append,List.append_assoc];rfl
   have hlq:(l ++ (l.take j).map (zf.move it.f1 g)).length+1≤8796093022208:=by have:=LM1.out;simp;omega
   have HTK:=zA.mk htk
   have HLQ:=zA.mk hlq
   have HJ:=zA.mk hj
   clear hit htk hlq
   revert d m HTK
   generalize l[j]=p
   intro d m HTK
   clear hj
   replace d:=(HB1.out.cell (World.block_lt_of_cell? _ _ d)).trans d
   replace m:=(HB1.out.cell (World.block_lt_of_cell? _ _ m)).trans m
   have bk:=HB1.out.block gb5 (zBk BK5.out)
   rw [BK5.out] at bk
   have ao:wr.cell? ⟨gb5,0,none⟩=some (.int .i64 it.f0.f0):=(zB bk 0).trans rfl
   have ap:wr.cell? ⟨gb5,1,none⟩=some (.int .i64 it.f0.f1):=(zB bk 1).trans rfl
   have aq:wr.cell? ⟨gb5,2,none⟩=some (.int .i64 it.f1):=(zB bk 2).trans rfl
   have ar:wr.cell? ⟨gb5,3,none⟩=some (.int .i64 it.f2):=(zB bk 3).trans rfl
   clear bk
   have ah:some wr.heap.size≠(u6:Value).ownBlock:=fun e=>by have:=Kd.zz HO6.out _ e.symm;omega
   have aj:some gb5≠(u6:Value).ownBlock:=fun e=>by have:=Kd.zV HO6.out _ e.symm;have:=zBk BK5.out;omega
   have bk5:wr.heap[gb5]? = some (.cells #[.int .i64 it.f0.f0,.int .i64 it.f0.f1,.int .i64 it.f1,.int .i64 it.f2] 50 (0,0)):=by have bk:=HB1.out.block gb5 (zBk BK5.out);rw [BK5.out] at bk;exact bk
   go_wp2
   have n0_:=zA.mk (Kd.zAv (Kd.zAp HO6.out (.cells #[.int .i64 p.f0,.int .i64 p.f1] 64)))
   have n1_:=zA.mk (zx (zo HB1.out (.cells #[.int .i64 p.f0,.int .i64 p.f1] 64)))
   have n2_:=zA.mk (zF (zBb wr (.cells #[.int .i64 p.f0,.int .i64 p.f1] 64)))
   have n3_:=zA.mk (zF (zC bk5 (.cells #[.int .i64 p.f0,.int .i64 p.f1] 64)))
   clear HO6 HB1 bk5
   generalize wr.alloc (.cells #[.int .i64 p.f0,.int .i64 p.f1] 64)=w8 at n0_ n1_ n2_ n3_ ⊢
   generalize wr.heap.size=gb8 at n2_ ah ⊢
   refine zBH (n:=15) (S:=fun w'=>w'.cell? ⟨gb8,0,none⟩=some (.int .i64 p.f0)∧w'.cell? ⟨gb8,1,none⟩=some (.int .i64 p.f1)∧w'.cell? ⟨gb5,0,none⟩=some (.int .i64 it.f0.f0)∧w'.cell? ⟨gb5,1,none⟩=some (.int .i64 it.f0.f1)∧w'.cell? ⟨gb5,2,none⟩=some (.int .i64 it.f1)∧w'.cell? ⟨gb5,3,none⟩=some (.int .i64 it.f2)) (ds:=[]) #[false,false,false,false,false,false,false,false,false,false,false,false,false,false,false] (by kernel_rfl) rfl rfl ⟨(zB n2_.out 0).trans rfl,(zB n2_.out 1).trans rfl,(zB n3_.out 0).trans rfl,(zB n3_.out 1).trans rfl,(zB n3_.out 2).trans rfl,(zB n3_.out 3).trans rfl⟩ (fun c=>?_)
   refine zAj zf.tab9 zf.bits9 (fun HT_ HW_=>?_)
   generalize w8.drew=w9 at n0_ n1_ n2_ n3_ c ⊢
   refine pP 0 (some 34) HT_ ?_
   refine pP 1 (some 35) HT_ ?_
   refine pP 3 (some 37) HT_ ?_
   refine pP 6 (some 40) HT_ ?_
   refine tP 2 (some 36) HT_ HW_ c ?_
   refine tP 4 (some 38) HT_ HW_ c ?_
   refine pP 5 (some 39) HT_ ?_
   refine tP 7 (some 41) HT_ HW_ c ?_
   refine tP 8 (some 42) HT_ HW_ c ?_
   refine oP 9 (some 43) HT_ (fun K hK=>?_)
   refine gO Try.func97 #[.agg #[.int .i64 it.f0.f0,.int .i64 it.f0.f1,.int .i64 it.f1,.int .i64 it.f2]] ?_
   with_reducible refine (zBK.calls it.f0.f0 it.f0.f1 it.f1 it.f2 g _ HGain.out).mono ?_
   rintro e w31 ⟨rfl,hb⟩
   refine ⟨_,rfl,?_⟩
   have m0_:=zA.mk (Kd.z8 n0_.out hb)
   have m1_:=zA.mk (zAx n1_.out hb)
   have m2_:=zA.mk (zT n2_.out hb)
   have m3_:=zA.mk (zT n3_.out hb)
   clear n0_ n1_ n2_ n3_ hb
   refine hK.out _ _ ⟨(zB m2_.out 0).trans rfl,(zB m2_.out 1).trans rfl,(zB m3_.out 0).trans rfl,(zB m3_.out 1).trans rfl,(zB m3_.out 2).trans rfl,(zB m3_.out 3).trans rfl⟩ (fun c=>?_)
   clear hK K
   refine nP ?_
   refine pP 10 (some 44) HT_ ?_
   refine pP 11 (some 45) HT_ ?_
   refine oP 12 (some 46) HT_ (fun K hK=>?_)
   refine zE1 (w1:=?_) (v:=?_) (by rfl) rfl ?_ ?_
   rotate_left 2
   ·go_simp
    constructor
    ·rfl
    ·rfl
   refine hK.out _ _ ⟨(zB (zC m2_.out _) 0).trans rfl,(zB (zC m2_.out _) 1).trans rfl,(zB (zC m3_.out _) 0).trans rfl,(zB (zC m3_.out _) 1).trans rfl,(zB (zC m3_.out _) 2).trans rfl,(zB (zC m3_.out _) 3).trans rfl⟩ (fun c=>?_)
   clear hK K
   refine nP ?_
   refine oP 13 (some 47) HT_ (fun K hK=>?_)
   refine Kd.zCt k64 (w0:=W1) W1.heap.size (by rfl) (.tmp 34) (.tmp 46) 63 64 (.agg #[(.int .i64 0),(.int .i64 0)]) 16 rfl Try.underlying63 zCa rfl (by decide) (by omega) u6 (l ++ (l.take j).map (zf.move it.f1 g)) (zf.move it.f1 g p) [.int .i64 (wrap64 (p.f0+it.f1)),.int .i64 (wrap64 (p.f1+g))] (fun _=>True) (fun _=>False) rfl rfl ?aP (fun _ hk=>hk.elim) (fun _ _=>trivial) m0_.out m1_.out (zB3 m1_.out) ?aL ?_
   (case aP=>exact zBB _ _ _ (⟨wrap64 (p.f0+it.f1),wrap64 (p.f1+g)⟩:S64))
   (case aL=>have:=HLQ.out;omega)
   intro v47 w32 ho hb hg hat
   rw [← HTK.out] at ho
   have n0_:=zA.mk ho
   have n1_:=zA.mk hb
   have n2_:=zA.mk (zA0 m2_.out hg ah)
   have n3_:=zA.mk (zA0 m3_.out hg aj)
   clear m0_ m1_ m2_ m3_ ho hb hg hat
   refine hK.out _ _ ⟨(zB n2_.out 0).trans rfl,(zB n2_.out 1).trans rfl,(zB n3_.out 0).trans rfl,(zB n3_.out 1).trans rfl,(zB n3_.out 2).trans rfl,(zB n3_.out 3).trans rfl⟩ (fun c=>?_)
   clear hK K
   refine nP ?_
   refine pP 14 (some 6) HT_ ?_
   refine zBZ (zA8 HT_.out (by kernel_rfl)) ?_
   try go_wp2
   go_roundg n2
   case measure=>omega
   case rel=>exact ⟨wrap64 (y+1),j+1,rfl,⟨by have h1:=HY.out;have h2:=HJ.out;have h3:=LM1.out;unfold wrap64;omega⟩,⟨by have:=Hk2.out;omega⟩,⟨HJ.out⟩,n0_,n1_⟩
end Go.Proofs.Ythimaecnpkcmeaa.K
namespace Go.Proofs.Ythimaecnpkcmeaa.K
open Go.RowKit Go.Proofs.YthimaecnpkcmeaaW.PrintWords Go.Proofs.YthimaecnpkcmeaaW.PrintLast Go.Proofs.YthimaecnpkcmeaaW.PrintMore
attribute [local go_sem] zAX zAW zAg zAf zAF zAG zAU zAV   -- for this text's walks alone
set_option linter.unusedVariables false
set_option linter.unusedSimpArgs false
def zB5.f (k:Nat) (a:List (S50)) (b:Int) (c:Int):Option ((List (List (S64))) × Int):=(zK.f k a b c).bind fun d=>(if d=0 then ((zf.f k a b c).bind fun e=>(some (e,0))) else (some (([]:List (List (S64))),d)))
set_option maxHeartbeats 8000000 in
set_option maxRecDepth 100000 in
theorem zB5.calls (k:Nat) (l:Option Addr) (m:Nat) (a:List (S50)) (b:Int) (c:Int) (r1:List (List (S64))) (r2:Int) (w:World) (r:Kd.C k50 w l a.length a) (s:a.length≤m) (h:zB5.f k a b c=some (r1,r2)) :
 Calls Try.prog 27 #[.agg #[.slice l a.length m,.int .i64 b,.int .i64 c]] w fun e w'=>∃ v0_:Value,e= .returned (.tuple #[v0_,.int .i64 r2])∧Kd.N (Kd.slice 64 k64) 63 w' w.heap.size (fun k_=>(w.heap.size≤k_)) v0_ r1∧Below w.heap.size w w':=by
 have aa:=Try.underlying26
 have q:=zA.mk r
 have HC0_0:=zA.mk s
 clear r s
 have HB:=zA.mk (Below.refl w.heap.size w)
 have H:((zK.f k a b c).bind fun i=>(if i=0 then ((zf.f k a b c).bind fun n=>(some (n,0))) else (some (([]:List (List (S64))),i))))=some (r1,r2):=h
 clear h
 replace H:=Option.bind_eq_some_iff.mp H
 obtain ⟨i,A20,H⟩:=H
 replace H:(if i=0 then ((zf.f k a b c).bind fun n=>(some (n,0))) else (some (([]:List (List (S64))),i)))=some (r1,r2):=H
 have A2:=zA.mk A20
 clear A20
 by_cases c3:i=0
 rotate_left
 ·rw [if_neg c3] at H
  have x:(i == 0)=false:=beq_eq_false_iff_ne.mpr c3
  have y:(i != 0)=true:=bne_iff_ne.mpr c3
  simp only [Option.some.injEq,Prod.mk.injEq] at H
  obtain ⟨rfl,rfl⟩:=H
  go_enter Try.func27,Try.ntmps27
  go_wp2_with (first|((with_reducible refine zL (N:=1) rfl ?_);refine bE #[.slice l a.length m,.int .i64 b,.int .i64 c] 26 ?_;intro j hg w10 p hb;have d:=qK (p);have t:=qK (gS hg:w.heap.size≤j);have u:=qK (gS hg:w.heap.size≤j);replace HB:=hQ hb;clear hb p hg;obtain ⟨_,_,_,_,_,_⟩:=xC3 d.out)|((with_reducible refine zH (f:=45) rfl ?_);refine gL (some 6) Try.func45 #[.agg #[.slice l a.length m,.int .i64 b,.int .i64 c]] ?_;(with_reducible refine (zK.calls k _ _ a b c i _ ?side1 ?side2 A2.out).mono ?_);(case side1=>exact cS q.out);(case side2=>exact HC0_0.out);rintro e w12 ⟨rfl,hb⟩;refine ⟨_,rfl,?_⟩;replace d:=bQ d hb;replace HB:=hQ hb))
  go_ret2
  exact ⟨_,eA,by first|exact Kd.zCJ _ _ _ _ _|exact Kd.zCK _ _ _ _ _|exact Kd.zCM _ _ _ _ _|exact Kd.zCL _ _ _ _ _|exact Kd.zBW _ _ _ _ _,bA⟩
 rw [if_pos c3] at H
 have x:(i == 0)=true:=beq_iff_eq.mpr c3
 have y:(i != 0)=false:=bne_eq_false_iff_eq.mpr c3
 clear c3
 replace H:=Option.bind_eq_some_iff.mp H
 obtain ⟨n,A40,H⟩:=H
 replace H:(some (n,0))=some (r1,r2):=H
 have A4:=zA.mk A40
 clear A40
 simp only [Option.some.injEq,Prod.mk.injEq] at H
 obtain ⟨rfl,rfl⟩:=H
 go_enter Try.func27,Try.ntmps27
 go_wp2_with (first|((with_reducible refine zL (N:=1) rfl ?_);refine bE #[.slice l a.length m,.int .i64 b,.int .i64 c] 26 ?_;intro j hg w5 p hb;have d:=qK (p);have t:=qK (gS hg:w.heap.size≤j);have u:=qK (gS hg:w.heap.size≤j);replace HB:=hQ hb;clear hb p hg;obtain ⟨_,_,_,_,_,_⟩:=xC3 d.out)|((with_reducible refine zH (f:=45) rfl ?_);refine gL (some 6) Try.func45 #[.agg #[.slice l a.length m,.int .i64 b,.int .i64 c]] ?_;(with_reducible refine (zK.calls k _ _ a b c i _ ?side1 ?side2 A2.out).mono ?_);(case side1=>exact cS q.out);(case side2=>exact HC0_0.out);rintro e w7 ⟨rfl,hb⟩;refine ⟨_,rfl,?_⟩;replace d:=bQ d hb;replace HB:=hQ hb;obtain ⟨_,_,_,_,_,_⟩:=xC3 d.out)|((with_reducible refine zH (f:=67) rfl ?_);refine gL (some 11) Try.func67 #[.agg #[.slice l a.length m,.int .i64 b,.int .i64 c]] ?_;(with_reducible refine (zf.calls k _ _ a b c n _ ?side1 ?side2 A4.out).mono ?_);(case side1=>exact cS q.out);(case side2=>exact HC0_0.out);rintro e w9 ⟨v280,rfl,ho0,hb⟩;refine ⟨_,rfl,?_⟩;have v:=qK (Kd.zC8 (Kd.zCI (ok':=fun k_=>(w.heap.size≤k_)∧k_≠j) ho0 (fun k_ hk_=>⟨(Nat.le_trans bZ hk_),(Kd.zBl (g:=j) (o:=.cells #[.slice l a.length m,.int .i64 b,.int .i64 c] 26 (0,0)) (bX d.out) k_ hk_)⟩)) bZ);replace d:=bQ d hb;replace HB:=hQ hb))
 go_ret2
 exact ⟨_,eA,by (with_reducible repeat (first|apply Kd.zEZ|apply Kd.zFM|apply Kd.N_drew));exact Kd.zCI v.out (fun _ hk=>hk.1),bA⟩
end Go.Proofs.Ythimaecnpkcmeaa.K
