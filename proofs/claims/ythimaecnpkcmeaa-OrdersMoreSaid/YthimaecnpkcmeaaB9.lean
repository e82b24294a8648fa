/- Contracts of Go functions and lemmas for them: each theorem states what one function returns and what it leaves of memory; its conditions stand in its statement. -/
import Derived.Test.YthimaecnpkcmeaaB3
import Derived.Test.YthimaecnpkcmeaaB4
import Derived.Test.YthimaecnpkcmeaaB5
set_option linter.unusedVariables false
set_option linter.unusedSimpArgs false
namespace Go.Proofs.Ythimaecnpkcmeaa.K
open Go.RowKit Go.Proofs.YthimaecnpkcmeaaW.PrintWords Go.Proofs.YthimaecnpkcmeaaW.PrintLast Go.Proofs.YthimaecnpkcmeaaW.PrintMore
attribute [local go_sem] zAX zAW zAg zAf zAF zAG zAU zAV   -- for this text's walks alone
set_option linter.unusedVariables false
set_option linter.unusedSimpArgs false
def cmp_isNaN_int.f (a0:Int):Option (Bool):=some (a0 != a0)
set_option maxHeartbeats 8000000 in
set_option maxRecDepth 100000 in
theorem cmp_isNaN_int.calls (a0:Int) (r:Bool) (w:World) (h:cmp_isNaN_int.f a0=some r) :
 Calls Try.prog 107 #[.int .i64 a0] w fun e w'=>e= .returned (.bool r)∧zY w w':=by
 have H:(some (a0 != a0))=some r:=h
 clear h
 obtain rfl:=Option.some.inj H
 go_enter Try.func107,Try.ntmps107
 go_wp2
 go_ret
 exact ⟨by first|rfl|(simp;done)|(simp [*];done),by repeat (first|exact zY.refl _|apply zY.step)⟩
end Go.Proofs.Ythimaecnpkcmeaa.K
namespace Go.Proofs.Ythimaecnpkcmeaa.K
open Go.RowKit Go.Proofs.YthimaecnpkcmeaaW.PrintWords Go.Proofs.YthimaecnpkcmeaaW.PrintLast Go.Proofs.YthimaecnpkcmeaaW.PrintMore
attribute [local go_sem] zAX zAW zAg zAf zAF zAG zAU zAV   -- for this text's walks alone
set_option linter.unusedVariables false
set_option linter.unusedSimpArgs false
open Go.Sort in
theorem sorted_world {β:Type} [Inhabited β] (enc:β→Value) {w:World} {base:Nat} {e:TypeId} {size n g cap:Nat} {xs:List Value} (ho:w.ownsRow base e size (.slice (some ⟨g,0,none⟩) n cap) n xs) (d:Array β) (hd:d.size=xs.length) (m:Nat) (os:Array Obj) :
 (grow (putRow enc (Sort.ahead w m) g 0 d) os).ownsRow base e size (.slice (some ⟨g,0,none⟩) n cap) n (d.toList.map enc)∧w.grownBy (grow (putRow enc (Sort.ahead w m) g 0 d) os) (some g):=by
 obtain ⟨hl,h⟩:=ho
 rcases h with ⟨hv,_⟩|⟨g',cap',cur,hv,hb,hh,h1,h2,h3,h4⟩
 ·cases hv
 ·injection hv with hv1 hv2 hv3
  injection hv1 with hv1
  injection hv1 with hv1
  subst hv1 hv3
  have hg:g < w.heap.size:=(Array.getElem?_eq_some_iff.1 hh).1
  have hheap:(grow (putRow enc (Sort.ahead w m) g 0 d) os).heap[g]? = some (.cells (putCells enc 0 d cur) e (0,0)):=by
   rw [heap_grow_old _ _ (by simpa using hg)]
   simp [putRow,mapBlock,Array.getElem?_modify,Sort.ahead,hh,onCells]
  refine ⟨⟨by rw [List.length_map,Array.length_toList,hd,hl],.inr ⟨g,cap,putCells enc 0 d cur,rfl,hb,hheap,h1,h2,by simp [putCells,h3],?_⟩⟩,⟨rfl,rfl,rfl,by simp,?_⟩⟩
  ·have hdn:d.size=n*size:=by rw [hd,hl]
   have hcn:n*size≤cur.size:=by rw [h3];exact Nat.mul_le_mul_right _ h1
   apply List.ext_getElem?
   intro i
   rw [List.getElem?_take,List.getElem?_map]
   by_cases hi:i < n*size
   rotate_left
   ·rw [if_neg hi]
    have:d.toList[i]? = none:=by rw [List.getElem?_eq_none_iff];simp;omega
    rw [this];rfl
   rw [if_pos hi]
   have hic:i < cur.size:=by omega
   have hid:i < d.size:=by omega
   simp [putCells,hic,hid]
  ·intro k hk hne
   rw [heap_grow_old _ _ (by simpa using hk)]
   have hne':g≠k:=fun h=>hne (by rw [h])
   simp [putRow,mapBlock,Array.getElem?_modify,Sort.ahead,hne']
open Go.Sort in
theorem zEJ {β:Type} [Inhabited β] (enc:β→Value) {w:World} {base:Nat} {e:TypeId} {size n g cap:Nat} {d:Array β} (ho:w.ownsRow base e size (.slice (some ⟨g,0,none⟩) n cap) n (d.toList.map enc)):Holds enc w g 0 d∧g < w.heap.size:=by
 obtain ⟨hl,h⟩:=ho
 rcases h with ⟨hv,_⟩|⟨g',cap',cur,hv,hb,hh,h1,h2,h3,h4⟩
 ·cases hv
 ·injection hv with hv1 hv2 hv3
  injection hv1 with hv1
  injection hv1 with hv1
  subst hv1
  refine ⟨fun j hj=>⟨?_,by simp [World.frozen?,hh]⟩,(Array.getElem?_eq_some_iff.1 hh).1⟩
  have h5:(cur.toList.take (n*size))[j]? = some (enc d[j]!):=by
   rw [h4,List.getElem?_map,Array.getElem?_toList,Array.getElem?_eq_getElem hj,getElem!_pos d j hj];rfl
  have hjn:j < n*size:=by rw [List.length_map,Array.length_toList] at hl;omega
  rw [List.getElem?_take,if_pos hjn,Array.getElem?_toList] at h5
  simp only [World.cell?,hh,Nat.zero_add]
  simpa using h5
def insI {α:Type} (le:α→α→Bool) (x:α):List α→List α
 | []=>[x]
 | y :: ys=>if le x y=true then x :: y :: ys else y :: insI le x ys
def zDS {α:Type} (le:α→α→Bool):List α→List α
 | []=>[]
 | x :: xs=>insI le x (zDS le xs)
theorem zDO {α:Type} (le:α→α→Bool) (x:α) : ∀ l:List α,(insI le x l).Perm (x :: l)
 | []=>.refl _
 | y :: ys=>by
  unfold insI
  split
  ·exact .refl _
  ·exact ((zDO le x ys).cons y).trans (.swap x y ys)
theorem zDa {α:Type} (le:α→α→Bool) : ∀ l:List α,(zDS le l).Perm l
 | []=>.refl _
 | x :: xs=>(zDO le x _).trans ((zDa le xs).cons x)
theorem zCx {α:Type} {le:α→α→Bool} (ht : ∀ a b c,le a b=true→le b c=true→le a c=true) (hl : ∀ a b,(le a b || le b a)=true) (x:α) : ∀ l:List α,l.Pairwise (fun a b=>le a b=true)→(insI le x l).Pairwise (fun a b=>le a b=true)
 | [],_=>by simp [insI]
 | y :: ys,h=>by
  unfold insI
  rw [List.pairwise_cons] at h
  split
  ·rename_i hxy
   rw [List.pairwise_cons,List.pairwise_cons]
   exact ⟨fun z hz=>by
    rcases List.mem_cons.1 hz with rfl|hz'
    ·exact hxy
    ·exact ht _ _ _ hxy (h.1 z hz'),h⟩
  ·rename_i hxy
   have hyx:le y x=true:=by have:=hl x y;simpa [hxy] using this
   rw [List.pairwise_cons]
   exact ⟨fun z hz=>by
    rcases List.mem_cons.1 ((zDO le x ys).mem_iff.1 hz) with rfl|hz'
    ·exact hyx
    ·exact h.1 z hz',zCx ht hl x ys h.2⟩
theorem zCc {α:Type} {le:α→α→Bool} (ht : ∀ a b c,le a b=true→le b c=true→le a c=true) (hl : ∀ a b,(le a b || le b a)=true) : ∀ l:List α,(zDS le l).Pairwise (fun a b=>le a b=true)
 | []=>.nil
 | x :: xs=>zCx ht hl x _ (zCc ht hl xs)
theorem zFY {α:Type} {le:α→α→Bool} (ht : ∀ a b c,le a b=true→le b c=true→le a c=true) (hl : ∀ a b,(le a b || le b a)=true) (ha : ∀ a b,le a b=true→le b a=true→a=b) (l:List α):zDS le l=l.mergeSort le :=
 List.Perm.eq_of_pairwise (fun a b _ _ h1 h2=>ha a b h1 h2) (zCc ht hl l) (List.pairwise_mergeSort ht hl l) ((zDa le l).trans (List.mergeSort_perm l le).symm)
theorem zEy (l:List Int):zDS (fun x y:Int=>decide (x≤y)) l=l.mergeSort fun x y=>decide (x≤y) :=
 zFY (fun a b c h1 h2=>by simp at *;omega) (fun a b=>by simp;omega) (fun a b h1 h2=>by simp at *;omega) l
def slices_Sort_int.f (l0:List Int):Option (List Int):=if l0.length < 4611686018427387904 then some (zDS (fun x y=>decide (x≤y)) l0) else none
set_option maxHeartbeats 800000 in
theorem slices_Sort_int.calls (P0_:Nat→Prop) (u9000_:Value) (l0:List Int) (r1:List Int) (w0 w:World) (hB:Below w0.heap.size w0 w) (ho0:Kd.R (Kd.int .i64) 3 w w0.heap.size P0_ u9000_ l0) (h:slices_Sort_int.f l0=some r1) :
 Calls Try.prog 20 #[u9000_] w fun e w'=>e= .returned (.tuple #[])∧Kd.R (Kd.int .i64) 3 w' w0.heap.size (fun k_=>(P0_ k_∨w.heap.size≤k_)) u9000_ r1∧Below w0.heap.size w0 w'∧Kept w w' (fun k_=>P0_ k_):=by
 unfold slices_Sort_int.f at h
 split at h
 case isFalse=>cases h
 case isTrue hlim =>
 rw [zEy] at h
 obtain rfl:=Option.some.inj h
 clear h
 have ho:=Kd.own_of_R ho0
 rcases ho.2 with ⟨hv,hn⟩|⟨g,cap,cur,hv,hb,hh,h1,h2,h3,h4⟩
 ·have h0:l0=[]:=List.length_eq_zero_iff.1 hn
  subst h0
  subst hv
  refine (Try.slices_Sort_int_none none 0 w).mono ?_
  rintro e w' ⟨rfl,rfl⟩
  exact ⟨rfl,by simpa using Kd.zBW _ _ _ _ _,hB,Kept.refl _ _⟩
 ·subst hv
  have ho1:w.ownsRow w0.heap.size 3 1 (.slice (some ⟨g,0,none⟩) l0.length cap) l0.length (l0.toArray.toList.map (Value.int .i64)):=ho
  obtain ⟨hH,hg⟩:=zEJ (Value.int .i64) ho1
  refine (Try.slices_Sort_int g 0 cap l0 w hH hg hlim).mono ?_
  rintro e w' ⟨rfl,m,os,rfl⟩
  obtain ⟨hown,hgr⟩:=sorted_world (Value.int .i64) ho1 (l0.mergeSort fun x y=>decide (x≤y)).toArray (by simp) m os
  have hP:P0_ g:=ho0.1 g rfl
  refine ⟨rfl,Kd.zDx (by simpa [encs] using hown) (fun k hk=>.inl (by simp [Value.ownBlock] at hk;subst hk;exact hP)),hB.grown hgr hB.size (fun k hk=>by injection hk with hk;subst hk;exact hb),⟨hgr.size,fun i hi hn=>hgr.block i hi (fun e=>hn (by injection e with e;subst e;exact hP))⟩⟩
end Go.Proofs.Ythimaecnpkcmeaa.K
namespace Go.Proofs.Ythimaecnpkcmeaa.K
open Go.RowKit Go.Proofs.YthimaecnpkcmeaaW.PrintWords Go.Proofs.YthimaecnpkcmeaaW.PrintLast Go.Proofs.YthimaecnpkcmeaaW.PrintMore
attribute [local go_sem] zAX zAW zAg zAf zAF zAG zAU zAV   -- for this text's walks alone
set_option linter.unusedVariables false
set_option linter.unusedSimpArgs false
def zS.l0:Nat→Int→Int→List Int→Int→Int→Int→Int→Int→Int→Int→Option (Int × Int)
 | 0,_,_,_,_,_,_,_,_,_,_=>none
 | k+1,x6,x7,x44,x45,x46,a,b,c,d,e=>if x46 < x45 then (if 0≤x46 then (if x46 < (x44.length:Int) then ((zAE.f a b c d e (rd x44 x46)).bind fun g=>(if (wrap64 (g.2 - g.1)) > x6 then (zS.l0 k (wrap64 (g.2 - g.1)) (rd x44 x46) x44 x45 (wrap64 (x46+1)) a b c d e) else (zS.l0 k x6 x7 x44 x45 (wrap64 (x46+1)) a b c d e))) else (none)) else (none)) else (some (x6,x7))
def zS.f (k:Nat) (b:Int) (c:Int) (g:Int) (d:Int) (e:Int):Option (Int × Int):=(zAM.f b c g d e).bind fun a=>((some (([a.1,a.2,mn (mx (wrap64 (d - b)) a.1) a.2,mn (mx (wrap64 (e - c)) a.1) a.2]:List Int):List Int)).bind fun h=>((slices_Sort_int.f h).bind fun i=>(zS.l0 k (-1) 0 i (h.length:Int) 0 b c g d e)))
set_option maxHeartbeats 8000000 in
set_option maxRecDepth 100000 in
theorem zS.calls (k:Nat) (j:Int) (g:Int) (n:Int) (l:Int) (i:Int) (r1:Int) (r2:Int) (w:World) (h:zS.f k j g n l i=some (r1,r2)) :
 Calls Try.prog 65 #[.agg #[.int .i64 j,.int .i64 g,.int .i64 n,.int .i64 l,.int .i64 i]] w fun e w'=>e= .returned (.tuple #[.int .i64 r1,.int .i64 r2])∧Below w.heap.size w w':=by
 have bm:=Try.underlying105
 have bt:=Try.underlying24
 have HB:=zA.mk (Below.refl w.heap.size w)
 have H:((zAM.f j g n l i).bind fun ac=>((some (([ac.1,ac.2,mn (mx (wrap64 (l - j)) ac.1) ac.2,mn (mx (wrap64 (i - g)) ac.1) ac.2]:List Int):List Int)).bind fun c=>((slices_Sort_int.f c).bind fun d=>(zS.l0 k (-1) 0 d (c.length:Int) 0 j g n l i))))=some (r1,r2):=h
 clear h
 replace H:=Option.bind_eq_some_iff.mp H
 obtain ⟨⟨o,m⟩,A20,H⟩:=H
 replace H:((some (([o,m,mn (mx (wrap64 (l - j)) o) m,mn (mx (wrap64 (i - g)) o) m]:List Int):List Int)).bind fun c=>((slices_Sort_int.f c).bind fun d=>(zS.l0 k (-1) 0 d (c.length:Int) 0 j g n l i)))=some (r1,r2):=H
 have A2:=zA.mk A20
 clear A20
 obtain ⟨ji3,ai⟩ : ∃ j_:Int,(mx (wrap64 (l - j)) o)=j_:=⟨_,rfl⟩
 replace H:((some (([o,m,mn (ji3) m,mn (mx (wrap64 (i - g)) o) m]:List Int):List Int)).bind fun c=>((slices_Sort_int.f c).bind fun d=>(zS.l0 k (-1) 0 d (c.length:Int) 0 j g n l i)))=some (r1,r2):=by first|(rw [ai] at H;exact H)|(simp only [ai] at H ⊢;exact H)
 (try rw [ai] at A2)
 have hji3_:(if (wrap64 (l - j)) < o then o else (wrap64 (l - j)))=ji3:=ai
 obtain ⟨ji4,aj⟩ : ∃ j_:Int,(mn (ji3) m)=j_:=⟨_,rfl⟩
 replace H:((some (([o,m,ji4,mn (mx (wrap64 (i - g)) o) m]:List Int):List Int)).bind fun c=>((slices_Sort_int.f c).bind fun d=>(zS.l0 k (-1) 0 d (c.length:Int) 0 j g n l i)))=some (r1,r2):=by first|(rw [aj] at H;exact H)|(simp only [aj] at H ⊢;exact H)
 (try rw [aj] at A2)
 have hji4_:(if m < (ji3) then m else (ji3))=ji4:=aj
 obtain ⟨ji5,ak⟩ : ∃ j_:Int,(mx (wrap64 (i - g)) o)=j_:=⟨_,rfl⟩
 replace H:((some (([o,m,ji4,mn (ji5) m]:List Int):List Int)).bind fun c=>((slices_Sort_int.f c).bind fun d=>(zS.l0 k (-1) 0 d (c.length:Int) 0 j g n l i)))=some (r1,r2):=by first|(rw [ak] at H;exact H)|(simp only [ak] at H ⊢;exact H)
 (try rw [ak] at A2)
 have hji5_:(if (wrap64 (i - g)) < o then o else (wrap64 (i - g)))=ji5:=ak
 obtain ⟨ji6,al⟩ : ∃ j_:Int,(mn (ji5) m)=j_:=⟨_,rfl⟩
 replace H:((some (([o,m,ji4,ji6]:List Int):List Int)).bind fun c=>((slices_Sort_int.f c).bind fun d=>(zS.l0 k (-1) 0 d (c.length:Int) 0 j g n l i)))=some (r1,r2):=by first|(rw [al] at H;exact H)|(simp only [al] at H ⊢;exact H)
 (try rw [al] at A2)
 have hji6_:(if m < (ji5) then m else (ji5))=ji6:=al
 obtain ⟨c,ag⟩ : ∃ y_:List Int,y_=(([o,m,ji4,ji6]:List Int)):=⟨_,rfl⟩
 replace H:((slices_Sort_int.f c).bind fun d=>(zS.l0 k (-1) 0 d (c.length:Int) 0 j g n l i))=some (r1,r2):=by first|(rw [ag];with_reducible exact H)|(have H2_:=(Option.bind_some _ _).symm.trans H;rw [ag];with_reducible exact H2_)|(have H2_:=(Option.bind_some _ _).symm.trans H;with_reducible exact H2_)|with_reducible exact H|(rw [ag];exact H)|exact H
 have ar:=zA.mk ag
 clear ag
 replace H:=Option.bind_eq_some_iff.mp H
 obtain ⟨d,A70,H⟩:=H
 replace H:(zS.l0 k (-1) 0 d (c.length:Int) 0 j g n l i)=some (r1,r2):=H
 have A7:=zA.mk A70
 clear A70
 have H':=zA.mk H
 clear H
 go_enter Try.func65,Try.ntmps65
 go_wp2_with (first|((with_reducible refine zL (N:=1) rfl ?_);refine bE #[.int .i64 j,.int .i64 g,.int .i64 n,.int .i64 l,.int .i64 i] 105 ?_;intro x hg w8 aa hb;have a:=qK (aa);have bn:=qK (gS hg:w.heap.size≤x);have bf:=qK (gS hg:w.heap.size≤x);replace HB:=hQ hb;clear hb aa hg;obtain ⟨a5,a6,a7,a8,a9,ba,bb,bc,bd,be⟩:=xC5 a.out)|((with_reducible refine zH (f:=78) rfl ?_);refine gL (some 14) Try.func78 #[.agg #[.int .i64 j,.int .i64 g,.int .i64 n,.int .i64 l,.int .i64 i]] ?_;(with_reducible refine (zAM.calls j g n l i o m _ A2.out).mono ?_);rintro e w10 ⟨rfl,hb⟩;refine ⟨_,rfl,?_⟩;replace a:=bQ a hb;replace HB:=hQ hb;obtain ⟨au,av,aw,ax,ay,az,a0,a1,a2,a3⟩:=xC5 a.out)|((with_reducible refine zL (N:=41) rfl ?_);refine Kd.zBw (Kd.int .i64) _ 3 ?hg (N:=41) ?hd (xs:=([o,m,ji4,ji6]:List Int)) (inner:=[.int .i64 o,.int .i64 m,.int .i64 ji4,.int .i64 ji6]) (ok:=fun _=>True) (okp:=fun _=>True) ?hr ?hp (fun _ hk=>hk) trivial (Below.refl _ _) (Nat.le_refl _) (by simp) ?_;(case hd=>rfl);(case hg=>rfl);(case hr=>exact rA);(case hp=>exact (zAI.one (show Kd.M (Kd.int .i64) _ _ _ o [.int .i64 o] from rfl) (zAI.one (show Kd.M (Kd.int .i64) _ _ _ m [.int .i64 m] from rfl) (zAI.one (show Kd.M (Kd.int .i64) _ _ _ ji4 [.int .i64 ji4] from rfl) (zAI.one (show Kd.M (Kd.int .i64) _ _ _ ji6 [.int .i64 ji6] from rfl) (zAI.none _ _))))));intro v223 w12 am hb hg_ hnew_;clear hg_ hnew_;(first|rw [← ar.out] at am|(simp only [Int.reduceToNat] at am;rw [← ar.out] at am));have ad:=qK (Kd.zAH am bZ);replace a:=bQ a hb;replace HB:=hQ hb;clear hb am;obtain ⟨ao,ap,bl⟩:=Kd.zq ad.out;subst bl)|((with_reducible refine zH (f:=20) rfl ?_);refine gL (some 43) Try.func20 #[.slice ao c.length ap] ?_;(with_reducible refine (slices_Sort_int.calls (fun k_=>some k_=(.slice ao c.length ap:Value).ownBlock) (.slice ao c.length ap) c d w _ ?side1 ?side2 A7.out).mono ?_);(case side1=>repeat (first|(with_reducible first|exact HB.out|apply zo|apply zAb|apply zx|refine zBO ?_ bf.out)|exact HB.out));(case side2=>exact Kd.zBt rfl ad.out);rintro e w15 ⟨rfl,hy0,hb,hkp⟩;refine ⟨_,rfl,?_⟩;replace a:=qK (blk_kept (bX a.out) hkp (fun hs_=>(fun e_=>(Kd.zA6 ad.out a.out (by decide)) e_) hs_));replace ad:=qK (Kd.zDM rfl hy0 (fun k_ e_=>ad.out.1 k_ e_));replace HB:=qK (hb)))
 go_loopg [6,7,46] k (fun kq v6 v7 v46 w'=>∃ (y:Int) (an:Int) (b:Int),v6= .int .i64 y∧v7= .int .i64 an∧v46= .int .i64 b∧zA (zS.l0 kq y an d (c.length:Int) b j g n l i=some (r1,r2))∧zA (kq≤k)∧zA (Kd.R (Kd.int .i64) 3 w' w.heap.size (fun _=>True) (.slice ao c.length ap) d)∧zA (w'.heap[x]? = some (.cells #[.int .i64 j,.int .i64 g,.int .i64 n,.int .i64 l,.int .i64 i] 105 (0,0)))∧zA (Below w.heap.size w w'))
 case atStart=>exact ⟨((-1)),(0),(0),sA,sA,sA,H',⟨Nat.le_refl _⟩,⟨by (with_reducible repeat (first|apply Kd.zAp|apply Kd.zAn|apply Kd.zAv));exact ad.out⟩,⟨by (repeat with_reducible first|apply zD|apply zF|apply zC);exact a.out⟩,⟨bA⟩⟩
 case round =>
  clear H'
  try clear c2
  try clear p2
  try clear c6
  try clear p6
  try clear c7
  try clear au
  try clear av
  try clear aw
  try clear ax
  try clear ay
  try clear a5
  try clear a6
  try clear a7
  try clear a8
  try clear a9
  try clear az
  try clear a0
  try clear a1
  try clear a2
  try clear a3
  try clear ba
  try clear bb
  try clear bc
  try clear bd
  try clear be
  obtain ⟨y,an,b,rfl,rfl,rfl,HA,HK1,r,a,HB⟩:=hrel
  have q:=(Kd.zJ r.out).1
  rw [q] at r
  (try simp only [q])
  (try simp only [q] at a)
  cases gk with
  | zero=>exact absurd HA.out (by simp [zS.l0])
  | succ k1 =>
   have H:=HA.out
   clear HA
   simp only [zS.l0] at H
   by_cases c16:b < (c.length:Int)
   rotate_left
   ·rw [if_neg c16] at H
    have aq:decide (b < (c.length:Int))=false:=decide_eq_false c16
    (try (have c16r0:=aq;simp only [q] at c16r0))
    clear c16
    simp only [Option.some.injEq,Prod.mk.injEq] at H
    obtain ⟨rfl,rfl⟩:=H
    go_wp2
    go_ret2
    exact ⟨by first|rfl|(simp [zAQ,zAP] <;> rfl)|(simp only [← ai,← aj,← ak,← al];first|rfl|(simp [zAQ,zAP] <;> rfl))|(simp [*,zAQ,zAP] <;> rfl),bA⟩
   rw [if_pos c16] at H
   have aq:decide (b < (c.length:Int))=true:=decide_eq_true c16
   (try (have c16r0:=aq;simp only [q] at c16r0))
   clear c16
   by_cases c17:0≤b
   rotate_left
   ·rw [if_neg c17] at H
    exact absurd H (by simp)
   rw [if_pos c17] at H
   have bo:decide (0≤b)=true:=decide_eq_true c17
   clear c17
   by_cases c18:b < (d.length:Int)
   rotate_left
   ·rw [if_neg c18] at H
    exact absurd H (by simp)
   rw [if_pos c18] at H
   have bg:decide (b < (d.length:Int))=true:=decide_eq_true c18
   (try (have c18r0:=bg;simp only [q] at c18r0))
   clear c18
   replace H:=Option.bind_eq_some_iff.mp H
   obtain ⟨⟨u,v⟩,A190,H⟩:=H
   replace H:(if (wrap64 (v - u)) > y then (zS.l0 k1 (wrap64 (v - u)) (rd d b) d (c.length:Int) (wrap64 (b+1)) j g n l i) else (zS.l0 k1 y an d (c.length:Int) (wrap64 (b+1)) j g n l i))=some (r1,r2):=H
   have A19:=zA.mk A190
   clear A190
   by_cases c20:(wrap64 (v - u)) > y
   rotate_left
   ·rw [if_neg c20] at H
    have bh:decide (y < (wrap64 (v - u)))=false:=decide_eq_false c20
    clear c20
    have H':=zA.mk H
    clear H
    have ae:0≤(b:Int):=dA
    have af:b < (d.length:Int):=dA
    obtain ⟨bi,e226,a4⟩:=Kd.zAh (Kd.zJ r.out).2.2 b ae af
    cases e226
    replace ae:=eq_true ae
    replace af:=eq_true af
    obtain ⟨_,_,_,_,_,_,_,_,_,_⟩:=xC5 a.out
    go_wp2_with (first|((with_reducible refine zH (f:=79) rfl ?_);refine gL (some 52) Try.func79 #[.agg #[.int .i64 j,.int .i64 g,.int .i64 n,.int .i64 l,.int .i64 i],.int .i64 (rd d b)] ?_;(with_reducible refine (zAE.calls j g n l i (rd d b) u v _ A19.out).mono ?_);rintro e w27 ⟨rfl,hb⟩;refine ⟨_,rfl,?_⟩;replace r:=rB r hb;replace a:=bQ a hb;replace HB:=hQ hb)|((with_reducible refine zL (N:=11) rfl ?_);refine bE #[.int .i64 0,.int .i64 0] 24 ?_;intro t hg w28 aa hb;replace r:=rB r hb;have ah:=qK (aa);have bj:=qK (gS hg:w.heap.size≤t);have bk:=qK (gS hg:w.heap.size≤t);replace HB:=hQ hb;have s:=qK (nL hg a.out:x≠t);have ab:=qK (nG hg a.out:t≠x);replace a:=bQ a hb;clear hb aa hg;have bp:=ab.out;have bq:=s.out;obtain ⟨_,_,_,_⟩:=xC2 ah.out))
    (try simp only [← q])
    go_roundg k1
    case measure=>have:=HK1.out;omega
    case rel=>exact ⟨(y),(an),(wrap64 (b+1)),sA,sA,sA,H',⟨by have:=HK1.out;omega⟩,⟨by (try simp only [q]);(with_reducible repeat (first|apply Kd.zAp|apply Kd.zAn|apply Kd.zAv));exact Kd.zR (Kd.zM (p:=⟨t,1,none⟩) (Kd.zM (p:=⟨t,0,none⟩) (Kd.ze r.out ah.out (by decide)) (fun _ hk=>hk.2) (.int .i64 u)) (fun _ hk=>hk.2) (.int .i64 v)) (fun _ hk=>trivial)⟩,⟨by (try simp only [q]);(repeat with_reducible first|apply zD|apply zF|apply zC);refine zO ?_ s.out _;(repeat with_reducible first|apply zD|apply zF|apply zC);refine zO ?_ s.out _;(repeat with_reducible first|apply zD|apply zF|apply zC);exact a.out⟩,⟨bA⟩⟩
   rw [if_pos c20] at H
   have bh:decide (y < (wrap64 (v - u)))=true:=decide_eq_true c20
   clear c20
   have H':=zA.mk H
   clear H
   have ae:0≤(b:Int):=dA
   have af:b < (d.length:Int):=dA
   obtain ⟨bi,e226,a4⟩:=Kd.zAh (Kd.zJ r.out).2.2 b ae af
   cases e226
   replace ae:=eq_true ae
   replace af:=eq_true af
   obtain ⟨_,_,_,_,_,_,_,_,_,_⟩:=xC5 a.out
   go_wp2_with (first|((with_reducible refine zH (f:=79) rfl ?_);refine gL (some 52) Try.func79 #[.agg #[.int .i64 j,.int .i64 g,.int .i64 n,.int .i64 l,.int .i64 i],.int .i64 (rd d b)] ?_;(with_reducible refine (zAE.calls j g n l i (rd d b) u v _ A19.out).mono ?_);rintro e w22 ⟨rfl,hb⟩;refine ⟨_,rfl,?_⟩;replace r:=rB r hb;replace a:=bQ a hb;replace HB:=hQ hb)|((with_reducible refine zL (N:=11) rfl ?_);refine bE #[.int .i64 0,.int .i64 0] 24 ?_;intro t hg w23 aa hb;replace r:=rB r hb;have ah:=qK (aa);have bj:=qK (gS hg:w.heap.size≤t);have bk:=qK (gS hg:w.heap.size≤t);replace HB:=hQ hb;have s:=qK (nL hg a.out:x≠t);have ab:=qK (nG hg a.out:t≠x);replace a:=bQ a hb;clear hb aa hg;have br:=ab.out;have bs:=s.out;obtain ⟨_,_,_,_⟩:=xC2 ah.out))
   (try simp only [← q])
   go_roundg k1
   case measure=>have:=HK1.out;omega
   case rel=>exact ⟨(wrap64 (v - u)),(rd d b),(wrap64 (b+1)),sA,sA,sA,H',⟨by have:=HK1.out;omega⟩,⟨by (try simp only [q]);(with_reducible repeat (first|apply Kd.zAp|apply Kd.zAn|apply Kd.zAv));exact Kd.zR (Kd.zM (p:=⟨t,1,none⟩) (Kd.zM (p:=⟨t,0,none⟩) (Kd.ze r.out ah.out (by decide)) (fun _ hk=>hk.2) (.int .i64 u)) (fun _ hk=>hk.2) (.int .i64 v)) (fun _ hk=>trivial)⟩,⟨by (try simp only [q]);(repeat with_reducible first|apply zD|apply zF|apply zC);refine zO ?_ s.out _;(repeat with_reducible first|apply zD|apply zF|apply zC);refine zO ?_ s.out _;(repeat with_reducible first|apply zD|apply zF|apply zC);exact a.out⟩,⟨bA⟩⟩
def zAd.f (k:Nat) (b:List (S50)) (c:Int) (d:Int) (l1:List Int):Option (Int):=(zm.f k b c d l1).bind fun g=>((zl.f k g).bind fun h=>((za.f k b c d h).bind fun a=>((zS.f k a.1 a.2.1 a.2.2.1 a.2.2.2.1 a.2.2.2.2).bind fun e=>(some e.1))))
def zAd.T1:Bool × List (List Nat × List Nat):=(true,[([],[]),([],[]),([],[]),([1,2],[1,2]),([3,3],[3]),([0,4,4],[0,4]),([5,5],[5]),([6],[6]),([7],[7]),([7],[7]),([8,6,0,1,2,3,4,5,6,7,8],[8]),([9,10,0,1,2,3,4,5,6,7,8,9,10],[9])])
def zAd.B1:List Nat:=[0,0,0,6,14,31,63,127,255,255,511,2047]
theorem zAd.zC6:zBQ .any (opsOf Try.f58 1)=zAd.T1:=by kernel_rfl
theorem zAd.zCQ:zBA zAd.T1.2 zAd.B1=true:=by kernel_rfl
set_option maxHeartbeats 8000000 in
set_option maxRecDepth 100000 in
theorem zAd.calls (k:Nat) (p:Option Addr) (q:Nat) (c:List (S50)) (d:Int) (g:Int) (A1:Option Addr) (c1:Nat) (l1:List Int) (r:Int) (w:World) (aa:Kd.C k50 w p c.length c) (ab:c.length≤q) (hr1:Kd.C (Kd.int .i64) w A1 l1.length l1) (hc1:l1.length≤c1) (h:zAd.f k c d g l1=some r) :
 Calls Try.prog 58 #[.agg #[.slice p c.length q,.int .i64 d,.int .i64 g],.slice A1 l1.length c1] w fun e w'=>e= .returned (.int .i64 r)∧Below w.heap.size w w':=by
 have al:=Try.underlying26
 have ac:=zA.mk aa
 have HC0_0:=zA.mk ab
 clear aa ab
 have HR1:=zA.mk hr1
 have HC1:=zA.mk hc1
 clear hr1 hc1
 have HB:=zA.mk (Below.refl w.heap.size w)
 have H:((zm.f k c d g l1).bind fun s=>((zl.f k s).bind fun m=>((za.f k c d g m).bind fun b=>((zS.f k b.1 b.2.1 b.2.2.1 b.2.2.2.1 b.2.2.2.2).bind fun i=>(some i.1)))))=some r:=h
 clear h
 replace H:=Option.bind_eq_some_iff.mp H
 obtain ⟨s,A30,H⟩:=H
 replace H:((zl.f k s).bind fun m=>((za.f k c d g m).bind fun b=>((zS.f k b.1 b.2.1 b.2.2.1 b.2.2.2.1 b.2.2.2.2).bind fun i=>(some i.1))))=some r:=H
 have A3:=zA.mk A30
 clear A30
 replace H:=Option.bind_eq_some_iff.mp H
 obtain ⟨m,A40,H⟩:=H
 replace H:((za.f k c d g m).bind fun b=>((zS.f k b.1 b.2.1 b.2.2.1 b.2.2.2.1 b.2.2.2.2).bind fun i=>(some i.1)))=some r:=H
 have A4:=zA.mk A40
 clear A40
 replace H:=Option.bind_eq_some_iff.mp H
 obtain ⟨⟨t,u,v,x,y⟩,A50,H⟩:=H
 replace H:((zS.f k t u v x y).bind fun i=>(some i.1))=some r:=H
 have A5:=zA.mk A50
 clear A50
 replace H:=Option.bind_eq_some_iff.mp H
 obtain ⟨⟨ad,ag⟩,A60,H⟩:=H
 replace H:(some ad)=some r:=H
 have A6:=zA.mk A60
 clear A60
 obtain rfl:=Option.some.inj H
 go_enter Try.func58,Try.ntmps58
 try go_wp2_with (first|((with_reducible refine zL (N:=2) rfl ?_);refine bE #[.slice p c.length q,.int .i64 d,.int .i64 g] 26 ?_;intro o hg w7 ae hb;have a:=qK (ae);have aj:=qK (gS hg:w.heap.size≤o);have ak:=qK (gS hg:w.heap.size≤o);replace HB:=hQ hb;clear hb ae hg))
 replace a:=qK (zF a.out)
 replace HB:=qK (zx HB.out)
 refine zBH (n:=12) (S:=fun w'=>w'.cell? ⟨o,0,none⟩=some (.slice p c.length q)∧w'.cell? ⟨o,1,none⟩=some (.int .i64 d)∧w'.cell? ⟨o,2,none⟩=some (.int .i64 g)) (ds:=[]) #[false,false,false,false,false,false,false,false,false,false,false,false] (by kernel_rfl) rfl rfl ⟨(zB a.out 0).trans rfl,(zB a.out 1).trans rfl,(zB a.out 2).trans rfl⟩ (fun j=>?_);refine zAj zAd.zC6 zAd.zCQ (fun HT_ HW_=>?_)
 generalize w7.drew=w8 at a HB j ⊢
 refine pP 2 (some 10) HT_ ?_
 refine tP 0 (some 8) HT_ HW_ j ?_
 refine tP 1 (some 9) HT_ HW_ j ?_
 refine oP 3 (some 11) HT_ (fun K hK=>?_)
 refine gO Try.func62 #[.agg #[.slice p c.length q,.int .i64 d,.int .i64 g],.slice A1 l1.length c1] ?_
 with_reducible refine (zm.calls k _ _ c d g _ _ l1 s _ ?side1 ?side2 ?side3 ?side4 A3.out).mono ?_
 (case side1=>exact cS ac.out)
 (case side2=>exact HC0_0.out)
 (case side3=>exact cS HR1.out)
 (case side4=>exact HC1.out)
 rintro e w9 ⟨v232,rfl,ho0,hb⟩
 refine ⟨_,rfl,?_⟩
 have l:=qK (Kd.zAH ho0 bZ)
 replace a:=bQ a hb
 replace HB:=hQ hb
 (try clear hb)
 (try clear hb2)
 (try clear hk)
 (try clear hi)
 (try clear ho0)
 obtain ⟨ah,ai,af⟩:=Kd.zq l.out
 (first|subst af|(injection af with f1_ f2_ f3_;have f4_:=f1_.symm;have f5_:=f3_.symm;clear f1_ f2_ f3_;subst f4_;subst f5_))
 refine hK.out _ _ ⟨(zB a.out 0).trans rfl,(zB a.out 1).trans rfl,(zB a.out 2).trans rfl⟩ (fun j=>?_)
 clear hK K
 refine nP ?_
 refine oP 4 (some 12) HT_ (fun K hK=>?_)
 refine gO Try.func66 #[.slice ah s.length ai] ?_
 with_reducible refine (zl.calls k _ _ s m _ ?side1 ?side2 A4.out).mono ?_
 (case side1=>exact cR (Kd.zJ l.out).2.2)
 (case side2=>exact (Kd.zJ l.out).2.1)
 rintro e w' ⟨rfl,⟨nd,rfl⟩⟩
 refine ⟨_,rfl,?_⟩
 refine hK.out _ _ ⟨(zB a.out 0).trans rfl,(zB a.out 1).trans rfl,(zB a.out 2).trans rfl⟩ (fun j=>?_)
 clear hK K
 refine nP ?_
 refine oP 5 (some 13) HT_ (fun K hK=>?_)
 refine gO Try.func64 #[.agg #[.slice p c.length q,.int .i64 d,.int .i64 g],.int .i64 m] ?_
 with_reducible refine (za.calls k _ _ c d g m t u v x y _ ?side1 ?side2 A5.out).mono ?_
 (case side1=>repeat (first|exact (Kd.zAZ ac.out bA)|(with_reducible refine Kd.zAo ?_ _)|(with_reducible refine Kd.zAl ?_ _)|(with_reducible refine Kd.zA3 ?_)))
 (case side2=>exact HC0_0.out)
 rintro e w11 ⟨rfl,hb⟩
 refine ⟨_,rfl,?_⟩
 replace l:=rB l hb
 replace a:=bQ a hb
 replace HB:=hQ hb
 (try clear hb)
 (try clear hb2)
 (try clear hk)
 (try clear hi)
 refine hK.out _ _ ⟨(zB a.out 0).trans rfl,(zB a.out 1).trans rfl,(zB a.out 2).trans rfl⟩ (fun j=>?_)
 clear hK K
 refine nP ?_
 refine oP 6 (some 14) HT_ (fun K hK=>?_)
 refine gO Try.func65 #[.agg #[.int .i64 t,.int .i64 u,.int .i64 v,.int .i64 x,.int .i64 y]] ?_
 with_reducible refine (zS.calls k t u v x y ad ag _ A6.out).mono ?_
 rintro e w12 ⟨rfl,hb⟩
 refine ⟨_,rfl,?_⟩
 replace l:=rB l hb
 replace a:=bQ a hb
 replace HB:=hQ hb
 (try clear hb)
 (try clear hb2)
 (try clear hk)
 (try clear hi)
 refine hK.out _ _ ⟨(zB a.out 0).trans rfl,(zB a.out 1).trans rfl,(zB a.out 2).trans rfl⟩ (fun j=>?_)
 clear hK K
 refine nP ?_
 refine pP 7 (some 7) HT_ ?_
 refine pP 8 (some 15) HT_ ?_
 refine pP 9 (some 16) HT_ ?_
 refine pP 10 (some 5) HT_ ?_
 refine pP 11 (some 6) HT_ ?_
 refine zBZ (zA8 HT_.out (by kernel_rfl)) ?_
 try go_wp2
 go_ret
 exact ⟨eA,bA⟩
def zCD.f (k:Nat) (a:List (S50)) (b:Int) (c:Int) (l1:List Int):Option (Int × Int):=(zi.f k a b c l1).bind fun d=>(if d=0 then ((zAd.f k a b c l1).bind fun e=>(some (e,0))) else (some (0,d)))
set_option maxHeartbeats 8000000 in
set_option maxRecDepth 100000 in
theorem zCD.calls (k:Nat) (i:Option Addr) (j:Nat) (a:List (S50)) (b:Int) (c:Int) (A1:Option Addr) (c1:Nat) (l1:List Int) (r1:Int) (r2:Int) (w:World) (p:Kd.C k50 w i a.length a) (q:a.length≤j) (hr1:Kd.C (Kd.int .i64) w A1 l1.length l1) (hc1:l1.length≤c1) (h:zCD.f k a b c l1=some (r1,r2)) :
 Calls Try.prog 21 #[.agg #[.slice i a.length j,.int .i64 b,.int .i64 c],.slice A1 l1.length c1] w fun e w'=>e= .returned (.tuple #[.int .i64 r1,.int .i64 r2])∧Below w.heap.size w w':=by
 have ad:=Try.underlying26
 have o:=zA.mk p
 have HC0_0:=zA.mk q
 clear p q
 have HR1:=zA.mk hr1
 have HC1:=zA.mk hc1
 clear hr1 hc1
 have HB:=zA.mk (Below.refl w.heap.size w)
 have H:((zi.f k a b c l1).bind fun g=>(if g=0 then ((zAd.f k a b c l1).bind fun m=>(some (m,0))) else (some (0,g))))=some (r1,r2):=h
 clear h
 replace H:=Option.bind_eq_some_iff.mp H
 obtain ⟨g,A30,H⟩:=H
 replace H:(if g=0 then ((zAd.f k a b c l1).bind fun m=>(some (m,0))) else (some (0,g)))=some (r1,r2):=H
 have A3:=zA.mk A30
 clear A30
 by_cases c4:g=0
 rotate_left
 ·rw [if_neg c4] at H
  have t:(g == 0)=false:=beq_eq_false_iff_ne.mpr c4
  have u:(g != 0)=true:=bne_iff_ne.mpr c4
  simp only [Option.some.injEq,Prod.mk.injEq] at H
  obtain ⟨rfl,rfl⟩:=H
  go_enter Try.func21,Try.ntmps21
  go_wp2_with (first|((with_reducible refine zL (N:=2) rfl ?_);refine bE #[.slice i a.length j,.int .i64 b,.int .i64 c] 26 ?_;intro l hg w11 n hb;have d:=qK (n);have r:=qK (gS hg:w.heap.size≤l);have s:=qK (gS hg:w.heap.size≤l);replace HB:=hQ hb;clear hb n hg;obtain ⟨_,_,_,_,_,_⟩:=xC3 d.out)|((with_reducible refine zH (f:=49) rfl ?_);refine gL (some 9) Try.func49 #[.agg #[.slice i a.length j,.int .i64 b,.int .i64 c],.slice A1 l1.length c1] ?_;(with_reducible refine (zi.calls k _ _ a b c _ _ l1 g _ ?side1 ?side2 ?side3 ?side4 A3.out).mono ?_);(case side1=>exact cS o.out);(case side2=>exact HC0_0.out);(case side3=>exact cS HR1.out);(case side4=>exact HC1.out);rintro e w13 ⟨rfl,hb⟩;refine ⟨_,rfl,?_⟩;replace d:=bQ d hb;replace HB:=hQ hb))
  go_ret2
  exact ⟨eA,bA⟩
 rw [if_pos c4] at H
 have t:(g == 0)=true:=beq_iff_eq.mpr c4
 have u:(g != 0)=false:=bne_eq_false_iff_eq.mpr c4
 clear c4
 replace H:=Option.bind_eq_some_iff.mp H
 obtain ⟨m,A50,H⟩:=H
 replace H:(some (m,0))=some (r1,r2):=H
 have A5:=zA.mk A50
 clear A50
 simp only [Option.some.injEq,Prod.mk.injEq] at H
 obtain ⟨rfl,rfl⟩:=H
 go_enter Try.func21,Try.ntmps21
 go_wp2_with (first|((with_reducible refine zL (N:=2) rfl ?_);refine bE #[.slice i a.length j,.int .i64 b,.int .i64 c] 26 ?_;intro l hg w6 n hb;have d:=qK (n);have r:=qK (gS hg:w.heap.size≤l);have s:=qK (gS hg:w.heap.size≤l);replace HB:=hQ hb;clear hb n hg;obtain ⟨_,_,_,_,_,_⟩:=xC3 d.out)|((with_reducible refine zH (f:=49) rfl ?_);refine gL (some 9) Try.func49 #[.agg #[.slice i a.length j,.int .i64 b,.int .i64 c],.slice A1 l1.length c1] ?_;(with_reducible refine (zi.calls k _ _ a b c _ _ l1 g _ ?side1 ?side2 ?side3 ?side4 A3.out).mono ?_);(case side1=>exact cS o.out);(case side2=>exact HC0_0.out);(case side3=>exact cS HR1.out);(case side4=>exact HC1.out);rintro e w8 ⟨rfl,hb⟩;refine ⟨_,rfl,?_⟩;replace d:=bQ d hb;replace HB:=hQ hb;obtain ⟨v,x,y,aa,ab,ac⟩:=xC3 d.out)|((with_reducible refine zH (f:=58) rfl ?_);refine gL (some 15) Try.func58 #[.agg #[.slice i a.length j,.int .i64 b,.int .i64 c],.slice A1 l1.length c1] ?_;(with_reducible refine (zAd.calls k _ _ a b c _ _ l1 m _ ?side1 ?side2 ?side3 ?side4 A5.out).mono ?_);(case side1=>exact cS o.out);(case side2=>exact HC0_0.out);(case side3=>exact cS HR1.out);(case side4=>exact HC1.out);rintro e w10 ⟨rfl,hb⟩;refine ⟨_,rfl,?_⟩;replace d:=bQ d hb;replace HB:=hQ hb))
 go_ret2
 exact ⟨eA,bA⟩
def zAc.l0:Nat→List Int→Int→Int→Option (List Int)
 | 0,_,_,_=>none
 | k+1,x3,x5,x6=>if x6 < x5 then (if x3.length < 17592186044416 then (zAc.l0 k (x3 ++ [x6]) x5 (wrap64 (x6+1))) else (none)) else (some x3)
def zAc.f (k:Nat) (a0:Int):Option (List Int):=zAc.l0 k ([]:List Int) a0 0
set_option maxHeartbeats 8000000 in
set_option maxRecDepth 100000 in
theorem zAc.calls (k:Nat) (a0:Int) (r:List Int) (w:World) (h:zAc.f k a0=some r) :
 Calls Try.prog 63 #[.int .i64 a0] w fun e w'=>∃ v0_:Value,e= .returned (v0_)∧Kd.R (Kd.int .i64) 3 w' w.heap.size (fun _=>True) v0_ r∧Below w.heap.size w w':=by
 have HB:=zA.mk (Below.refl w.heap.size w)
 have H:(zAc.l0 k ([]:List Int) a0 0)=some r:=h
 clear h
 have H':=zA.mk H
 clear H
 go_enter Try.func63,Try.ntmps63
 go_wp2
 go_loopg [3,6] k (fun kq v3 v6 w'=>∃ (d:List Int) (a:Int),v6= .int .i64 a∧zA (zAc.l0 kq d a0 a=some r)∧zA (kq≤k)∧zA (Kd.R (Kd.int .i64) 3 w' w.heap.size (fun _=>True) v3 d)∧zA (Below w.heap.size w w'))
 case atStart=>exact ⟨(([]:List Int)),(0),sA,H',⟨Nat.le_refl _⟩,⟨by first|exact Kd.zBW _ _ _ _ _|exact Kd.zCK _ _ _ _ _|exact Kd.zCM _ _ _ _ _|exact Kd.zCL _ _ _ _ _|exact Kd.zCJ _ _ _ _ _⟩,⟨bA⟩⟩
 case round =>
  clear H'
  obtain ⟨d,a,rfl,HA,HK1,g,HB⟩:=hrel
  cases gk with
  | zero=>exact absurd HA.out (by simp [zAc.l0])
  | succ k1 =>
   have H:=HA.out
   clear HA
   simp only [zAc.l0] at H
   by_cases c2:a < a0
   rotate_left
   ·rw [if_neg c2] at H
    have m:decide (a < a0)=false:=decide_eq_false c2
    clear c2
    obtain rfl:=Option.some.inj H
    go_wp2
    go_ret
    exact ⟨_,eA,by (with_reducible repeat (first|apply Kd.zAp|apply Kd.zAn|apply Kd.zAv));exact g.out,bA⟩
   rw [if_pos c2] at H
   have m:decide (a < a0)=true:=decide_eq_true c2
   clear c2
   by_cases c3:d.length < 17592186044416
   rotate_left
   ·rw [if_neg c3] at H
    exact absurd H (by simp)
   rw [if_pos c3] at H
   have LMc3:=zA.mk c3
   clear c3
   obtain ⟨i,c⟩ : ∃ y_:List Int,y_=(d ++ [a]):=⟨_,rfl⟩
   replace H:(zAc.l0 k1 i a0 (wrap64 (a+1)))=some r:=by first|(rw [c];with_reducible exact H)|(have H2_:=(Option.bind_some _ _).symm.trans H;rw [c];with_reducible exact H2_)|(have H2_:=(Option.bind_some _ _).symm.trans H;with_reducible exact H2_)|with_reducible exact H|(rw [c];exact H)|exact H
   have j:=zA.mk c
   clear c
   have H':=zA.mk H
   clear H
   go_wp2_with (first|((with_reducible refine zBF (b:=.append) (xs:=#[.tmp 9,.tmp 11]) rfl ?_);at_builtin;refine Kd.zBq (Kd.int .i64) (w0:=w) w.heap.size rfl (.tmp 9) (.tmp 11) 27 3 (.int .i64 0) 8 rfl Try.underlying27 info3 rfl (by decide) (by omega) u3 d a [.int .i64 a] (fun _=>True) (fun _=>False) rfl rfl ?aP (fun _ hk=>hk.elim) ?aF ?aO ?aB ?aS ?aL ?_;(case aP=>exact rfl);(case aB=>exact bA);(case aF=>exact (fun _ _=>trivial));(case aO=>exact (rS g.out));(case aS=>exact bZ);(case aL=>have:=LMc3.out;omega);intro v246 w4 ho hb hg hat;rw [← j.out] at ho;replace HB:=qK (hb);have l:=qK (ho);clear g;clear ho hb hg hat))
   go_roundg k1
   case measure=>have:=HK1.out;omega
   case rel=>exact ⟨(i),(wrap64 (a+1)),sA,H',⟨by have:=HK1.out;omega⟩,⟨by (with_reducible repeat (first|apply Kd.zAp|apply Kd.zAn|apply Kd.zAv));exact l.out⟩,⟨bA⟩⟩
end Go.Proofs.Ythimaecnpkcmeaa.K
namespace Go.Proofs.Ythimaecnpkcmeaa.K
open Go.RowKit Go.Proofs.YthimaecnpkcmeaaW.PrintWords Go.Proofs.YthimaecnpkcmeaaW.PrintLast Go.Proofs.YthimaecnpkcmeaaW.PrintMore
attribute [local go_sem] zAX zAW zAg zAf zAF zAG zAU zAV   -- for this text's walks alone
set_option linter.unusedVariables false
set_option linter.unusedSimpArgs false
def zAN.l0:Nat→Int→Int→Int→List (S50)→Int→Int→Option (Int × Bool × Int)
 | 0,_,_,_,_,_,_=>none
 | k+1,x1,x9,x10,a,b,c=>if x9 < x10 then ((za.f k a b c (wrap64 (Int.tdiv (wrap64 (x9+x10)) 2))).bind fun d=>((zS.f k d.1 d.2.1 d.2.2.1 d.2.2.2.1 d.2.2.2.2).bind fun e=>(if e.1≤x1 then (zAN.l0 k x1 x9 (wrap64 (Int.tdiv (wrap64 (x9+x10)) 2)) a b c) else (zAN.l0 k x1 (wrap64 ((wrap64 (Int.tdiv (wrap64 (x9+x10)) 2))+1)) x10 a b c)))) else ((zAc.f k (a.length:Int)).bind fun g=>((zm.f k a b c g).bind fun h=>((zl.f k h).bind fun i=>(some (x9,decide (i≥x9),0)))))
def zAN.f (k:Nat) (a:List (S50)) (b:Int) (c:Int) (a1:Int):Option (Int × Bool × Int):=(zK.f k a b c).bind fun e=>(if e=0 then (if a1 < 0 then (some (0,false,1)) else ((zAA.f k a b c).bind fun d=>(zAN.l0 k a1 0 (wrap64 (d.2 - d.1)) a b c))) else (some (0,false,e)))
def zAN.T14:Bool × List (List Nat × List Nat):=(true,[([],[]),([],[]),([],[]),([2],[2]),([3],[3]),([4],[4]),([1,5,5],[1,5]),([6,6],[6]),([],[]),([7,8],[7,8]),([0,7,0],[0]),([9,10,0,1,2,3,4,5,6,7,8,9,10],[9]),([11,0,1,2,3,4,5,6,7,8,9,10,11],[])])
def zAN.B14:List Nat:=[0,0,0,4,12,28,62,126,0,510,255,2047,4095]
theorem zAN.tab14:zBQ .any (opsOf Try.f26 14)=zAN.T14:=by kernel_rfl
theorem zAN.bits14:zBA zAN.T14.2 zAN.B14=true:=by kernel_rfl
set_option maxHeartbeats 8000000 in
set_option maxRecDepth 100000 in
theorem zAN.calls (k:Nat) (p:Option Addr) (q:Nat) (b:List (S50)) (d:Int) (g:Int) (a1:Int) (r1:Int) (r2:Bool) (r3:Int) (w:World) (ao:Kd.C k50 w p b.length b) (ap:b.length≤q) (h:zAN.f k b d g a1=some (r1,r2,r3)) :
 Calls Try.prog 26 #[.agg #[.slice p b.length q,.int .i64 d,.int .i64 g],.int .i64 a1] w fun e w'=>e= .returned (.tuple #[.int .i64 r1,.bool r2,.int .i64 r3])∧Below w.heap.size w w':=by
 have b3:=Try.underlying26
 have b4:=Try.underlying24
 have aa:=zA.mk ao
 have HC0_0:=zA.mk ap
 clear ao ap
 have HB:=zA.mk (Below.refl w.heap.size w)
 have H:((zK.f k b d g).bind fun r=>(if r=0 then (if a1 < 0 then (some (0,false,1)) else ((zAA.f k b d g).bind fun ai=>(zAN.l0 k a1 0 (wrap64 (ai.2 - ai.1)) b d g))) else (some (0,false,r))))=some (r1,r2,r3):=h
 clear h
 replace H:=Option.bind_eq_some_iff.mp H
 obtain ⟨r,A30,H⟩:=H
 replace H:(if r=0 then (if a1 < 0 then (some (0,false,1)) else ((zAA.f k b d g).bind fun ai=>(zAN.l0 k a1 0 (wrap64 (ai.2 - ai.1)) b d g))) else (some (0,false,r)))=some (r1,r2,r3):=H
 have A3:=zA.mk A30
 clear A30
 by_cases c4:r=0
 rotate_left
 ·rw [if_neg c4] at H
  have bb:(r == 0)=false:=beq_eq_false_iff_ne.mpr c4
  have bc:(r != 0)=true:=bne_iff_ne.mpr c4
  simp only [Option.some.injEq,Prod.mk.injEq] at H
  obtain ⟨rfl,rfl,rfl⟩:=H
  go_enter Try.func26,Try.ntmps26
  go_wp2_with (first|((with_reducible refine zL (N:=2) rfl ?_);refine bE #[.slice p b.length q,.int .i64 d,.int .i64 g] 26 ?_;intro o hg w40 u hb;have a:=qK (u);have aq:=qK (gS hg:w.heap.size≤o);have ar:=qK (gS hg:w.heap.size≤o);replace HB:=hQ hb;clear hb u hg;obtain ⟨_,_,_,_,_,_⟩:=xC3 a.out)|((with_reducible refine zH (f:=45) rfl ?_);refine gL (some 15) Try.func45 #[.agg #[.slice p b.length q,.int .i64 d,.int .i64 g]] ?_;(with_reducible refine (zK.calls k _ _ b d g r _ ?side1 ?side2 A3.out).mono ?_);(case side1=>exact cS aa.out);(case side2=>exact HC0_0.out);rintro e w42 ⟨rfl,hb⟩;refine ⟨_,rfl,?_⟩;replace a:=bQ a hb;replace HB:=hQ hb))
  go_ret3
  exact ⟨eA,bA⟩
 rw [if_pos c4] at H
 have bb:(r == 0)=true:=beq_iff_eq.mpr c4
 have bc:(r != 0)=false:=bne_eq_false_iff_eq.mpr c4
 clear c4
 by_cases c5:a1 < 0
 ·rw [if_pos c5] at H
  have bd:decide (a1 < 0)=true:=decide_eq_true c5
  clear c5
  simp only [Option.some.injEq,Prod.mk.injEq] at H
  obtain ⟨rfl,rfl,rfl⟩:=H
  go_enter Try.func26,Try.ntmps26
  go_wp2_with (first|((with_reducible refine zL (N:=2) rfl ?_);refine bE #[.slice p b.length q,.int .i64 d,.int .i64 g] 26 ?_;intro o hg w6 u hb;have a:=qK (u);have aq:=qK (gS hg:w.heap.size≤o);have ar:=qK (gS hg:w.heap.size≤o);replace HB:=hQ hb;clear hb u hg;obtain ⟨be,bf,bg,bh,bi,bj⟩:=xC3 a.out)|((with_reducible refine zH (f:=45) rfl ?_);refine gL (some 15) Try.func45 #[.agg #[.slice p b.length q,.int .i64 d,.int .i64 g]] ?_;(with_reducible refine (zK.calls k _ _ b d g r _ ?side1 ?side2 A3.out).mono ?_);(case side1=>exact cS aa.out);(case side2=>exact HC0_0.out);rintro e w8 ⟨rfl,hb⟩;refine ⟨_,rfl,?_⟩;replace a:=bQ a hb;replace HB:=hQ hb))
  go_ret3
  exact ⟨eA,bA⟩
 rw [if_neg c5] at H
 have bd:decide (a1 < 0)=false:=decide_eq_false c5
 clear c5
 replace H:=Option.bind_eq_some_iff.mp H
 obtain ⟨⟨x,y⟩,A90,H⟩:=H
 replace H:(zAN.l0 k a1 0 (wrap64 (y - x)) b d g)=some (r1,r2,r3):=H
 have A9:=zA.mk A90
 clear A90
 have H':=zA.mk H
 clear H
 go_enter Try.func26,Try.ntmps26
 try go_wp2_with (first|((with_reducible refine zL (N:=2) rfl ?_);refine bE #[.slice p b.length q,.int .i64 d,.int .i64 g] 26 ?_;intro o hg w10 u hb;have a:=qK (u);have aq:=qK (gS hg:w.heap.size≤o);have ar:=qK (gS hg:w.heap.size≤o);replace HB:=hQ hb;clear hb u hg;obtain ⟨au,av,aw,ax,ay,az⟩:=xC3 a.out)|((with_reducible refine zH (f:=45) rfl ?_);refine gL (some 15) Try.func45 #[.agg #[.slice p b.length q,.int .i64 d,.int .i64 g]] ?_;(with_reducible refine (zK.calls k _ _ b d g r _ ?side1 ?side2 A3.out).mono ?_);(case side1=>exact cS aa.out);(case side2=>exact HC0_0.out);rintro e w12 ⟨rfl,hb⟩;refine ⟨_,rfl,?_⟩;replace a:=bQ a hb;replace HB:=hQ hb;obtain ⟨a0,a2,a3,a4,a5,a6⟩:=xC3 a.out)|((with_reducible refine zH (f:=54) rfl ?_);refine gL (some 22) Try.func54 #[.agg #[.slice p b.length q,.int .i64 d,.int .i64 g]] ?_;(with_reducible refine (zAA.calls k _ _ b d g x y _ ?side1 ?side2 A9.out).mono ?_);(case side1=>exact cS aa.out);(case side2=>exact HC0_0.out);rintro e w14 ⟨rfl,hb⟩;refine ⟨_,rfl,?_⟩;replace a:=bQ a hb;replace HB:=hQ hb)|((with_reducible refine zL (N:=8) rfl ?_);refine bE #[.int .i64 0,.int .i64 0] 24 ?_;intro m hg w15 u hb;have c:=qK (u);have bu:=qK (gS hg:w.heap.size≤m);have bv:=qK (gS hg:w.heap.size≤m);replace HB:=hQ hb;have t:=qK (nL hg a.out:o≠m);have ab:=qK (nG hg a.out:m≠o);replace a:=bQ a hb;clear hb u hg;have bw:=ab.out;have bx:=t.out;obtain ⟨a7,a8,a9,ba⟩:=xC2 c.out))
 have n0_:zA (((w15.setCell ⟨m,0,none⟩ (.int .i64 x)).setCell ⟨m,1,none⟩ (.int .i64 y)).heap[o]? = some (.cells #[.slice p b.length q,.int .i64 d,.int .i64 g] 26 (0,0))):=⟨by (repeat with_reducible first|apply zD|apply zF|apply zC);refine zO ?_ t.out _;(repeat with_reducible first|apply zD|apply zF|apply zC);refine zO ?_ t.out _;(repeat with_reducible first|apply zD|apply zF|apply zC);exact a.out⟩
 have n1_:zA (((w15.setCell ⟨m,0,none⟩ (.int .i64 x)).setCell ⟨m,1,none⟩ (.int .i64 y)).heap[m]? = some (.cells #[.int .i64 x,.int .i64 y] 24 (0,0))):=⟨by (repeat with_reducible first|apply zD|apply zF|apply zC);refine zP (cs:=#[.int .i64 x,.int .i64 0]) ?_ 1 _ rfl;(repeat with_reducible first|apply zD|apply zF|apply zC);refine zP (cs:=#[.int .i64 0,.int .i64 0]) ?_ 0 _ rfl;(repeat with_reducible first|apply zD|apply zF|apply zC);exact c.out⟩
 have n2_:zA (Below w.heap.size w ((w15.setCell ⟨m,0,none⟩ (.int .i64 x)).setCell ⟨m,1,none⟩ (.int .i64 y))):=⟨bA⟩
 (try clear a)
 (try clear c)
 (try clear HB)
 generalize ((w15.setCell ⟨m,0,none⟩ (.int .i64 x)).setCell ⟨m,1,none⟩ (.int .i64 y))=w18 at n0_ n1_ n2_ ⊢
 have a:=n0_
 have c:=n1_
 have HB:=n2_
 clear n0_ n1_ n2_
 replace a:=qK (zF a.out)
 replace c:=qK (zF c.out)
 replace HB:=qK (zx HB.out)
 refine zBH (n:=7) (S:=fun w'=>w'.cell? ⟨m,0,none⟩=some (.int .i64 x)∧w'.cell? ⟨m,1,none⟩=some (.int .i64 y)) (ds:=[]) #[false,false,false,false,false,false,false] (by kernel_rfl) rfl rfl ⟨(zB c.out 0).trans rfl,(zB c.out 1).trans rfl⟩ (fun s=>?_)
 generalize w18.drew=w19 at a c HB s ⊢
 refine zCX (i:=0) (N:=some 23) (v:=?_) (a':=?_) #[true,false,false,false,false,false,false] rfl rfl (by kernel_rfl) (fun _ _ _ h=>h) (Or.inl ⟨by rfl,?_⟩) ?_ ?_
 rotate_left
 ·intro w'
  go_simp
  with_reducible rfl
 rotate_left
 ·simp only [Act.put,List.setIfInBounds_toArray,List.set_cons_zero,List.set_cons_succ,zBS,zBg]
  rfl
 refine zCX (i:=2) (N:=some 25) (v:=?_) (a':=?_) #[true,false,true,false,false,false,false] rfl rfl (by kernel_rfl) (fun _ _ _ h=>h) (Or.inl ⟨by rfl,?_⟩) ?_ ?_
 rotate_left
 ·intro w'
  go_simp
  with_reducible rfl
 rotate_left
 ·simp only [Act.put,List.setIfInBounds_toArray,List.set_cons_zero,List.set_cons_succ,zBS,zBg]
  rfl
 refine zCX (i:=5) (N:=some 9) (v:=?_) (a':=?_) #[true,false,true,false,false,true,false] rfl rfl (by kernel_rfl) (fun _ _ _ h=>h) (Or.inl ⟨by rfl,?_⟩) ?_ ?_
 rotate_left
 ·intro w'
  go_simp
  with_reducible rfl
 rotate_left
 ·simp only [Act.put,List.setIfInBounds_toArray,List.set_cons_zero,List.set_cons_succ,zBS,zBg]
  rfl
 refine zDX (i:=1) (N:=some 24) (v:=?_) (a':=?_) #[true,true,true,false,false,true,false] rfl rfl (by kernel_rfl) (fun _ _ _ h=>h) (Or.inl ⟨by rfl,?_⟩) s ?_ ?_
 rotate_left
 ·rintro w' ⟨s0,s1⟩
  go_simp
  with_reducible rfl
 rotate_left
 ·simp only [Act.put,List.setIfInBounds_toArray,List.set_cons_zero,List.set_cons_succ,zBS,zBg]
  rfl
 refine zDX (i:=3) (N:=some 26) (v:=?_) (a':=?_) #[true,true,true,true,false,true,false] rfl rfl (by kernel_rfl) (fun _ _ _ h=>h) (Or.inl ⟨by rfl,?_⟩) s ?_ ?_
 rotate_left
 ·rintro w' ⟨s0,s1⟩
  go_simp
  with_reducible rfl
 rotate_left
 ·simp only [Act.put,List.setIfInBounds_toArray,List.set_cons_zero,List.set_cons_succ,zBS,zBg]
  rfl
 refine zCX (i:=4) (N:=some 27) (v:=?_) (a':=?_) #[true,true,true,true,true,true,false] rfl rfl (by kernel_rfl) (fun _ _ _ h=>h) (Or.inl ⟨by rfl,?_⟩) ?_ ?_
 rotate_left
 ·intro w'
  go_simp
  with_reducible rfl
 rotate_left
 ·simp only [Act.put,List.setIfInBounds_toArray,List.set_cons_zero,List.set_cons_succ,zBS,zBg]
  rfl
 refine zCX (i:=6) (N:=some 10) (v:=?_) (a':=?_) #[true,true,true,true,true,true,true] rfl rfl (by kernel_rfl) (fun _ _ _ h=>h) (Or.inl ⟨by rfl,?_⟩) ?_ ?_
 rotate_left
 ·intro w'
  go_simp
  with_reducible rfl
 rotate_left
 ·simp only [Act.put,List.setIfInBounds_toArray,List.set_cons_zero,List.set_cons_succ,zBS,zBg]
  rfl
 refine zBZ (by kernel_rfl) ?_
 try go_wp2
 go_loopg [9,10] k (fun kq v9 v10 w'=>∃ (j:Int) (l:Int),v9= .int .i64 j∧v10= .int .i64 l∧zA (zAN.l0 kq a1 j l b d g=some (r1,r2,r3))∧zA (kq≤k)∧zA (w'.heap[o]? = some (.cells #[(.slice p b.length q),.int .i64 d,.int .i64 g] 26 (0,0)))∧zA (w'.heap[m]? = some (.cells #[.int .i64 x,.int .i64 y] 24 (0,0)))∧zA (Below w.heap.size w w'))
 case atStart=>exact ⟨(0),(wrap64 (y - x)),sA,sA,H',⟨Nat.le_refl _⟩,⟨by (repeat with_reducible first|apply zD|apply zF|apply zC);exact a.out⟩,⟨by (repeat with_reducible first|apply zD|apply zF|apply zC);exact c.out⟩,⟨bA⟩⟩
 case round =>
  clear H'
  try clear c1
  try clear c2
  try clear p2
  try clear c4
  try clear bb
  try clear bc
  try clear c5
  try clear bd
  try clear p6
  try clear c16
  try clear au
  try clear av
  try clear aw
  try clear a0
  try clear a2
  try clear a3
  try clear a7
  try clear a8
  try clear be
  try clear bf
  try clear bg
  try clear ax
  try clear ay
  try clear az
  try clear a4
  try clear a5
  try clear a6
  try clear a9
  try clear ba
  try clear bh
  try clear bi
  try clear bj
  obtain ⟨j,l,rfl,rfl,HA,HK1,a,c,HB⟩:=hrel
  cases gk with
  | zero=>exact absurd HA.out (by simp [zAN.l0])
  | succ k1 =>
   have H:=HA.out
   clear HA
   simp only [zAN.l0] at H
   by_cases c20:j < l
   ·rw [if_pos c20] at H
    have bn:decide (j < l)=true:=decide_eq_true c20
    clear c20
    replace H:=Option.bind_eq_some_iff.mp H
    obtain ⟨⟨ad,ae,af,ag,ah⟩,A210,H⟩:=H
    replace H:((zS.f k1 ad ae af ag ah).bind fun bo=>(if bo.1≤a1 then (zAN.l0 k1 a1 j (wrap64 (Int.tdiv (wrap64 (j+l)) 2)) b d g) else (zAN.l0 k1 a1 (wrap64 ((wrap64 (Int.tdiv (wrap64 (j+l)) 2))+1)) l b d g)))=some (r1,r2,r3):=H
    have A21:=zA.mk A210
    clear A210
    replace H:=Option.bind_eq_some_iff.mp H
    obtain ⟨⟨aj,bk⟩,A220,H⟩:=H
    replace H:(if aj≤a1 then (zAN.l0 k1 a1 j (wrap64 (Int.tdiv (wrap64 (j+l)) 2)) b d g) else (zAN.l0 k1 a1 (wrap64 ((wrap64 (Int.tdiv (wrap64 (j+l)) 2))+1)) l b d g))=some (r1,r2,r3):=H
    have A22:=zA.mk A220
    clear A220
    by_cases c23:aj≤a1
    ·rw [if_pos c23] at H
     have bp:decide (aj≤a1)=true:=decide_eq_true c23
     clear c23
     have H':=zA.mk H
     clear H
     have bz:=t.out
     have b0:=ab.out
     obtain ⟨_,_,_,_,_,_⟩:=xC3 a.out
     go_wp2_with (first|((with_reducible refine zH (f:=64) rfl ?_);refine gL (some 38) Try.func64 #[.agg #[.slice p b.length q,.int .i64 d,.int .i64 g],.int .i64 (wrap64 (Int.tdiv (wrap64 (j+l)) 2))] ?_;(with_reducible refine (za.calls k1 _ _ b d g (wrap64 (Int.tdiv (wrap64 (j+l)) 2)) ad ae af ag ah _ ?side1 ?side2 A21.out).mono ?_);(case side1=>exact cS aa.out);(case side2=>exact HC0_0.out);rintro e w26 ⟨rfl,hb⟩;refine ⟨_,rfl,?_⟩;replace a:=bQ a hb;replace c:=bQ c hb;replace HB:=hQ hb)|((with_reducible refine zH (f:=65) rfl ?_);refine gL (some 39) Try.func65 #[.agg #[.int .i64 ad,.int .i64 ae,.int .i64 af,.int .i64 ag,.int .i64 ah]] ?_;(with_reducible refine (zS.calls k1 ad ae af ag ah aj bk _ A22.out).mono ?_);rintro e w27 ⟨rfl,hb⟩;refine ⟨_,rfl,?_⟩;replace a:=bQ a hb;replace c:=bQ c hb;replace HB:=hQ hb))
     go_roundg k1
     case measure=>have:=HK1.out;omega
     case rel=>exact ⟨(j),(wrap64 (Int.tdiv (wrap64 (j+l)) 2)),sA,sA,H',⟨by have:=HK1.out;omega⟩,⟨by (repeat with_reducible first|apply zD|apply zF|apply zC);exact a.out⟩,⟨by (repeat with_reducible first|apply zD|apply zF|apply zC);exact c.out⟩,⟨bA⟩⟩
    rw [if_neg c23] at H
    have bp:decide (aj≤a1)=false:=decide_eq_false c23
    clear c23
    have H':=zA.mk H
    clear H
    have b1:=t.out
    have b2:=ab.out
    obtain ⟨_,_,_,_,_,_⟩:=xC3 a.out
    go_wp2_with (first|((with_reducible refine zH (f:=64) rfl ?_);refine gL (some 38) Try.func64 #[.agg #[.slice p b.length q,.int .i64 d,.int .i64 g],.int .i64 (wrap64 (Int.tdiv (wrap64 (j+l)) 2))] ?_;(with_reducible refine (za.calls k1 _ _ b d g (wrap64 (Int.tdiv (wrap64 (j+l)) 2)) ad ae af ag ah _ ?side1 ?side2 A21.out).mono ?_);(case side1=>exact cS aa.out);(case side2=>exact HC0_0.out);rintro e w30 ⟨rfl,hb⟩;refine ⟨_,rfl,?_⟩;replace a:=bQ a hb;replace c:=bQ c hb;replace HB:=hQ hb)|((with_reducible refine zH (f:=65) rfl ?_);refine gL (some 39) Try.func65 #[.agg #[.int .i64 ad,.int .i64 ae,.int .i64 af,.int .i64 ag,.int .i64 ah]] ?_;(with_reducible refine (zS.calls k1 ad ae af ag ah aj bk _ A22.out).mono ?_);rintro e w31 ⟨rfl,hb⟩;refine ⟨_,rfl,?_⟩;replace a:=bQ a hb;replace c:=bQ c hb;replace HB:=hQ hb))
    go_roundg k1
    case measure=>have:=HK1.out;omega
    case rel=>exact ⟨(wrap64 ((wrap64 (Int.tdiv (wrap64 (j+l)) 2))+1)),(l),sA,sA,H',⟨by have:=HK1.out;omega⟩,⟨by (repeat with_reducible first|apply zD|apply zF|apply zC);exact a.out⟩,⟨by (repeat with_reducible first|apply zD|apply zF|apply zC);exact c.out⟩,⟨bA⟩⟩
   rw [if_neg c20] at H
   have bn:decide (j < l)=false:=decide_eq_false c20
   clear c20
   replace H:=Option.bind_eq_some_iff.mp H
   obtain ⟨am,A320,H⟩:=H
   replace H:((zm.f k1 b d g am).bind fun ak=>((zl.f k1 ak).bind fun al=>(some (j,decide (al≥j),0))))=some (r1,r2,r3):=H
   have A32:=zA.mk A320
   clear A320
   replace H:=Option.bind_eq_some_iff.mp H
   obtain ⟨ak,A330,H⟩:=H
   replace H:((zl.f k1 ak).bind fun al=>(some (j,decide (al≥j),0)))=some (r1,r2,r3):=H
   have A33:=zA.mk A330
   clear A330
   replace H:=Option.bind_eq_some_iff.mp H
   obtain ⟨al,A340,H⟩:=H
   replace H:(some (j,decide (al≥j),0))=some (r1,r2,r3):=H
   have A34:=zA.mk A340
   clear A340
   simp only [Option.some.injEq,Prod.mk.injEq] at H
   obtain ⟨rfl,rfl,rfl⟩:=H
   try go_wp2
   replace a:=qK (zF a.out)
   replace c:=qK (zF c.out)
   replace HB:=qK (zx HB.out)
   refine zBH (n:=13) (S:=fun w'=>w'.cell? ⟨o,0,none⟩=some (.slice p b.length q)∧w'.cell? ⟨o,1,none⟩=some (.int .i64 d)∧w'.cell? ⟨o,2,none⟩=some (.int .i64 g)) (ds:=[]) #[false,false,false,false,false,false,false,false,false,false,false,false,false] (by kernel_rfl) rfl rfl ⟨(zB a.out 0).trans rfl,(zB a.out 1).trans rfl,(zB a.out 2).trans rfl⟩ (fun s=>?_);refine zAj zAN.tab14 zAN.bits14 (fun HT_ HW_=>?_)
   generalize wr.drew=w35 at a c HB s ⊢
   refine pP 0 (some 48) HT_ ?_
   refine pP 2 (some 50) HT_ ?_
   refine pP 8 (some 56) HT_ ?_
   refine tP 1 (some 49) HT_ HW_ s ?_
   refine tP 3 (some 51) HT_ HW_ s ?_
   refine pP 4 (some 52) HT_ ?_
   refine oP 5 (some 53) HT_ (fun K hK=>?_)
   refine gO Try.func63 #[.int .i64 (b.length:Int)] ?_
   with_reducible refine (zAc.calls k1 (b.length:Int) am _ A32.out).mono ?_
   rintro e w36 ⟨v254,rfl,ho0,hb⟩
   refine ⟨_,rfl,?_⟩
   have ac:=qK (Kd.zAH ho0 bZ)
   replace a:=bQ a hb
   replace c:=bQ c hb
   replace HB:=hQ hb
   (try clear hb)
   (try clear hb2)
   (try clear hk)
   (try clear hi)
   (try clear ho0)
   obtain ⟨bq,br,bl⟩:=Kd.zq ac.out
   (first|subst bl|(injection bl with f1_ f2_ f3_;have f4_:=f1_.symm;have f5_:=f3_.symm;clear f1_ f2_ f3_;subst f4_;subst f5_))
   refine hK.out _ _ ⟨(zB a.out 0).trans rfl,(zB a.out 1).trans rfl,(zB a.out 2).trans rfl⟩ (fun s=>?_)
   clear hK K
   refine nP ?_
   refine oP 6 (some 54) HT_ (fun K hK=>?_)
   refine gO Try.func62 #[.agg #[.slice p b.length q,.int .i64 d,.int .i64 g],.slice bq am.length br] ?_
   with_reducible refine (zm.calls k1 _ _ b d g _ _ am ak _ ?side1 ?side2 ?side3 ?side4 A33.out).mono ?_
   (case side1=>exact cS aa.out)
   (case side2=>exact HC0_0.out)
   (case side3=>exact cR (Kd.zJ ac.out).2.2)
   (case side4=>exact (Kd.zJ ac.out).2.1)
   rintro e w38 ⟨v257,rfl,ho0,hb⟩
   refine ⟨_,rfl,?_⟩
   have an:=qK (Kd.zAH (Kd.zg ho0 (Kd.zz (rS ac.out))) bZ)
   replace ac:=qK (Kd.zQ (rS ac.out) (Kd.zV ho0) hb)
   replace a:=bQ a hb
   replace c:=bQ c hb
   replace HB:=hQ hb
   (try clear hb)
   (try clear hb2)
   (try clear hk)
   (try clear hi)
   (try clear ho0)
   obtain ⟨bs,bt,bm⟩:=Kd.zq an.out
   (first|subst bm|(injection bm with f1_ f2_ f3_;have f4_:=f1_.symm;have f5_:=f3_.symm;clear f1_ f2_ f3_;subst f4_;subst f5_))
   refine hK.out _ _ ⟨(zB a.out 0).trans rfl,(zB a.out 1).trans rfl,(zB a.out 2).trans rfl⟩ (fun s=>?_)
   clear hK K
   refine nP ?_
   refine oP 7 (some 55) HT_ (fun K hK=>?_)
   refine gO Try.func66 #[.slice bs ak.length bt] ?_
   with_reducible refine (zl.calls k1 _ _ ak al _ ?side1 ?side2 A34.out).mono ?_
   (case side1=>exact cR (Kd.zJ an.out).2.2)
   (case side2=>exact (Kd.zJ an.out).2.1)
   rintro e w' ⟨rfl,⟨nd,rfl⟩⟩
   refine ⟨_,rfl,?_⟩
   refine hK.out _ _ ⟨(zB a.out 0).trans rfl,(zB a.out 1).trans rfl,(zB a.out 2).trans rfl⟩ (fun s=>?_)
   clear hK K
   refine nP ?_
   refine pP 9 (some 57) HT_ ?_
   refine pP 10 (some 4) HT_ ?_
   refine pP 11 (some 5) HT_ ?_
   refine pP 12 (some 6) HT_ ?_
   refine zBZ (zA8 HT_.out (by kernel_rfl)) ?_
   try go_wp2
   go_ret3
   exact ⟨eA,bA⟩
end Go.Proofs.Ythimaecnpkcmeaa.K
namespace Go.Proofs.Ythimaecnpkcmeaa.K
open Go.RowKit Go.Proofs.YthimaecnpkcmeaaW.PrintWords Go.Proofs.YthimaecnpkcmeaaW.PrintLast Go.Proofs.YthimaecnpkcmeaaW.PrintMore
attribute [local go_sem] zAX zAW zAg zAf zAF zAG zAU zAV   -- for this text's walks alone
set_option linter.unusedVariables false
set_option linter.unusedSimpArgs false
def zDD (a b:Int):Int:=if a < b then -1 else if b < a then 1 else 0
set_option maxHeartbeats 800000 in
theorem zD7 (a b:Int) (w:World):Calls Try.prog 95 #[.int .i64 a,.int .i64 b] w fun e w'=>e= .returned (.int .i64 (zDD a b))∧w=w':=by
 unfold zDD
 by_cases h1:a < b
 ·rw [if_pos h1]
  go_enter Try.func95,Try.ntmps95
  go_wp2
  go_ret
  exact ⟨rfl,rfl⟩
 rw [if_neg h1]
 by_cases h2:b < a
 ·rw [if_pos h2]
  go_enter Try.func95,Try.ntmps95
  go_wp2
  go_ret
  exact ⟨rfl,rfl⟩
 rw [if_neg h2]
 go_enter Try.func95,Try.ntmps95
 go_wp2
 go_ret
 exact ⟨rfl,rfl⟩
def orI (c1 c2:Int):Int:=if c1=0 then c2 else c1
set_option maxHeartbeats 800000 in
theorem or_exact (g:Nat) (c1 c2:Int) (w:World) (h0:w.cell? ⟨g,0,none⟩=some (.int .i64 c1)) (h1:w.cell? ⟨g,1,none⟩=some (.int .i64 c2)) :
 Calls Try.prog 94 #[.slice (some ⟨g,0,none⟩) 2 2] w fun e w'=>e= .returned (.int .i64 (orI c1 c2))∧w=w':=by
 unfold orI
 by_cases hc:c1=0
 rotate_left
 ·rw [if_neg hc]
  have hd1:(c1 != 0)=true:=bne_iff_ne.mpr hc
  go_enter Try.func94,Try.ntmps94
  go_wp2
  refine wp_loop_rounds 2 ?_
  rw [rounds_succ]
  go_wp2
  go_ret
  exact ⟨rfl,rfl⟩
 subst hc
 rw [if_pos rfl]
 by_cases hd:c2=0
 ·subst hd
  go_enter Try.func94,Try.ntmps94
  go_wp2
  refine wp_loop_rounds 3 ?_
  rw [rounds_succ]
  go_wp2
  rw [rounds_succ]
  go_wp2
  rw [rounds_succ]
  go_wp2
  go_ret
  exact ⟨rfl,rfl⟩
 have hd1:(c2 != 0)=true:=bne_iff_ne.mpr hd
 go_enter Try.func94,Try.ntmps94
 go_wp2
 refine wp_loop_rounds 2 ?_
 rw [rounds_succ]
 go_wp2
 rw [rounds_succ]
 go_wp2
 go_ret
 exact ⟨rfl,rfl⟩
def zBx (x y:S64):Int:=orI (zDD x.f0 y.f0) (zDD y.f1 x.f1)
def zBM (x:S64):List Value:=[.int .i64 x.f0,.int .i64 x.f1]
instance :Inhabited S64:=⟨z64⟩
open Go.Sort in
set_option maxRecDepth 100000 in
set_option maxHeartbeats 800000 in
theorem zES (x y:S64) (w:World):Calls Try.prog 101 #[.agg #[.int .i64 x.f0,.int .i64 x.f1],.agg #[.int .i64 y.f0,.int .i64 y.f1]] w fun e w'=>e= .returned (.int .i64 (zBx x y))∧∃ q os',w'=grow (w.drewN q) os':=by
 unfold zBx
 have hq : ∀ (a b:Int) (w:World),Calls Try.prog 95 #[.int .i64 a,.int .i64 b] w fun e w'=>e= .returned (.int .i64 (zDD a b))∧w'=w:=fun a b w=>(zD7 a b w).mono (fun _ _ ⟨h1,h2⟩=>⟨h1,h2.symm⟩)
 go_enter Try.func101,Try.ntmps101
 go_wp2_with fail
 have hW : ∃ W os,((w.alloc (.cells #[.int .i64 x.f0,.int .i64 x.f1] 64)).alloc (.cells #[.int .i64 y.f0,.int .i64 y.f1] 64))=W∧W=grow w os ∧
  W.cell? ⟨w.heap.size,0,none⟩=some (.int .i64 x.f0)∧W.cell? ⟨w.heap.size,1,none⟩=some (.int .i64 x.f1)∧W.cell? ⟨w.heap.size+1,0,none⟩=some (.int .i64 y.f0)∧W.cell? ⟨w.heap.size+1,1,none⟩=some (.int .i64 y.f1) :=
  ⟨_,_,rfl,by rw [alloc_eq_grow,alloc_eq_grow,grow_grow],by simp [go_sem],by simp [go_sem],by simp [go_sem],by simp [go_sem]⟩
 obtain ⟨W,os,hW,hWg,h1,h2,h3,h4⟩:=hW
 rw [hW]
 clear hW
 have HG:=zA.mk hWg
 clear hWg
 have h1':W.drew.cell? ⟨w.heap.size,0,none⟩=some (.int .i64 x.f0):=h1
 have h2':W.drew.cell? ⟨w.heap.size,1,none⟩=some (.int .i64 x.f1):=h2
 have h3':W.drew.cell? ⟨w.heap.size+1,0,none⟩=some (.int .i64 y.f0):=h3
 have h4':W.drew.cell? ⟨w.heap.size+1,1,none⟩=some (.int .i64 y.f1):=h4
 go_still_tail 10,(by kernel_rfl)
 change wpStill _ _ W.drew _ _ _
 generalize hD:W.drew=D at *
 repeat still_step
 still_call (hq _ _ _)
 repeat still_step
 still_call (hq _ _ _)
 refine wpStill_nil ?_
 have hor:=or_exact
 go_wp2_with (go_at_call 94;refine (hor D.heap.size (zDD x.f0 y.f0) (zDD y.f1 x.f1) _ (by simp [go_sem]) (by simp [go_sem])).mono ?_;rintro e w' ⟨rfl,rfl⟩)
 go_ret
 refine ⟨rfl,1,os ++ #[.cells #[.int .i64 (zDD x.f0 y.f0),.int .i64 (zDD y.f1 x.f1)] 3],?_⟩
 subst hD
 rw [HG.out,alloc_eq_grow,drew_grow,grow_grow]
 rfl
open Go.Sort in
theorem zEi (blk off size:Nat) (w:World):CmpLays Try.prog 101 #[] zBM 2 zBx blk off size w:=fun _ _ _ _ x y=>zES x y _
theorem zFN (a b:Int):zDD a b < 0↔a < b:=by
 unfold zDD;split <;> rename_i h
 ·simp [h]
 ·split <;> rename_i h2 <;> simp <;> omega
theorem cmpI_eq (a b:Int):zDD a b=0↔a=b:=by
 unfold zDD;split <;> rename_i h
 ·simp;omega
 ·split <;> rename_i h2 <;> simp <;> omega
theorem zEg (x y:S64):zBx x y < 0↔x.f0 < y.f0∨x.f0=y.f0∧y.f1 < x.f1:=by
 unfold zBx orI
 have h1:=zFN x.f0 y.f0;have h2:=cmpI_eq x.f0 y.f0;have h3:=zFN y.f1 x.f1
 by_cases h:zDD x.f0 y.f0=0
 ·rw [if_pos h];omega
 rw [if_neg h];omega
open Go.Sort in
theorem zCN (x y:S64):ltOf zBx x y=decide (x.f0 < y.f0∨x.f0=y.f0∧y.f1 < x.f1):=by
 unfold ltOf
 exact decide_eq_decide.mpr (zEg x y)
open Go.Sort in
theorem zFP:SWO (ltOf zBx) where
 irrefl x:=by rw [zCN];simp
 trans x y z h1 h2:=by rw [zCN] at *;simp at *;omega
 ntrans x y z h1 h2:=by rw [zCN] at *;simp at *;omega
def zBy (x y:S64):Bool:=!decide (y.f0 < x.f0∨y.f0=x.f0∧x.f1 < y.f1)
def insP {α:Type} (le:α→α→Bool) (x:α):List α→List α
 | []=>[x]
 | y :: ys=>if le x y=true then x :: y :: ys else y :: insP le x ys
def zDI {α:Type} (le:α→α→Bool):List α→List α
 | []=>[]
 | x :: xs=>insP le x (zDI le xs)
theorem zDK {α:Type} (le:α→α→Bool) (x:α) : ∀ l:List α,(insP le x l).Perm (x :: l)
 | []=>.refl _
 | y :: ys=>by
  unfold insP
  split
  ·exact .refl _
  ·exact ((zDK le x ys).cons y).trans (.swap x y ys)
theorem zDU {α:Type} (le:α→α→Bool) : ∀ l:List α,(zDI le l).Perm l
 | []=>.refl _
 | x :: xs=>(zDK le x _).trans ((zDU le xs).cons x)
theorem zCu {α:Type} {le:α→α→Bool} (ht : ∀ a b c,le a b=true→le b c=true→le a c=true) (hl : ∀ a b,(le a b || le b a)=true) (x:α) : ∀ l:List α,l.Pairwise (fun a b=>le a b=true)→(insP le x l).Pairwise (fun a b=>le a b=true)
 | [],_=>by simp [insP]
 | y :: ys,h=>by
  unfold insP
  rw [List.pairwise_cons] at h
  split
  ·rename_i hxy
   rw [List.pairwise_cons,List.pairwise_cons]
   exact ⟨fun z hz=>by
    rcases List.mem_cons.1 hz with rfl|hz'
    ·exact hxy
    ·exact ht _ _ _ hxy (h.1 z hz'),h⟩
  ·rename_i hxy
   have hyx:le y x=true:=by have:=hl x y;simpa [hxy] using this
   rw [List.pairwise_cons]
   exact ⟨fun z hz=>by
    rcases List.mem_cons.1 ((zDK le x ys).mem_iff.1 hz) with rfl|hz'
    ·exact hyx
    ·exact h.1 z hz',zCu ht hl x ys h.2⟩
theorem zCd {α:Type} {le:α→α→Bool} (ht : ∀ a b c,le a b=true→le b c=true→le a c=true) (hl : ∀ a b,(le a b || le b a)=true) : ∀ l:List α,(zDI le l).Pairwise (fun a b=>le a b=true)
 | []=>.nil
 | x :: xs=>zCu ht hl x _ (zCd ht hl xs)
theorem zFR {α:Type} {le:α→α→Bool} (ht : ∀ a b c,le a b=true→le b c=true→le a c=true) (hl : ∀ a b,(le a b || le b a)=true) (ha : ∀ a b,le a b=true→le b a=true→a=b) (l:List α):zDI le l=l.mergeSort le :=
 List.Perm.eq_of_pairwise (fun a b _ _ h1 h2=>ha a b h1 h2) (zCd ht hl l) (List.pairwise_mergeSort ht hl l) ((zDU le l).trans (List.mergeSort_perm l le).symm)
theorem zEW (l:List S64):zDI zBy l=l.mergeSort zBy:=by
 refine zFR ?_ ?_ ?_ l
 ·intro a b c h1 h2
  simp only [zBy,Bool.not_eq_true',decide_eq_false_iff_not] at *
  omega
 ·intro a b
  by_cases h:b.f0 < a.f0∨b.f0=a.f0∧a.f1 < b.f1
  rotate_left
  ·simp [zBy,h]
  have h2 : ¬ (a.f0 < b.f0∨a.f0=b.f0∧b.f1 < a.f1):=by omega
  simp [zBy,h2]
 ·intro a b h1 h2
  simp only [zBy,Bool.not_eq_true',decide_eq_false_iff_not] at *
  obtain ⟨a0,a1⟩:=a
  obtain ⟨b0,b1⟩:=b
  simp only at h1 h2
  have e0:a0=b0:=by omega
  have e1:a1=b1:=by omega
  rw [e0,e1]
def zAm.f (l0:List S64):Option (List S64):=if l0.length < 4611686018427387904 then some (zDI zBy l0) else none
theorem zC4 (l:List S64):(Go.Sort.flatK zBM 2 l.toArray).toList=l.flatMap zBM:=by
 apply List.ext_getElem?
 intro t
 have key : ∀ (l:List S64) (t:Nat),(l.flatMap zBM)[t]? = if t < l.length*2 then some ((zBM l.toArray[t / 2]!)[t % 2]!) else none:=by
  intro l
  induction l with
  | nil=>intro t;simp
  | cons x l ih =>
   intro t
   rw [List.flatMap_cons]
   match t with
   | 0=>simp [zBM]
   | 1=>simp [zBM];omega
   | t+2 =>
    rw [List.getElem?_append_right (by simp [zBM])]
    have h1:t+2 - (zBM x).length=t:=by simp [zBM]
    rw [h1,ih t]
    have h2:(t+2) / 2=t / 2+1:=by omega
    have h3:(t+2) % 2=t % 2:=by omega
    rw [h2,h3]
    by_cases h:t < l.length*2
    rotate_left
    ·rw [if_neg h,if_neg (by simp;omega)]
    rw [if_pos h,if_pos (by simp;omega)]
    have hl:t / 2 < l.length:=by omega
    simp [hl]
 rw [key l t,Array.getElem?_toList]
 by_cases h:t < l.length*2
 rotate_left
 ·rw [if_neg h,Array.getElem?_eq_none (by simpa using h)]
 rw [if_pos h]
 have hs:t < (Go.Sort.flatK zBM 2 l.toArray).size:=by simpa using h
 rw [Array.getElem?_eq_getElem hs,← getElem!_pos _ t hs,Go.Sort.get_flatK _ _ _ _ (by simpa using h)]
theorem zDT (W:World) (b:Nat) (ok:Nat→Prop) : ∀ (l:List S64),zAI (k64.M W b ok) 2 l (l.flatMap zBM)
 | []=>zAI.none _ _
 | x :: l=>zAI.c2 (zBB _ _ _ x) (zDT W b ok l)
theorem zEE {W:World} {b:Nat} {ok:Nat→Prop} {l:List S64} {inner:List Value} (h:zAI (k64.M W b ok) 2 l inner):inner=l.flatMap zBM:=by
 have h2:=zDT W b ok l
 apply List.ext_getElem?
 intro t
 by_cases ht:t < l.length*2
 rotate_left
 ·rw [List.getElem?_eq_none (by rw [h.1];omega),List.getElem?_eq_none (by rw [h2.1];omega)]
 have hj:l[t / 2]? = some l[t / 2]:=List.getElem?_eq_getElem (by omega)
 have e1:=zEP (h.2 _ _ hj)
 have e2:=zEP (h2.2 _ _ hj)
 have key : ∀ (xs:List Value),((xs.drop (t / 2*2)).take 2)[t % 2]? = xs[t]? := by
  intro xs
  rw [List.getElem?_take,if_pos (by omega),List.getElem?_drop]
  congr 1
  omega
 rw [← key inner,← key (l.flatMap zBM),e1,e2]
set_option maxHeartbeats 800000 in
theorem zAm.calls (P0_:Nat→Prop) (u9000_:Value) (l0:List S64) (r1:List S64) (w0 w:World) (hB:Below w0.heap.size w0 w) (ho0:Kd.R k64 64 w w0.heap.size P0_ u9000_ l0) (h:zAm.f l0=some r1) :
 Calls Try.prog 100 #[u9000_,.func (.func 101) #[] #[]] w fun e w'=>e= .returned (.tuple #[])∧Kd.R k64 64 w' w0.heap.size (fun k_=>(P0_ k_∨w.heap.size≤k_)) u9000_ r1∧Below w0.heap.size w0 w'∧Kept w w' (fun k_=>P0_ k_):=by
 unfold zAm.f at h
 split at h
 case isFalse=>cases h
 case isTrue hlim =>
 rw [zEW] at h
 obtain rfl:=Option.some.inj h
 clear h
 obtain ⟨hok,inner,ho,hreps⟩:=ho0
 have hinner:=zEE hreps
 subst hinner
 rcases ho.2 with ⟨hv,hn⟩|⟨g,cap,cur,hv,hb,hh,h1,h2,h3,h4⟩
 ·have h0:l0=[]:=List.length_eq_zero_iff.1 hn
  subst h0
  subst hv
  refine (Try.slices_SortFunc_none (α:=S64) none 0 _ w).mono ?_
  rintro e w' ⟨rfl,rfl⟩
  exact ⟨rfl,by simpa using Kd.zBW _ _ _ _ _,hB,Kept.refl _ _⟩
 ·subst hv
  have ho1:w.ownsRow w0.heap.size 64 2 (.slice (some ⟨g,0,none⟩) l0.length cap) l0.length ((Go.Sort.flatK zBM 2 l0.toArray).toList.map id):=by rw [List.map_id,zC4];exact ho
  obtain ⟨hH,hg⟩:=zEJ id ho1
  have eg : ∀ args w,(callFunc 101 args).run Try.prog w= .ok (.enter 101 args) w:=enters_of Try.func101 (by kernel_rfl) rfl
  have hc:=Try.slices_SortFunc_total 2 Try.isAgg64 Try.sizeOf64 zBM (fun _=>rfl) (fun x v hv=>by simp [zBM] at hv;rcases hv with rfl|rfl <;> rfl) zBx zFP 101 #[] g 0 cap l0.toArray w eg (zEi g 0 _ w) hH hg (by simpa using hlim)
   (fun x y h1 h2=>by
    rw [zCN] at h1 h2
    simp at h1 h2
    have e0:x.f0=y.f0:=by omega
    have e1:x.f1=y.f1:=by omega
    cases x;cases y;simp at e0 e1;subst e0 e1;rfl)
  rw [List.size_toArray] at hc
  refine hc.mono ?_
  rintro e w' ⟨rfl,m,os,rfl⟩
  have hfun:(fun x y:S64=>!(ltOf zBx) y x)=zBy:=by
   funext x y
   rw [zCN];rfl
  rw [hfun]
  obtain ⟨hown,hgr⟩:=sorted_world id ho1 (Go.Sort.flatK zBM 2 (l0.mergeSort zBy).toArray) (by simp) m os
  rw [List.map_id,zC4] at hown
  have hP:P0_ g:=hok g rfl
  refine ⟨rfl,⟨fun k hk=>.inl (by simp [Value.ownBlock] at hk;subst hk;exact hP),_,by rw [List.length_mergeSort];exact hown,zDT _ _ _ _⟩,hB.grown hgr hB.size (fun k hk=>by injection hk with hk;subst hk;exact hb),⟨hgr.size,fun i hi hn=>hgr.block i hi (fun e=>hn (by injection e with e;subst e;exact hP))⟩⟩
end Go.Proofs.Ythimaecnpkcmeaa.K
