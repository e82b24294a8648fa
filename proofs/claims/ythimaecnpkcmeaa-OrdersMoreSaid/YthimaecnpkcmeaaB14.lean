/- Contracts of Go functions and lemmas for them: each theorem states what one function returns and what it leaves of memory; its conditions stand in its statement. -/
import Derived.BigQuiet
import Derived.Deep.QuietTactic
import Derived.Laws.BitsLemmas
import Derived.LoopIn
import Derived.LoopNIn
import Derived.Maps.AppendAt
import Derived.OwnWalkIn
import Derived.RangeFuncBound
import Derived.RangeFuncCalls
import Derived.RangeFuncLeaves
import Derived.RangeFuncNested
import Derived.Shelf.Abstract
import Derived.Shelf.AbstractIn
import Derived.Shelf.RegionOpen
import Derived.TacticsInMore
import Derived.Test.YthimaecnpkcmeaaB13
import Derived.Test.YthimaecnpkcmeaaB3
import Derived.Test.YthimaecnpkcmeaaB9
set_option linter.unusedVariables false
set_option linter.unusedSimpArgs false
namespace Go.Proofs.Ythimaecnpkcmeaa.K
open Go.RowKit Go.Proofs.YthimaecnpkcmeaaW.PrintWords Go.Proofs.YthimaecnpkcmeaaW.PrintLast Go.Proofs.YthimaecnpkcmeaaW.PrintMore
attribute [local go_sem] zAX zAW zAg zAf zAF zAG zAU zAV   -- for this text's walks alone
set_option linter.unusedVariables false
set_option linter.unusedSimpArgs false
open Go.Shelf
attribute [local go_sem] Oper.semAt_some
def IterY {α:Type} (F:Fence) (n:Nat) (P:Program) (g:Nat) (lb:Array Value) (encs:α→Array Value) (Y:List α→α→World→Prop) (Kp:World→World→Prop) (S:List α→Prop) (N:Nat) (w0:World):Prop :=
 ∀ (l:Nat) (J:List α→World→Prop) (W:World),Below w0.heap.size w0 W→(∀ pre A B,J pre A→Below A.heap.size A B→J pre B) →
  (∀ pre x W1,J pre W1→Y pre x W1→pre.length < N→YieldAt F (n - 1) P l (encs x) W1 fun e W'=>e= .returned (.bool true)∧J (pre ++ [x]) W'∧Kp W1 W') →
  J [] W→CallsIn F n P g (#[.func (.yield l) #[] #[]] ++ lb) W fun e W'=>(∃ v,e= .returned v)∧∃ xs,S xs∧J xs W'
def zE3 (Kp:World→World→Prop) (T:World→Prop) (W:World):Exit→Act→World→Prop
 | .normal,_,W'=>KeepsOthers W W'∧Kp W W'∧T W'
 | _,_,_=>False
theorem zCC {B l:Nat} {W:World} {o:Obj} (hl:B≤l):Below B W (W.putObj l o):=by
 refine ⟨rfl,rfl,rfl,by simp [World.putObj],fun k hk=>World.putObj_heap_other (by omega)⟩
theorem zCb {α:Type} {F:Fence} {n:Nat} {P:Program} {g:Operand} {ps:Array Tmp} {assign body:Code} {Q:Exit→Act→World→Prop} {a:Act} {w:World}
 (hro:F.round=none) (h1:1≤n) {gf:Nat} {lb:Array Value} (hg:a.eval g= .func (.func gf) #[] lb) (hFg:F.fn gf) (eg : ∀ args w,(callFunc gf args).run P w= .ok (.enter gf args) w)
 {encs:α→Array Value} {Y:List α→α→World→Prop} {Kp:World→World→Prop} {S:List α→Prop} {N:Nat} {w0:World} (hseq:IterY F (n - 1) P gf lb encs Y Kp S N w0)
 (hKt : ∀ {A B C:World},Kp A B→Kp B C→Kp A C) (hKb : ∀ (W:World) (l:Nat) (o:Obj),w.heap.size≤l→Kp W (W.putObj l o)) (hb0:Below w0.heap.size w0 w) (hps : ∀ x,(encs x).size=ps.size)
 (I:List α→World→Prop) (hI1 : ∀ pre A B,I pre A→Below A.heap.size A B→I pre B) (hI2 : ∀ pre W l o o',w.heap.size≤l→W.heap[l]? = some o→o.isCells=false→I pre W→I pre (W.putObj l o'))
 (hY2 : ∀ pre x W l o o',w.heap.size≤l→W.heap[l]? = some o→o.isCells=false→Y pre x W→Y pre x (W.putObj l o')) (h0:I [] w) (a₁:α→Act)
 (hassign : ∀ (l:Nat) (x:α) (W:World) (K:Act→World→Prop),K (a₁ x) W →
  assign.wpIn (F.inRound l) (n - 1 - 1) P (Exit.then K (fun _ _ _=>False)) { tmps:=(ps.zip (encs x)).foldl (fun t (p,v)=>t.setIfInBounds p v) a.tmps,defers:=[] } W)
 (hbody : ∀ (l:Nat) (pre:List α) (x:α) (W:World),I pre W→Y pre x W→pre.length < N→body.wpIn (F.inRound l) (n - 1 - 1) P (zE3 Kp (I (pre ++ [x])) W) (a₁ x) W)
 (hdone : ∀ (D:Nat) (xs:List α) (W:World),w.heap.size≤D→S xs→I xs W→W.heap[D]? = some (.deferred (some []))→Q .normal { a with defers:={ target:=.collected D,args:=#[] } :: a.defers } W) :
 (Code.rangeFunc g ps assign body).wpIn F n P Q a w:=by
 refine wpIn_rangeFunc fun fn hfn=>?_
 rw [hro]
 let r0:LoopState→Option Code→Loop:=fun st pe=>{ state:=st,pending:=pe,fn:=fn,tmps:=a.tmps,params:=ps,assign:=assign,body:=body,defers:=w.heap.size }
 let D:=w.heap.size
 have hD0:((w.alloc (.deferred (some []))).alloc (.loop (r0 .ready none))).heap[D]? = some (.deferred (some [])) :=
  (Below.heap_alloc _ _ _ (by simp [D])).trans (World.alloc_heap_new w _)
 have hL0:((w.alloc (.deferred (some []))).alloc (.loop (r0 .ready none))).heap[D+1]? = some (.loop (r0 .ready none)):=by
  have:=World.alloc_heap_new (w.alloc (.deferred (some []))) (.loop (r0 .ready none))
  rwa [World.size_alloc] at this
 have hB0:Below w.heap.size w ((w.alloc (.deferred (some []))).alloc (.loop (r0 .ready none))):=((Below.refl _ w).alloc (Nat.le_refl _) _).alloc (by simp) _
 generalize hW1:(w.alloc (.deferred (some []))).alloc (.loop (r0 .ready none))=W1 at hD0 hL0 hB0
 refine ⟨D+1,[{ target:=.collected D,args:=#[] }],W1,{ target:=.fn (.func gf) lb,args:=#[.func (.yield (D+1)) #[] #[]] },W1,gf,#[.func (.yield (D+1)) #[] #[]] ++ lb,W1,?_,?_,?_,?_,fun _=>h1,?_⟩
 ·rw [← hW1];exact run_enterLoop_outer _ _ _ _ _
 ·simp only [resolve,hg];simp [go_sem]
 ·intro f' hf';simp [Target.leads] at hf';subst hf';exact hFg
 ·simp [invoke,go_sem,eg]
 refine (hseq (D+1) (fun pre W=>I pre W∧W.heap[D+1]? = some (.loop (r0 .ready none))∧W.heap[D]? = some (.deferred (some []))) W1 (hb0.trans (hB0.mono hb0.size)) ?_ ?_ ⟨hI1 _ _ _ h0 hB0,hL0,hD0⟩).mono ?_
 ·rintro pre A B ⟨hi,hl,hd⟩ hAB
  exact ⟨hI1 _ _ _ hi hAB,(hAB.block _ (Array.getElem?_eq_some_iff.1 hl).1).trans hl,(hAB.block _ (Array.getElem?_eq_some_iff.1 hd).1).trans hd⟩
 ·rintro pre x W ⟨hi,hl,hd⟩ hy hlen
  have hlt:D+1 < W.heap.size:=(Array.getElem?_eq_some_iff.1 hl).1
  refine ⟨_,_,_,_,run_yield (P:=P) (args:=encs x) hl (hps x),roundIn_of_wpIn hfn (hassign _ x W _ ⟨_,run_beginRound hl rfl,?_⟩)⟩
  have hl2:(W.putObj (D+1) (.loop { r0 .ready none with state:=.busy })).heap[D+1]? = some (.loop { r0 .ready none with state:=.busy }):=World.putObj_heap_same hlt
  have hd2:(W.putObj (D+1) (.loop { r0 .ready none with state:=.busy })).heap[D]? = some (.deferred (some [])):=(World.putObj_heap_other (by omega)).trans hd
  refine wpIn_mono (hbody _ pre x _ (hI2 _ _ _ _ _ (by omega) hl rfl hi) (hY2 _ _ _ _ _ _ (by omega) hl rfl hy) hlen) ?_
  rintro e a3 W3 hp
  cases e with
  | normal =>
   obtain ⟨hk3,b,hi3⟩:=hp
   have hl3:=hk3.same _ _ hl2 rfl
   have hd3:=hk3.same _ _ hd2 rfl
   have hr:=run_endRound (P:=P) none hl3
   exact ⟨_,_,hr,rfl,⟨hI2 _ _ _ _ _ (by omega) hl3 rfl hi3,World.putObj_heap_same (Array.getElem?_eq_some_iff.1 hl3).1,(World.putObj_heap_other (by omega)).trans hd3⟩,hKt (hKt (hKb _ _ _ (by omega)) b) (hKb _ _ _ (by omega))⟩
  | ret=>exact hp.elim
  | exit id=>exact hp.elim
  | goto t=>exact hp.elim
  | panic ch=>exact hp.elim
  | outgrown=>exact hp.elim
 ·rintro e W2 ⟨⟨v,rfl⟩,xs,hS,hi,hl,hd⟩
  exact ⟨none,_,run_endLoop (P:=P) hl (by simp [r0]),hdone _ xs _ (Nat.le_refl _) hS (hI2 _ _ _ _ _ (by omega) hl rfl hi) ((World.putObj_heap_other (by omega)).trans hd)⟩
def subset (n s:Nat):List Int:=((List.range n).filter fun i=>s.testBit i).map Int.ofNat
def zAt (n:Nat):List (List Int):=(List.range (2 ^ n)).map (subset n)
def listY (n b:Nat) (pre:List (List Int × Value)) (x:List Int × Value) (W:World):Prop:=x.1=subset n pre.length∧Kd.R (Kd.int .i64) 3 W b (fun _=>True) x.2 x.1
theorem zE4 {w:World} {base e size n:Nat} {v:Value} {xs:List Value} (h:w.ownsRow base e size v n xs) (k:Nat) (hk:v.ownBlock=some k):base≤k:=by
 rcases h.2 with ⟨rfl,hn⟩|⟨g,cap,cur,rfl,hb,_⟩
 ·simp [Value.ownBlock] at hk
 ·simp [Value.ownBlock] at hk
  omega
set_option maxHeartbeats 4000000 in
set_option maxRecDepth 100000 in
theorem zD1 (m n:Nat) (hn:n≤40) (g:Nat) (w0:World) (hg:w0.heap[g]? = some (.cells #[.int .i64 (n:Int)] 3 (0,0))) :
 IterY Fence.wide m Try.prog 99 #[.pointer (some ⟨g,0,none⟩)] (fun x:List Int × Value=>#[x.2]) (listY n w0.heap.size) (fun W W'=>W.heap.size≤W'.heap.size∧W'.heap[g]? = W.heap[g]?) (fun xs=>xs.map Prod.fst=zAt n) (2 ^ n) w0:=by
 intro l J W hW hJ hY h0
 have hgw:W.heap[g]? = some (.cells #[.int .i64 (n:Int)] 3 (0,0)):=(hW.block g (zBk hg)).trans hg
 refine callsIn_of_wp Try.func99 rfl trivial ?_ rfl
 simp only [Try.ntmps99,List.size_toArray,List.length_cons,List.length_nil,Nat.reduceAdd,Nat.reduceSub,Array.replicate_succ,Array.replicate_zero,List.push_toArray,List.append_toArray,List.nil_append,List.cons_append]
 have hc:W.cell? ⟨g,0,none⟩=some (.int .i64 (n:Int)):=(zB hgw 0).trans rfl
 gi_wp2
 obtain ⟨T,hT,hT40⟩ : ∃ T:Nat,T=2 ^ n∧T≤1099511627776:=⟨2 ^ n,rfl,Nat.le_trans (Nat.pow_le_pow_right (by decide) hn) (by decide)⟩
 rw [show wrap64 ((2:Int) ^ n)=(T:Int) from by
  have h2:(2:Int) ^ n=(T:Int):=by rw [hT];simp
  rw [h2];unfold wrap64;omega]
 replace hT:=zA.mk hT
 gi_loopw [8] (fun v8 wr=>∃ (x:Int) (s:Nat) (pre:List (List Int × Value)),v8= .int .i64 x∧zA (x=(s:Int))∧zA (s≤T)∧zA (pre.length=s)∧zA (pre.map Prod.fst=(List.range s).map (subset n))∧zA (wr.heap[g]? = some (.cells #[.int .i64 (n:Int)] 3 (0,0)))∧zA (w0.heap.size≤wr.heap.size)∧zA (J pre wr))
  (fun v8 wr=>T+1 - (intOf v8).toNat)
 case atStart=>exact ⟨0,0,[],rfl,⟨rfl⟩,⟨Nat.zero_le _⟩,⟨rfl⟩,⟨rfl⟩,⟨hgw⟩,⟨hW.size⟩,⟨h0⟩⟩
 case round =>
  clear hgw hc h0
  obtain ⟨x,s,pre,rfl,HX,HS,HL,HP,HG,HZ,HJ⟩:=hrel
  have hc:wr.cell? ⟨g,0,none⟩=some (.int .i64 (n:Int)):=(zB HG.out 0).trans rfl
  by_cases hs:s < T
  rotate_left
  ·have c0:decide (x < (T:Int))=false:=decide_eq_false (by have:=HX.out;omega)
   have hsT:s=T:=by have:=HS.out;omega
   have HP2:=zA.mk (show pre.map Prod.fst=zAt n by rw [HP.out,hsT];unfold zAt;rw [← hT.out])
   clear hs hsT
   gi_wp2
   go_end0
   exact ⟨⟨_,rfl⟩,pre,HP2.out,HJ.out⟩
  have c0:decide (x < (T:Int))=true:=decide_eq_true (by have:=HX.out;omega)
  have HST:=zA.mk hs
  clear hs
  obtain ⟨W1,hW1⟩ : ∃ W1,W1=wr:=⟨_,rfl⟩
  have hW1:=zA.mk hW1
  gi_wp2
  gi_loopw [4,12] (fun v4 v12 wq=>∃ (y:Int) (j:Nat),v12= .int .i64 y∧zA (y=(j:Int))∧zA (j≤n)∧zA (wq.ownsRow W1.heap.size 3 1 v4 (subset j s).length ((subset j s).map (.int .i64)))∧zA (Below W1.heap.size W1 wq))
   (fun v4 v12 wq=>n+1 - (intOf v12).toNat)
  case atStart=>exact ⟨0,0,rfl,⟨rfl⟩,⟨Nat.zero_le _⟩,⟨World.ownsRow_nil _ _ _ _⟩,⟨by rw [hW1.out];exact Below.refl _ _⟩⟩
  case round =>
   obtain ⟨y,j,rfl,HY',HJN,HO,HB⟩:=hrel
   by_cases hj:j < n
   rotate_left
   ·have hjn:j=n:=by have:=HJN.out;omega
    have d0:decide (y < (n:Int))=false:=decide_eq_false (by have:=HY'.out;omega)
    rw [hjn] at HO
    have hJ2:J pre wr:=hJ _ _ _ (by rw [hW1.out];exact HJ.out) HB.out
    have hy2:listY n w0.heap.size pre (subset n s,u4) wr:=⟨by rw [HL.out],Kd.zAH (Kd.zDx (by simpa [encs] using HO.out) (fun _ _=>trivial)) (by rw [hW1.out];exact HZ.out)⟩
    obtain ⟨fn,tmps,assign,body,hy,hR⟩:=hY pre (subset n s,u4) wr hJ2 hy2 (by have h1:=HL.out;have h2:=HST.out;rw [← hT.out];omega)
    have hG2:wr.heap[g]? = some (.cells #[.int .i64 (n:Int)] 3 (0,0)):=by have h1:=HG.out;rw [← hW1.out] at h1;exact (HB.out.block g (zBk h1)).trans h1
    have HG2:=zA.mk hG2
    have HZ2:=zA.mk (show w0.heap.size≤wr.heap.size by have h1:=HZ.out;rw [← hW1.out] at h1;have:=HB.out.size;omega)
    clear hjn hJ2 hy2 hG2 hj
    gi_wp2
    refine ⟨fun h=>by simp [Fence.wide] at h,hR.mono ?_⟩
    rintro e W3 ⟨rfl,hJ3,hk3⟩
    have HJ3:=zA.mk hJ3
    have HK3:=zA.mk hk3
    clear hJ3 hk3
    gi_wp2
    refine ⟨⟨wrap64 (x+1),s+1,pre ++ [(subset n s,u4)],rfl,⟨by have h1:=HX.out;have h2:=HST.out;unfold wrap64;omega⟩,⟨HST.out⟩,⟨by have:=HL.out;simp;omega⟩,⟨by rw [List.map_append,HP.out,List.range_succ,List.map_append];rfl⟩,⟨HK3.out.2.trans HG2.out⟩,⟨Nat.le_trans HZ2.out HK3.out.1⟩,HJ3⟩,?_⟩
    have h1:=HX.out
    have h2:=HST.out
    simp only [intOf]
    unfold wrap64
    omega
   have d0:decide (y < (n:Int))=true:=decide_eq_true (by have:=HY'.out;omega)
   have d1:(y < 0)=False:=eq_false (by have:=HY'.out;omega)
   obtain ⟨q,hq⟩ : ∃ q:Nat,q=s / 2 ^ j:=⟨_,rfl⟩
   have hsh : ∀ w,Sem.run Try.prog (Op.shift .shr .i64 x .i64 y) w= .ok (.int .i64 (q:Int)) w:=by
    intro w
    unfold Op.shift
    have h0:=HY'.out
    have h1:=HJN.out
    rw [if_neg (by omega)]
    have h2:min y.toNat IntKind.i64.bits=j:=by rw [h0,Int.toNat_natCast];exact Nat.min_eq_left (by show j≤64;omega)
    simp only [h2,HX.out]
    have h3:((s:Int)).fdiv (2 ^ j)=(q:Int):=by
     rw [hq,Int.fdiv_eq_ediv_of_nonneg _ (by exact Int.le_of_lt (Int.pow_pos (by decide)))]
     simp
    rw [h3]
    rfl
   have hqs:q < 2 ^ 62:=by
    have h1:=HST.out;have h2:q≤s:=by rw [hq];exact Nat.div_le_self _ _
    omega
   have hbit:s.testBit j=decide (q % 2=1):=by rw [hq,Nat.testBit_eq_decide_div_mod_eq]
   have hand:bits BinOp.and IntKind.i64 (q:Int) 1=(q % 2:Nat):=by
    have:=bits_mask .i64 62 (by decide) (fun n h0 h1=>by rw [IntKind.wrap_i64];omega) 1 (by decide) (q:Int) (by omega) (by omega)
    simpa using this
   have HBIT:=zA.mk hbit
   clear hq hbit hqs
   have hst:subset (j+1) s=subset j s ++ (if q % 2=1 then [(j:Int)] else []):=by
    unfold subset
    rw [List.range_succ,List.filter_append,List.map_append]
    congr 1
    rw [List.filter_cons,List.filter_nil,HBIT.out]
    by_cases h:q % 2=1 <;> simp [h]
   have hln:(subset j s).length≤j:=by unfold subset;rw [List.length_map];exact Nat.le_trans (List.length_filter_le _ _) (by simp)
   by_cases hb1:q % 2=1
   rotate_left
   ·rw [if_neg hb1,List.append_nil] at hst
    have HST2:=zA.mk hst
    have hand1:bits BinOp.and IntKind.i64 (q:Int) 1=0:=by rw [hand];omega
    clear hand hb1 hst hln
    gi_wp2
    refine ⟨⟨wrap64 (y+1),j+1,rfl,⟨by have h1:=HY'.out;have h2:=HJN.out;unfold wrap64;omega⟩,⟨by omega⟩,⟨by rw [HST2.out];exact HO.out⟩,HB⟩,?_⟩
    have h1:=HY'.out
    have h2:=HJN.out
    simp only [intOf]
    unfold wrap64
    omega
   rw [if_pos hb1] at hst
   have HST2:=zA.mk hst
   have hand1:bits BinOp.and IntKind.i64 (q:Int) 1=1:=by rw [hand,hb1];rfl
   clear hand hb1 hst
   have HLN:=zA.mk hln
   clear hln
   obtain ⟨i0,hi,hz0,hz1,hz2⟩:=info_parts info3
   have hle:y=(j:Int):=HY'.out
   have HYL:=zA.mk hle
   clear hle
   gi_wp2_with (gi_at_builtin;refine wpListIn_append_own _ rfl (.tmp 20) (.tmp 22) 27 rfl W1.heap.size 3 i0 (.int .i64 0) 1 8 Try.underlying27 hi hz0 hz1 hz2 rfl (by decide) u4 (subset j s).length ((subset j s).map (.int .i64)) rfl (HO.out.alloc _) ⟨wr.heap.size,0,none⟩ 1 1 [.int .i64 y] rfl rfl (cell_one_new _ _ _) (by simp [Value.oneCell']) (by have:=HLN.out;have:=HJN.out;simp only [maxLen];omega) (by have:=HLN.out;have:=HJN.out;omega) (by have:=HB.out.size;simp;omega) ?_;intro v' w1 hown' hgrow _;have HO2:=zA.mk hown';have HB2:=zA.mk (((HB.out.alloc HB.out.size _).grown hgrow (by have:=HB.out.size;simp;omega) (fun k e=>zE4 HO.out k e)));clear hown' hgrow)
   refine ⟨⟨wrap64 (y+1),j+1,rfl,⟨by have h1:=HYL.out;have h2:=HJN.out;unfold wrap64;omega⟩,⟨by omega⟩,⟨by rw [HST2.out,List.length_append,List.map_append];have:=HO2.out;rw [HYL.out] at this;exact this⟩,HB2⟩,?_⟩
   have h1:=HYL.out
   have h2:=HJN.out
   simp only [intOf]
   unfold wrap64
   omega
set_option maxHeartbeats 800000 in
theorem zDY (n:Int) (w:World):Calls Try.prog 73 #[.int .i64 n] w fun e w'=>∃ g,e= .returned (.func (.func 99) #[] #[.pointer (some ⟨g,0,none⟩)])∧w'.heap[g]? = some (.cells #[.int .i64 n] 3 (0,0))∧w.heap.size≤g∧Below w.heap.size w w':=by
 go_enter Try.func73,Try.ntmps73
 go_wp2
 go_ret
 exact ⟨_,rfl,zBb _ _,Nat.le_refl _,zo (Below.refl _ _) _⟩
def zCF (isf:List Int→Option Bool) (cmpf:List Int→List Int→Option Int) (st:List Int × Bool) (x:List Int):Option (List Int × Bool) :=
 if st.2=false then (isf x).bind fun b=>some (if b=true then (x,true) else st)
 else (cmpf x st.1).bind fun c=>if c < 0 then (isf x).bind fun b=>some (if b=true then (x,true) else st) else some st
def zBV (isf:List Int→Option Bool) (cmpf:List Int→List Int→Option Int):List (List Int)→List Int × Bool→Option (List Int × Bool)
 | [],st=>some st
 | x :: xs,st=>(zCF isf cmpf st x).bind (zBV isf cmpf xs)
theorem zB1 (isf:List Int→Option Bool) (cmpf:List Int→List Int→Option Int) : ∀ (xs ys:List (List Int)) (st:List Int × Bool),zBV isf cmpf (xs ++ ys) st=(zBV isf cmpf xs st).bind (zBV isf cmpf ys)
 | [],ys,st=>rfl
 | x :: xs,ys,st=>by
  simp only [List.cons_append,zBV]
  cases zCF isf cmpf st x with
  | none=>rfl
  | some s=>exact zB1 isf cmpf xs ys s
theorem zBv {W:World} {l b t:Nat} {cs:Array Value} {o o':Obj} (h:W.heap[b]? = some (.cells cs t (0,0))) (hl:W.heap[l]? = some o) (ho:o.isCells=false):(W.putObj l o').heap[b]? = some (.cells cs t (0,0)):=by
 refine (World.putObj_heap_other (fun e=>?_)).trans h
 subst e
 rw [h] at hl
 cases hl
 simp [Obj.isCells] at ho
theorem zC9 {W:World} {l b e:Nat} {v:Value} {xs:List Int} {o o':Obj} (h:Kd.R (Kd.int .i64) e W b (fun _=>True) v xs) (hl:W.heap[l]? = some o) (ho:o.isCells=false):Kd.R (Kd.int .i64) e (W.putObj l o') b (fun _=>True) v xs:=by
 refine Kd.zR (Kd.zDN (Kd.zBt rfl h) (fun k hk _=>World.putObj_heap_other (fun e=>?_))) (fun _ _=>trivial)
 subst e
 obtain ⟨cells,hc⟩:=Kd.zX h k hk.symm
 rw [hc] at hl
 cases hl
 simp [Obj.isCells] at ho
theorem KeepsOthers.of_below {W W':World} (h:Below W.heap.size W W'):KeepsOthers W W':=⟨h.size,fun k o hk _=>(h.block k (Array.getElem?_eq_some_iff.1 hk).1).trans hk⟩
def zD3 (isf:List Int→Option Bool) (cmpf:List Int→List Int→Option Int) (n:Nat) (w:World) (fi fc:Nat) (lbi lbc:Array Value) (b4 b5 b8 b9:Nat) (pre:List (List Int × Value)) (W:World):Prop :=
 Below w.heap.size w W∧W.heap[b4]? = some (.cells #[.func (.func fi) #[] lbi] 98 (0,0))∧W.heap[b5]? = some (.cells #[.func (.func fc) #[] lbc] 138 (0,0))∧pre.map Prod.fst=(zAt n).take pre.length ∧
  ∃ (st:List Int × Bool) (v:Value),zBV isf cmpf (pre.map Prod.fst) ([],false)=some st∧W.heap[b8]? = some (.cells #[v] 27 (0,0))∧W.heap[b9]? = some (.cells #[.bool st.2] 4 (0,0))∧Kd.R (Kd.int .i64) 3 W w.heap.size (fun _=>True) v st.1
set_option maxHeartbeats 4000000 in
set_option maxRecDepth 100000 in
theorem zEA (n:Nat) (hn:n≤40) (g fi fc:Nat) (lbi lbc:Array Value) (isf:List Int→Option Bool) (cmpf:List Int→List Int→Option Int) (r1:List Int) (r2:Bool) (w:World)
 (hg:w.heap[g]? = some (.cells #[.int .i64 (n:Int)] 3 (0,0)))
 (ei : ∀ args w,(callFunc fi args).run Try.prog w= .ok (.enter fi args) w) (ec : ∀ args w,(callFunc fc args).run Try.prog w= .ok (.enter fc args) w)
 (hi : ∀ (l:List Int) (b:Bool) (A:Option Addr) (c:Nat) (W:World),isf l=some b→Below w.heap.size w W→Kd.C (Kd.int .i64) W A l.length l→l.length≤c→Calls Try.prog fi (#[.slice A l.length c] ++ lbi) W fun e W'=>e= .returned (.bool b)∧Below W.heap.size W W')
 (hc : ∀ (l1 l2:List Int) (x:Int) (A1 A2:Option Addr) (c1 c2:Nat) (W:World),cmpf l1 l2=some x→Below w.heap.size w W→Kd.C (Kd.int .i64) W A1 l1.length l1→l1.length≤c1→Kd.C (Kd.int .i64) W A2 l2.length l2→l2.length≤c2→Calls Try.prog fc (#[.slice A1 l1.length c1,.slice A2 l2.length c2] ++ lbc) W fun e W'=>e= .returned (.int .i64 x)∧Below W.heap.size W W')
 (h:zBV isf cmpf (zAt n) ([],false)=some (r1,r2)) :
 Calls Try.prog 92 #[.func (.func 99) #[] #[.pointer (some ⟨g,0,none⟩)],.func (.func fi) #[] lbi,.func (.func fc) #[] lbc] w fun e w'=>∃ v0_:Value,e= .returned (.tuple #[v0_,.bool r2])∧Kd.R (Kd.int .i64) 3 w' w.heap.size (fun _=>True) v0_ r1∧Below w.heap.size w w':=by
 refine (callsIn_wide (n:=3)).1 ?_
 refine callsIn_of_wp_marks Try.func92 rfl trivial ?_ rfl
 simp only [Try.ntmps92,List.size_toArray,List.length_cons,List.length_nil,Nat.reduceAdd,Nat.reduceSub,Array.replicate_succ,Array.replicate_zero,List.push_toArray,List.append_toArray,List.nil_append,List.cons_append]
 gi_wp2
 have hB0:Below w.heap.size w ((((w.alloc (.cells #[.func (.func fi) #[] lbi] 98)).alloc (.cells #[.func (.func fc) #[] lbc] 138)).alloc (.cells #[.slice none 0 0] 27)).alloc (.cells #[.bool false] 4)):=zo (zo (zo (zo (Below.refl _ _) _) _) _) _
 obtain ⟨b4,hb4⟩ : ∃ b,b=w.heap.size:=⟨_,rfl⟩
 obtain ⟨b5,hb5⟩ : ∃ b,b=w.heap.size+1:=⟨_,rfl⟩
 obtain ⟨b8,hb8⟩ : ∃ b,b=w.heap.size+1+1:=⟨_,rfl⟩
 obtain ⟨b9,hb9⟩ : ∃ b,b=w.heap.size+1+1+1:=⟨_,rfl⟩
 have k4:((((w.alloc (.cells #[.func (.func fi) #[] lbi] 98)).alloc (.cells #[.func (.func fc) #[] lbc] 138)).alloc (.cells #[.slice none 0 0] 27)).alloc (.cells #[.bool false] 4)).heap[b4]? = some (.cells #[.func (.func fi) #[] lbi] 98 (0,0)):=by
  rw [hb4];exact zC (zC (zC (zBb _ _) _) _) _
 have k5:((((w.alloc (.cells #[.func (.func fi) #[] lbi] 98)).alloc (.cells #[.func (.func fc) #[] lbc] 138)).alloc (.cells #[.slice none 0 0] 27)).alloc (.cells #[.bool false] 4)).heap[b5]? = some (.cells #[.func (.func fc) #[] lbc] 138 (0,0)):=by
  have:=zC (zC (zBb (w.alloc (.cells #[.func (.func fi) #[] lbi] 98)) (.cells #[.func (.func fc) #[] lbc] 138)) (.cells #[.slice none 0 0] 27)) (.cells #[.bool false] 4)
  rw [World.size_alloc] at this
  rw [hb5];exact this
 have k8:((((w.alloc (.cells #[.func (.func fi) #[] lbi] 98)).alloc (.cells #[.func (.func fc) #[] lbc] 138)).alloc (.cells #[.slice none 0 0] 27)).alloc (.cells #[.bool false] 4)).heap[b8]? = some (.cells #[.slice none 0 0] 27 (0,0)):=by
  have:=zC (zBb ((w.alloc (.cells #[.func (.func fi) #[] lbi] 98)).alloc (.cells #[.func (.func fc) #[] lbc] 138)) (.cells #[.slice none 0 0] 27)) (.cells #[.bool false] 4)
  rw [World.size_alloc,World.size_alloc] at this
  rw [hb8];exact this
 have k9:((((w.alloc (.cells #[.func (.func fi) #[] lbi] 98)).alloc (.cells #[.func (.func fc) #[] lbc] 138)).alloc (.cells #[.slice none 0 0] 27)).alloc (.cells #[.bool false] 4)).heap[b9]? = some (.cells #[.bool false] 4 (0,0)):=by
  have:=zBb (((w.alloc (.cells #[.func (.func fi) #[] lbi] 98)).alloc (.cells #[.func (.func fc) #[] lbc] 138)).alloc (.cells #[.slice none 0 0] 27)) (.cells #[.bool false] 4)
  rw [World.size_alloc,World.size_alloc,World.size_alloc] at this
  rw [hb9];exact this
 rw [← hb9,← hb8,← hb5,← hb4]
 generalize ((((w.alloc (.cells #[.func (.func fi) #[] lbi] 98)).alloc (.cells #[.func (.func fc) #[] lbc] 138)).alloc (.cells #[.slice none 0 0] 27)).alloc (.cells #[.bool false] 4))=w4 at hB0 k4 k5 k8 k9 ⊢
 have n89:b8≠b9:=by omega
 have n98:b9≠b8:=by omega
 have n48:b4≠b8:=by omega
 have n49:b4≠b9:=by omega
 have n58:b5≠b8:=by omega
 have n59:b5≠b9:=by omega
 have l8:w.heap.size≤b8:=by omega
 have l9:w.heap.size≤b9:=by omega
 have hgs:g < w.heap.size:=zBk hg
 have hg4:w4.heap[g]? = some (.cells #[.int .i64 (n:Int)] 3 (0,0)):=(hB0.block g hgs).trans hg
 clear hb4 hb5 hb8 hb9
 refine zCb rfl (by decide) (gf:=99) (lb:=#[.pointer (some ⟨g,0,none⟩)]) rfl trivial (enters_of Try.func99 (by kernel_rfl) rfl) (zD1 2 n hn g w4 hg4)
  (fun h1 h2=>⟨Nat.le_trans h1.1 h2.1,h2.2.trans h1.2⟩) (fun W l o hl=>⟨by simp,World.putObj_heap_other (by have:=hB0.size;omega)⟩) (Below.refl _ _) (fun _=>rfl)
  (zD3 isf cmpf n w fi fc lbi lbc b4 b5 b8 b9)
  ?hI1 ?hI2 ?hY2 ⟨hB0,k4,k5,rfl,([],false),.slice none 0 0,rfl,k8,k9,Kd.zBW _ _ _ _ _⟩
  (fun x=>{ tmps:=#[.func (.func 99) #[] #[.pointer (some ⟨g,0,none⟩)],.func (.func fi) #[] lbi,.func (.func fc) #[] lbc,undef,.pointer (some ⟨b4,0,none⟩),.pointer (some ⟨b5,0,none⟩),.slice none 0 0,.bool false,.pointer (some ⟨b8,0,none⟩),.pointer (some ⟨b9,0,none⟩),x.2,.func (.func 99) #[] #[.pointer (some ⟨g,0,none⟩)],x.2,undef,undef,undef,undef,undef,undef,undef,undef,undef,undef,undef,undef,undef,undef,undef,undef,undef],defers:=[] })
  ?assign ?body ?done
 case hI1 =>
  rintro pre A B ⟨h1,h2,h3,h4,st,v,h5,h6,h7,h8⟩ hAB
  exact ⟨h1.trans (hAB.mono h1.size),zT h2 hAB,zT h3 hAB,h4,st,v,h5,zT h6 hAB,zT h7 hAB,Kd.z8 h8 hAB⟩
 case hI2 =>
  rintro pre W l o o' hl ho hc0 ⟨h1,h2,h3,h4,st,v,h5,h6,h7,h8⟩
  exact ⟨h1.trans (zCC (Nat.le_trans hB0.size hl)),zBv h2 ho hc0,zBv h3 ho hc0,h4,st,v,h5,zBv h6 ho hc0,zBv h7 ho hc0,zC9 h8 ho hc0⟩
 case hY2 =>
  rintro pre x W l o o' hl ho hc0 ⟨h1,h2⟩
  exact ⟨h1,zC9 h2 ho hc0⟩
 case assign =>
  intro l x W K hK
  gi_wp2
  exact hK
 case body =>
  rintro l pre ⟨x1,x2⟩ W ⟨h1,h2,h3,h4,st,v,h5,h6,h7,h8⟩ ⟨hx1,hx2⟩ hlen
  simp only at hx1 hx2
  obtain ⟨st',hst⟩ : ∃ st',zCF isf cmpf st x1=some st':=by
   have hl:(zAt n).length=2 ^ n:=by simp [zAt]
   have hs:zAt n=(zAt n).take pre.length ++ (x1 :: (zAt n).drop (pre.length+1)):=by
    have h9:(zAt n)[pre.length]'(by rw [hl];exact hlen)=x1:=by rw [hx1];simp [zAt]
    rw [← h9,← List.drop_eq_getElem_cons,List.take_append_drop]
   rw [hs,zB1,← h4,h5] at h
   change (zCF isf cmpf st x1).bind _=_ at h
   obtain ⟨st',hst,_⟩:=Option.bind_eq_some_iff.1 h
   exact ⟨st',hst⟩
  have hf2:zBV isf cmpf ((pre ++ [(x1,x2)]).map Prod.fst) ([],false)=some st':=by
   rw [List.map_append,zB1,h5]
   show (zCF isf cmpf st x1).bind (zBV isf cmpf [])=some st'
   rw [hst]
   rfl
  have hp2:(pre ++ [(x1,x2)]).map Prod.fst=(zAt n).take (pre ++ [(x1,x2)]).length:=by
   have hl:pre.length < (zAt n).length:=by simp [zAt];exact hlen
   rw [List.map_append,h4,List.length_append]
   show _=(zAt n).take (pre.length+1)
   rw [List.take_succ_eq_append_getElem hl,hx1]
   simp [zAt]
  obtain ⟨A2,c2,e2⟩:=Kd.zq hx2
  subst e2
  obtain ⟨Av,cv,ev⟩:=Kd.zq h8
  subst ev
  have HF2:=zA.mk hf2
  have HP2:=zA.mk hp2
  have H4:=zA.mk h4
  have H5:=zA.mk h5
  have HLEN:=zA.mk hlen
  have HX1:=zA.mk hx1
  have HH:=zA.mk h
  have HX2:=zA.mk hx2
  have HV:=zA.mk h8
  have HB:=zA.mk h1
  have K8:=zA.mk h6
  have K9:=zA.mk h7
  have K4:=zA.mk h2
  have K5:=zA.mk h3
  have m:W.cell? ⟨b4,0,none⟩=some (.func (.func fi) #[] lbi):=(zB K4.out 0).trans rfl
  have q:W.cell? ⟨b5,0,none⟩=some (.func (.func fc) #[] lbc):=(zB K5.out 0).trans rfl
  have f:W.cell? ⟨b8,0,none⟩=some (.slice Av st.1.length cv):=(zB K8.out 0).trans rfl
  have d:W.cell? ⟨b9,0,none⟩=some (.bool st.2):=(zB K9.out 0).trans rfl
  have hf8:=zW K8.out 0
  have hf9:=zW K9.out 0
  have hno:st'=st→∀ (a:Act) W2,Below W.heap.size W W2→zE3 (fun W W'=>W.heap.size≤W'.heap.size∧W'.heap[g]? = W.heap[g]?) (zD3 isf cmpf n w fi fc lbi lbc b4 b5 b8 b9 (pre ++ [(x1,Value.slice A2 x1.length c2)])) W .normal a W2:=by
   rintro rfl a W2 hb2
   exact ⟨KeepsOthers.of_below hb2,⟨hb2.size,hb2.block g (by have:=h1.size;omega)⟩,h1.trans (hb2.mono h1.size),zT h2 hb2,zT h3 hb2,hp2,_,_,hf2,zT h6 hb2,zT h7 hb2,Kd.z8 h8 hb2⟩
  have hyes:st'=(x1,true)→∀ (a:Act) W2,Below W.heap.size W W2→zE3 (fun W W'=>W.heap.size≤W'.heap.size∧W'.heap[g]? = W.heap[g]?) (zD3 isf cmpf n w fi fc lbi lbc b4 b5 b8 b9 (pre ++ [(x1,Value.slice A2 x1.length c2)])) W .normal a ((W2.setCell ⟨b8,0,none⟩ (.slice A2 x1.length c2)).setCell ⟨b9,0,none⟩ (.bool true)):=by
   rintro rfl a W2 hb2
   have hRx:=Kd.z8 (Kd.zAH hx2 hB0.size) hb2
   have hw8:=zT h6 hb2
   have hw9:=zT h7 hb2
   have i:some b8≠(Value.slice A2 x1.length c2).ownBlock:=Kd.zA6 hRx hw8 (by decide)
   have j:some b9≠(Value.slice A2 x1.length c2).ownBlock:=Kd.zA6 hRx hw9 (by decide)
   refine ⟨(KeepsOthers.of_below hb2).trans ((KeepsOthers.setCell _ _ _).trans (KeepsOthers.setCell _ _ _)),⟨?_,?_⟩,?_,?_,?_,hp2,_,.slice A2 x1.length c2,hf2,?_,?_,?_⟩
   ·simpa using hb2.size
   ·rw [Below.heap_setCell _ _ _ _ (by show g≠b9;omega),Below.heap_setCell _ _ _ _ (by show g≠b8;omega)];exact hb2.block g (by have:=h1.size;omega)
   ·exact zBO (zBO (h1.trans (hb2.mono h1.size)) l8) l9
   ·rw [Below.heap_setCell _ _ _ _ n49,Below.heap_setCell _ _ _ _ n48];exact zT h2 hb2
   ·rw [Below.heap_setCell _ _ _ _ n59,Below.heap_setCell _ _ _ _ n58];exact zT h3 hb2
   ·rw [Below.heap_setCell _ _ _ _ n89];exact zP hw8 0 _ rfl
   ·exact zP (by rw [Below.heap_setCell _ _ _ _ n98];exact hw9) 0 _ rfl
   ·exact Kd.zR (Kd.zM (p:=⟨b9,0,none⟩) (Kd.zM (p:=⟨b8,0,none⟩) (Kd.zR hRx (ok':=fun k=>True) (fun _ _=>trivial) |> Kd.zBt rfl) (fun k hk e=>i (by rw [← hk,e])) _) (fun k hk e=>j (by rw [← hk,e])) _) (fun _ _=>trivial)
  clear hf2 hp2 h4 h5 hlen hx1 h hx2 h8 h1 h6 h7 h2 h3 hg4 hB0 k4 k5 k8 k9
  unfold zCF at hst
  have a8 : ∀ W2,Below W.heap.size W W2→W2.cell? ⟨b8,0,none⟩=some (.slice Av st.1.length cv)∧W2.frozen? ⟨b8,0,none⟩=false:=fun W2 hb2=>⟨(zB (zT K8.out hb2) 0).trans rfl,zW (zT K8.out hb2) 0⟩
  have a9 : ∀ W2,Below W.heap.size W W2→W2.cell? ⟨b9,0,none⟩=some (.bool st.2)∧W2.frozen? ⟨b9,0,none⟩=false:=fun W2 hb2=>⟨(zB (zT K9.out hb2) 0).trans rfl,zW (zT K9.out hb2) 0⟩
  have a4 : ∀ W2,Below W.heap.size W W2→W2.cell? ⟨b4,0,none⟩=some (.func (.func fi) #[] lbi):=fun W2 hb2=>(zB (zT K4.out hb2) 0).trans rfl
  have A8:=zA.mk a8
  have A9:=zA.mk a9
  have A4:=zA.mk a4
  have HNO:=zA.mk hno
  have HYES:=zA.mk hyes
  clear a8 a9 a4 hno hyes
  by_cases hfd:st.2=false
  ·rw [if_pos hfd] at hst
   obtain ⟨b,hb,hst⟩:=Option.bind_eq_some_iff.1 hst
   have HI:=zA.mk hb
   have HST:=zA.mk (Option.some.inj hst)
   clear hb hst
   rw [hfd] at d
   have HBX:=zA.mk (Below.refl W.heap.size W)
   cases b with
   | true =>
    gi_wp2
    refine ⟨fun _ h=>(by cases h),?_⟩
    gi_wp2_with (refine ⟨trivial,?_⟩;gi_at_fn fi;refine (CallsIn.inRound l (callsIn_wide.2 (hi x1 true A2 c2 _ HI.out (HB.out.trans (HBX.out.mono HB.out.size)) (Kd.zJ (Kd.z8 HX2.out HBX.out)).2.2 (Kd.zJ HX2.out).2.1))).mono ?_;rintro e W' ⟨rfl,hb⟩;have HB2:=zA.mk (HBX.out.trans (hb.mono HBX.out.size));have e8:=(A8.out W' HB2.out).1;have e8f:=(A8.out W' HB2.out).2;have e9:=(A9.out W' HB2.out).1;have e9f:=(A9.out W' HB2.out).2;clear hb)
    exact HYES.out (by have:=HST.out;simpa using this.symm) _ _ HB2.out
   | false =>
    gi_wp2
    refine ⟨fun _ h=>(by cases h),?_⟩
    gi_wp2_with (refine ⟨trivial,?_⟩;gi_at_fn fi;refine (CallsIn.inRound l (callsIn_wide.2 (hi x1 false A2 c2 _ HI.out (HB.out.trans (HBX.out.mono HB.out.size)) (Kd.zJ (Kd.z8 HX2.out HBX.out)).2.2 (Kd.zJ HX2.out).2.1))).mono ?_;rintro e W' ⟨rfl,hb⟩;have HB2:=zA.mk (HBX.out.trans (hb.mono HBX.out.size));have e8:=(A8.out W' HB2.out).1;have e8f:=(A8.out W' HB2.out).2;have e9:=(A9.out W' HB2.out).1;have e9f:=(A9.out W' HB2.out).2;clear hb)
    exact HNO.out (by have:=HST.out;simpa using this.symm) _ _ HB2.out
  have hft:st.2=true:=by simpa using hfd
  rw [if_neg hfd] at hst
  obtain ⟨cv',hcv,hst⟩:=Option.bind_eq_some_iff.1 hst
  have HC:=zA.mk hcv
  clear hcv hfd
  rw [hft] at d
  have a4:=fun W2 hb2=>A4.out W2 hb2
  by_cases hlt:cv' < 0
  rotate_left
  ·rw [if_neg hlt] at hst
   have HST:=zA.mk (Option.some.inj hst)
   have hltd:decide (cv' < 0)=false:=decide_eq_false hlt
   clear hst
   gi_wp2_with (first|(refine ⟨trivial,?_⟩;gi_at_fn fc;refine (CallsIn.inRound l (callsIn_wide.2 (hc x1 st.1 cv' A2 Av c2 cv W HC.out HB.out (Kd.zJ HX2.out).2.2 (Kd.zJ HX2.out).2.1 (Kd.zJ HV.out).2.2 (Kd.zJ HV.out).2.1))).mono ?_;rintro e W' ⟨rfl,hb⟩;have HBX:=zA.mk hb;have e4:=A4.out W' hb;clear hb))
   refine ⟨fun _ h=>(by cases h),?_⟩
   gi_wp2
   exact HNO.out (by have:=HST.out;simpa using this.symm) _ _ HBX.out
  rw [if_pos hlt] at hst
  obtain ⟨b,hb,hst⟩:=Option.bind_eq_some_iff.1 hst
  have HI:=zA.mk hb
  have HST:=zA.mk (Option.some.inj hst)
  have hltd:decide (cv' < 0)=true:=decide_eq_true hlt
  clear hb hst
  cases b with
  | true =>
   gi_wp2_with (first|(refine ⟨trivial,?_⟩;gi_at_fn fc;refine (CallsIn.inRound l (callsIn_wide.2 (hc x1 st.1 cv' A2 Av c2 cv W HC.out HB.out (Kd.zJ HX2.out).2.2 (Kd.zJ HX2.out).2.1 (Kd.zJ HV.out).2.2 (Kd.zJ HV.out).2.1))).mono ?_;rintro e W' ⟨rfl,hb⟩;have HBX:=zA.mk hb;have e4:=A4.out W' hb;clear hb))
   gi_wp2_with (refine ⟨trivial,?_⟩;gi_at_fn fi;refine (CallsIn.inRound l (callsIn_wide.2 (hi x1 true A2 c2 _ HI.out (HB.out.trans (HBX.out.mono HB.out.size)) (Kd.zJ (Kd.z8 HX2.out HBX.out)).2.2 (Kd.zJ HX2.out).2.1))).mono ?_;rintro e W' ⟨rfl,hb⟩;have HB2:=zA.mk (HBX.out.trans (hb.mono HBX.out.size));have e8:=(A8.out W' HB2.out).1;have e8f:=(A8.out W' HB2.out).2;have e9:=(A9.out W' HB2.out).1;have e9f:=(A9.out W' HB2.out).2;clear hb)
   exact HYES.out (by have:=HST.out;simpa using this.symm) _ _ HB2.out
  | false =>
   gi_wp2_with (first|(refine ⟨trivial,?_⟩;gi_at_fn fc;refine (CallsIn.inRound l (callsIn_wide.2 (hc x1 st.1 cv' A2 Av c2 cv W HC.out HB.out (Kd.zJ HX2.out).2.2 (Kd.zJ HX2.out).2.1 (Kd.zJ HV.out).2.2 (Kd.zJ HV.out).2.1))).mono ?_;rintro e W' ⟨rfl,hb⟩;have HBX:=zA.mk hb;have e4:=A4.out W' hb;clear hb))
   gi_wp2_with (refine ⟨trivial,?_⟩;gi_at_fn fi;refine (CallsIn.inRound l (callsIn_wide.2 (hi x1 false A2 c2 _ HI.out (HB.out.trans (HBX.out.mono HB.out.size)) (Kd.zJ (Kd.z8 HX2.out HBX.out)).2.2 (Kd.zJ HX2.out).2.1))).mono ?_;rintro e W' ⟨rfl,hb⟩;have HB2:=zA.mk (HBX.out.trans (hb.mono HBX.out.size));have e8:=(A8.out W' HB2.out).1;have e8f:=(A8.out W' HB2.out).2;have e9:=(A9.out W' HB2.out).1;have e9f:=(A9.out W' HB2.out).2;clear hb)
   exact HNO.out (by have:=HST.out;simpa using this.symm) _ _ HB2.out
 case done =>
  rintro D xs W hD hS ⟨h1,h2,h3,h4,st,v,h5,h6,h7,h8⟩ hK
  rw [hS,h] at h5
  obtain rfl:=Option.some.inj h5
  obtain ⟨Av,cv,ev⟩:=Kd.zq h8
  subst ev
  have f:W.cell? ⟨b8,0,none⟩=some (.slice Av r1.length cv):=(zB h6 0).trans rfl
  have d:W.cell? ⟨b9,0,none⟩=some (.bool r2):=(zB h7 0).trans rfl
  have HRR:=zA.mk h8
  have HBB:=zA.mk h1
  have HKK:=zA.mk hK
  clear h h1 h2 h3 h4 h5 h6 h7 h8 hS hK
  have hfo:Try.prog.follows .mixedOrders=true:=by kernel_rfl
  gi_wp2
  refine wpIn_wide.2 ?_
  go_quiet (fail)
  gi_wp2
  have hK2:(W.drewN nq).heap[D]? = some (.deferred (some [])):=((zAb (Below.refl W.heap.size W) nq).block D (Array.getElem?_eq_some_iff.1 HKK.out).1).trans HKK.out
  refine ⟨by simp,.inl ⟨_,_,rfl,run_takeDeferred hK2,?_⟩⟩
  refine ⟨_,results_tmp2 rfl _ _ _,_,rfl,zC9 (Kd.zAn HRR.out nq) hK2 rfl,(zAb HBB.out nq).trans (zCC (by have:=hB0.size;omega))⟩
end Go.Proofs.Ythimaecnpkcmeaa.K
namespace Go.Proofs.Ythimaecnpkcmeaa.K
open Go.RowKit Go.Proofs.YthimaecnpkcmeaaW.PrintWords Go.Proofs.YthimaecnpkcmeaaW.PrintLast Go.Proofs.YthimaecnpkcmeaaW.PrintMore
attribute [local go_sem] zAX zAW zAg zAf zAF zAG zAU zAV   -- for this text's walks alone
set_option linter.unusedVariables false
set_option linter.unusedSimpArgs false
def zA4.l0:Nat→Int→List Int→Int→Int→Option (Int)
 | 0,_,_,_,_=>none
 | k+1,x3,x6,x7,x8=>if x8 < x7 then (if 0≤x8 then (if x8 < (x6.length:Int) then (if (rd x6 x8)=x3 then (zA4.l0 k x3 x6 x7 (wrap64 (x8+1))) else (some (rd x6 x8))) else (none)) else (none)) else (some x3)
def zA4.f (k:Nat) (l0:List Int):Option (Int):=zA4.l0 k 0 l0 (l0.length:Int) 0
set_option maxHeartbeats 8000000 in
set_option maxRecDepth 100000 in
theorem zA4.calls (k:Nat) (A0:Option Addr) (c0:Nat) (l0:List Int) (r:Int) (w:World) (hr0:Kd.C (Kd.int .i64) w A0 l0.length l0) (hc0:l0.length≤c0) (h:zA4.f k l0=some r) :
 Calls Try.prog 94 #[.slice A0 l0.length c0] w fun e w'=>e= .returned (.int .i64 r)∧zY w w':=by
 have HR0:=zA.mk hr0
 have HC0:=zA.mk hc0
 clear hr0 hc0
 have H:(zA4.l0 k 0 l0 (l0.length:Int) 0)=some r:=h
 clear h
 have H':=zA.mk H
 clear H
 go_enter Try.func94,Try.ntmps94
 go_wp2
 go_loopg [8] k (fun kq v8 w'=>∃ (a:Int),v8= .int .i64 a∧zA (zA4.l0 kq 0 l0 (l0.length:Int) a=some r)∧zA (kq≤k)∧zY w w')
 case atStart=>exact ⟨(0),sA,H',⟨Nat.le_refl _⟩,by repeat (first|exact zY.refl _|apply zY.step)⟩
 case round =>
  clear H'
  obtain ⟨a,rfl,HA,HK1,⟨m1,rfl⟩⟩:=hrel
  cases gk with
  | zero=>exact absurd HA.out (by simp [zA4.l0])
  | succ k1 =>
   have H:=HA.out
   clear HA
   simp only [zA4.l0] at H
   by_cases c2:a < (l0.length:Int)
   rotate_left
   ·rw [if_neg c2] at H
    have i:decide (a < (l0.length:Int))=false:=decide_eq_false c2
    clear c2
    obtain rfl:=Option.some.inj H
    go_wp2
    go_ret
    exact ⟨by first|rfl|(simp;done)|(simp [*];done),by repeat (first|exact zY.refl _|apply zY.step)⟩
   rw [if_pos c2] at H
   have i:decide (a < (l0.length:Int))=true:=decide_eq_true c2
   clear c2
   by_cases c3:0≤a
   rotate_left
   ·rw [if_neg c3] at H
    exact absurd H (by simp)
   rw [if_pos c3] at H
   have m:decide (0≤a)=true:=decide_eq_true c3
   clear c3
   by_cases c4:a < (l0.length:Int)
   rotate_left
   ·rw [if_neg c4] at H
    exact absurd H (by simp)
   rw [if_pos c4] at H
   have n:decide (a < (l0.length:Int))=true:=decide_eq_true c4
   clear c4
   by_cases c5:(rd l0 a)=0
   rotate_left
   ·rw [if_neg c5] at H
    have j:((rd l0 a) == 0)=false:=beq_eq_false_iff_ne.mpr c5
    have l:((rd l0 a) != 0)=true:=bne_iff_ne.mpr c5
    obtain rfl:=Option.some.inj H
    have b:0≤(a:Int):=dA
    have c:a < (l0.length:Int):=dA
    obtain ⟨g,e328,d⟩:=Kd.zAh HR0.out a b c
    cases e328
    replace b:=eq_true b
    replace c:=eq_true c
    go_wp2
    go_ret
    exact ⟨by first|rfl|(simp;done)|(simp [*];done),by repeat (first|exact zY.refl _|apply zY.step)⟩
   rw [if_pos c5] at H
   have j:((rd l0 a) == 0)=true:=beq_iff_eq.mpr c5
   have l:((rd l0 a) != 0)=false:=bne_eq_false_iff_eq.mpr c5
   clear c5
   have H':=zA.mk H
   clear H
   have b:0≤(a:Int):=dA
   have c:a < (l0.length:Int):=dA
   obtain ⟨g,e328,d⟩:=Kd.zAh HR0.out a b c
   cases e328
   replace b:=eq_true b
   replace c:=eq_true c
   go_wp2
   go_roundg k1
   case measure=>have:=HK1.out;omega
   case rel=>exact ⟨(wrap64 (a+1)),sA,H',⟨by have:=HK1.out;omega⟩,by repeat (first|exact zY.refl _|apply zY.step)⟩
def cmp_Compare_int.f (a0:Int) (a1:Int):Option (Int):=(cmp_isNaN_int.f a0).bind fun b=>((cmp_isNaN_int.f a1).bind fun a=>(if b=true then (if a=true then (some 0) else (some (-1))) else (if a=true then (some 1) else (if a0 < a1 then (some (-1)) else (if a0 > a1 then (some 1) else (some 0))))))
set_option maxHeartbeats 8000000 in
set_option maxRecDepth 100000 in
theorem cmp_Compare_int.calls (a0:Int) (a1:Int) (r:Int) (w:World) (h:cmp_Compare_int.f a0 a1=some r) :
 Calls Try.prog 95 #[.int .i64 a0,.int .i64 a1] w fun e w'=>e= .returned (.int .i64 r)∧zY w w':=by
 have H:((cmp_isNaN_int.f a0).bind fun b=>((cmp_isNaN_int.f a1).bind fun a=>(if b=true then (if a=true then (some 0) else (some (-1))) else (if a=true then (some 1) else (if a0 < a1 then (some (-1)) else (if a0 > a1 then (some 1) else (some 0)))))))=some r:=h
 clear h
 replace H:=Option.bind_eq_some_iff.mp H
 obtain ⟨b,A30,H⟩:=H
 replace H:((cmp_isNaN_int.f a1).bind fun a=>(if b=true then (if a=true then (some 0) else (some (-1))) else (if a=true then (some 1) else (if a0 < a1 then (some (-1)) else (if a0 > a1 then (some 1) else (some 0))))))=some r:=H
 have A3:=zA.mk A30
 clear A30
 replace H:=Option.bind_eq_some_iff.mp H
 obtain ⟨a,A40,H⟩:=H
 replace H:(if b=true then (if a=true then (some 0) else (some (-1))) else (if a=true then (some 1) else (if a0 < a1 then (some (-1)) else (if a0 > a1 then (some 1) else (some 0)))))=some r:=H
 have A4:=zA.mk A40
 clear A40
 by_cases c5:b=true
 ·subst c5
  have H1:(if a=true then (some 0) else (some (-1)))=some r:=by rw [if_pos rfl] at H;exact H
  clear H
  have H:=H1
  clear H1
  by_cases c6:a=true
  ·subst c6
   have H1:(some 0)=some r:=by rw [if_pos rfl] at H;exact H
   clear H
   have H:=H1
   clear H1
   obtain rfl:=Option.some.inj H
   go_enter Try.func95,Try.ntmps95
   go_wp2_with (first|((with_reducible refine zH (f:=107) rfl ?_);refine gL (some 8) Try.func107 #[.int .i64 a0] ?_;(with_reducible refine (cmp_isNaN_int.calls a0 true _ A3.out).mono ?_);rintro e w' ⟨rfl,⟨nd,rfl⟩⟩;refine ⟨_,rfl,?_⟩)|((with_reducible refine zH (f:=107) rfl ?_);refine gL (some 10) Try.func107 #[.int .i64 a1] ?_;(with_reducible refine (cmp_isNaN_int.calls a1 true _ A4.out).mono ?_);rintro e w' ⟨rfl,⟨nd,rfl⟩⟩;refine ⟨_,rfl,?_⟩))
   go_ret
   exact ⟨by first|rfl|(simp;done)|(simp [*];done),by repeat (first|exact zY.refl _|apply zY.step)⟩
  replace c6:=Bool.eq_false_iff.mpr c6
  subst c6
  have H1:(some (-1))=some r:=by rw [if_neg (show ¬ (false=true) by decide)] at H;exact H
  clear H
  have H:=H1
  clear H1
  obtain rfl:=Option.some.inj H
  go_enter Try.func95,Try.ntmps95
  go_wp2_with (first|((with_reducible refine zH (f:=107) rfl ?_);refine gL (some 8) Try.func107 #[.int .i64 a0] ?_;(with_reducible refine (cmp_isNaN_int.calls a0 true _ A3.out).mono ?_);rintro e w' ⟨rfl,⟨nd,rfl⟩⟩;refine ⟨_,rfl,?_⟩)|((with_reducible refine zH (f:=107) rfl ?_);refine gL (some 10) Try.func107 #[.int .i64 a1] ?_;(with_reducible refine (cmp_isNaN_int.calls a1 false _ A4.out).mono ?_);rintro e w' ⟨rfl,⟨nd,rfl⟩⟩;refine ⟨_,rfl,?_⟩))
  go_ret
  exact ⟨by first|rfl|(simp;done)|(simp [*];done),by repeat (first|exact zY.refl _|apply zY.step)⟩
 replace c5:=Bool.eq_false_iff.mpr c5
 subst c5
 have H1:(if a=true then (some 1) else (if a0 < a1 then (some (-1)) else (if a0 > a1 then (some 1) else (some 0))))=some r:=by rw [if_neg (show ¬ (false=true) by decide)] at H;exact H
 clear H
 have H:=H1
 clear H1
 by_cases c7:a=true
 ·subst c7
  have H1:(some 1)=some r:=by rw [if_pos rfl] at H;exact H
  clear H
  have H:=H1
  clear H1
  obtain rfl:=Option.some.inj H
  go_enter Try.func95,Try.ntmps95
  go_wp2_with (first|((with_reducible refine zH (f:=107) rfl ?_);refine gL (some 8) Try.func107 #[.int .i64 a0] ?_;(with_reducible refine (cmp_isNaN_int.calls a0 false _ A3.out).mono ?_);rintro e w' ⟨rfl,⟨nd,rfl⟩⟩;refine ⟨_,rfl,?_⟩)|((with_reducible refine zH (f:=107) rfl ?_);refine gL (some 10) Try.func107 #[.int .i64 a1] ?_;(with_reducible refine (cmp_isNaN_int.calls a1 true _ A4.out).mono ?_);rintro e w' ⟨rfl,⟨nd,rfl⟩⟩;refine ⟨_,rfl,?_⟩))
  go_ret
  exact ⟨by first|rfl|(simp;done)|(simp [*];done),by repeat (first|exact zY.refl _|apply zY.step)⟩
 replace c7:=Bool.eq_false_iff.mpr c7
 subst c7
 have H1:(if a0 < a1 then (some (-1)) else (if a0 > a1 then (some 1) else (some 0)))=some r:=by rw [if_neg (show ¬ (false=true) by decide)] at H;exact H
 clear H
 have H:=H1
 clear H1
 by_cases c8:a0 < a1
 ·rw [if_pos c8] at H
  have c:decide (a0 < a1)=true:=decide_eq_true c8
  clear c8
  obtain rfl:=Option.some.inj H
  go_enter Try.func95,Try.ntmps95
  go_wp2_with (first|((with_reducible refine zH (f:=107) rfl ?_);refine gL (some 8) Try.func107 #[.int .i64 a0] ?_;(with_reducible refine (cmp_isNaN_int.calls a0 false _ A3.out).mono ?_);rintro e w' ⟨rfl,⟨nd,rfl⟩⟩;refine ⟨_,rfl,?_⟩)|((with_reducible refine zH (f:=107) rfl ?_);refine gL (some 10) Try.func107 #[.int .i64 a1] ?_;(with_reducible refine (cmp_isNaN_int.calls a1 false _ A4.out).mono ?_);rintro e w' ⟨rfl,⟨nd,rfl⟩⟩;refine ⟨_,rfl,?_⟩))
  go_ret
  exact ⟨by first|rfl|(simp;done)|(simp [*];done),by repeat (first|exact zY.refl _|apply zY.step)⟩
 rw [if_neg c8] at H
 have c:decide (a0 < a1)=false:=decide_eq_false c8
 clear c8
 by_cases c9:a0 > a1
 ·rw [if_pos c9] at H
  have d:decide (a1 < a0)=true:=decide_eq_true c9
  clear c9
  obtain rfl:=Option.some.inj H
  go_enter Try.func95,Try.ntmps95
  go_wp2_with (first|((with_reducible refine zH (f:=107) rfl ?_);refine gL (some 8) Try.func107 #[.int .i64 a0] ?_;(with_reducible refine (cmp_isNaN_int.calls a0 false _ A3.out).mono ?_);rintro e w' ⟨rfl,⟨nd,rfl⟩⟩;refine ⟨_,rfl,?_⟩)|((with_reducible refine zH (f:=107) rfl ?_);refine gL (some 10) Try.func107 #[.int .i64 a1] ?_;(with_reducible refine (cmp_isNaN_int.calls a1 false _ A4.out).mono ?_);rintro e w' ⟨rfl,⟨nd,rfl⟩⟩;refine ⟨_,rfl,?_⟩))
  go_ret
  exact ⟨by first|rfl|(simp;done)|(simp [*];done),by repeat (first|exact zY.refl _|apply zY.step)⟩
 rw [if_neg c9] at H
 have d:decide (a1 < a0)=false:=decide_eq_false c9
 clear c9
 obtain rfl:=Option.some.inj H
 go_enter Try.func95,Try.ntmps95
 go_wp2_with (first|((with_reducible refine zH (f:=107) rfl ?_);refine gL (some 8) Try.func107 #[.int .i64 a0] ?_;(with_reducible refine (cmp_isNaN_int.calls a0 false _ A3.out).mono ?_);rintro e w' ⟨rfl,⟨nd,rfl⟩⟩;refine ⟨_,rfl,?_⟩)|((with_reducible refine zH (f:=107) rfl ?_);refine gL (some 10) Try.func107 #[.int .i64 a1] ?_;(with_reducible refine (cmp_isNaN_int.calls a1 false _ A4.out).mono ?_);rintro e w' ⟨rfl,⟨nd,rfl⟩⟩;refine ⟨_,rfl,?_⟩))
 go_ret
 exact ⟨by first|rfl|(simp;done)|(simp [*];done),by repeat (first|exact zY.refl _|apply zY.step)⟩
def zAJ.l0:Nat→List Int→List Int→List Int→Int→Int→Option (Int)
 | 0,_,_,_,_,_=>none
 | k+1,x0,x1,x9,x10,x11=>if x11 < x10 then (if 0≤x11 then (if x11 < (x9.length:Int) then (if x11≥(x1.length:Int) then (some 1) else (if x11 < (x1.length:Int) then ((cmp_Compare_int.f (rd x9 x11) (rd x1 x11)).bind fun a=>(if a=0 then (zAJ.l0 k x0 x1 x9 x10 (wrap64 (x11+1))) else (some a))) else (none))) else (none)) else (none)) else (if (x0.length:Int) < (x1.length:Int) then (some (-1)) else (some 0))
def zAJ.f (k:Nat) (l0:List Int) (l1:List Int):Option (Int):=zAJ.l0 k l0 l1 l0 (l0.length:Int) 0
set_option maxHeartbeats 8000000 in
set_option maxRecDepth 100000 in
theorem zAJ.calls (k:Nat) (A0:Option Addr) (c0:Nat) (l0:List Int) (A1:Option Addr) (c1:Nat) (l1:List Int) (r:Int) (w:World) (hr0:Kd.C (Kd.int .i64) w A0 l0.length l0) (hc0:l0.length≤c0) (hr1:Kd.C (Kd.int .i64) w A1 l1.length l1) (hc1:l1.length≤c1) (h:zAJ.f k l0 l1=some r) :
 Calls Try.prog 96 #[.slice A0 l0.length c0,.slice A1 l1.length c1] w fun e w'=>e= .returned (.int .i64 r)∧zY w w':=by
 have HR0:=zA.mk hr0
 have HC0:=zA.mk hc0
 clear hr0 hc0
 have HR1:=zA.mk hr1
 have HC1:=zA.mk hc1
 clear hr1 hc1
 have H:(zAJ.l0 k l0 l1 l0 (l0.length:Int) 0)=some r:=h
 clear h
 have H':=zA.mk H
 clear H
 go_enter Try.func96,Try.ntmps96
 go_wp2
 go_loopg [11] k (fun kq v11 w'=>∃ (a:Int),v11= .int .i64 a∧zA (zAJ.l0 kq l0 l1 l0 (l0.length:Int) a=some r)∧zA (kq≤k)∧zY w w')
 case atStart=>exact ⟨(0),sA,H',⟨Nat.le_refl _⟩,by repeat (first|exact zY.refl _|apply zY.step)⟩
 case round =>
  clear H'
  try clear c1
  try clear p2
  obtain ⟨a,rfl,HA,HK1,⟨m1,rfl⟩⟩:=hrel
  cases gk with
  | zero=>exact absurd HA.out (by simp [zAJ.l0])
  | succ k1 =>
   have H:=HA.out
   clear HA
   simp only [zAJ.l0] at H
   by_cases c3:a < (l0.length:Int)
   rotate_left
   ·rw [if_neg c3] at H
    have q:decide (a < (l0.length:Int))=false:=decide_eq_false c3
    clear c3
    by_cases c10:(l0.length:Int) < (l1.length:Int)
    ·rw [if_pos c10] at H
     have n:decide ((l0.length:Int) < (l1.length:Int))=true:=decide_eq_true c10
     have o:decide (l0.length < l1.length)=true:=decide_eq_true (Int.ofNat_lt.mp c10)
     clear c10
     obtain rfl:=Option.some.inj H
     go_wp2
     go_ret
     exact ⟨by first|rfl|(simp;done)|(simp [*];done),by repeat (first|exact zY.refl _|apply zY.step)⟩
    rw [if_neg c10] at H
    have n:decide ((l0.length:Int) < (l1.length:Int))=false:=decide_eq_false c10
    have o:decide (l0.length < l1.length)=false:=decide_eq_false (fun h=>c10 (Int.ofNat_lt.mpr h))
    clear c10
    obtain rfl:=Option.some.inj H
    go_wp2
    go_ret
    exact ⟨by first|rfl|(simp;done)|(simp [*];done),by repeat (first|exact zY.refl _|apply zY.step)⟩
   rw [if_pos c3] at H
   have q:decide (a < (l0.length:Int))=true:=decide_eq_true c3
   clear c3
   by_cases c4:0≤a
   rotate_left
   ·rw [if_neg c4] at H
    exact absurd H (by simp)
   rw [if_pos c4] at H
   have v:decide (0≤a)=true:=decide_eq_true c4
   clear c4
   by_cases c5:a < (l0.length:Int)
   rotate_left
   ·rw [if_neg c5] at H
    exact absurd H (by simp)
   rw [if_pos c5] at H
   have x:decide (a < (l0.length:Int))=true:=decide_eq_true c5
   clear c5
   by_cases c6:a≥(l1.length:Int)
   ·rw [if_pos c6] at H
    have s:decide ((l1.length:Int)≤a)=true:=decide_eq_true c6
    clear c6
    obtain rfl:=Option.some.inj H
    have b:0≤(a:Int):=dA
    have c:a < (l0.length:Int):=dA
    obtain ⟨l,e331,j⟩:=Kd.zAh HR0.out a b c
    cases e331
    replace b:=eq_true b
    replace c:=eq_true c
    go_wp2
    go_ret
    exact ⟨by first|rfl|(simp;done)|(simp [*];done),by repeat (first|exact zY.refl _|apply zY.step)⟩
   rw [if_neg c6] at H
   have s:decide ((l1.length:Int)≤a)=false:=decide_eq_false c6
   clear c6
   by_cases c7:a < (l1.length:Int)
   rotate_left
   ·rw [if_neg c7] at H
    exact absurd H (by simp)
   rw [if_pos c7] at H
   have y:decide (a < (l1.length:Int))=true:=decide_eq_true c7
   clear c7
   replace H:=Option.bind_eq_some_iff.mp H
   obtain ⟨d,A80,H⟩:=H
   replace H:(if d=0 then (zAJ.l0 k1 l0 l1 l0 (l0.length:Int) (wrap64 (a+1))) else (some d))=some r:=H
   have A8:=zA.mk A80
   clear A80
   by_cases c9:d=0
   rotate_left
   ·rw [if_neg c9] at H
    have t:(d == 0)=false:=beq_eq_false_iff_ne.mpr c9
    have u:(d != 0)=true:=bne_iff_ne.mpr c9
    obtain rfl:=Option.some.inj H
    have b:0≤(a:Int):=dA
    have c:a < (l0.length:Int):=dA
    obtain ⟨l,e331,j⟩:=Kd.zAh HR0.out a b c
    cases e331
    replace b:=eq_true b
    replace c:=eq_true c
    have g:0≤(a:Int):=dA
    have i:a < (l1.length:Int):=dA
    obtain ⟨p,e332,m⟩:=Kd.zAh HR1.out a g i
    cases e332
    replace g:=eq_true g
    replace i:=eq_true i
    go_wp2_with (first|((with_reducible refine zH (f:=95) rfl ?_);refine gL (some 26) Try.func95 #[.int .i64 (rd l0 a),.int .i64 (rd l1 a)] ?_;(with_reducible refine (cmp_Compare_int.calls (rd l0 a) (rd l1 a) d _ A8.out).mono ?_);rintro e w' ⟨rfl,⟨nd,rfl⟩⟩;refine ⟨_,rfl,?_⟩))
    go_ret
    exact ⟨by first|rfl|(simp;done)|(simp [*];done),by repeat (first|exact zY.refl _|apply zY.step)⟩
   rw [if_pos c9] at H
   have t:(d == 0)=true:=beq_iff_eq.mpr c9
   have u:(d != 0)=false:=bne_eq_false_iff_eq.mpr c9
   clear c9
   have H':=zA.mk H
   clear H
   have b:0≤(a:Int):=dA
   have c:a < (l0.length:Int):=dA
   obtain ⟨l,e331,j⟩:=Kd.zAh HR0.out a b c
   cases e331
   replace b:=eq_true b
   replace c:=eq_true c
   have g:0≤(a:Int):=dA
   have i:a < (l1.length:Int):=dA
   obtain ⟨p,e332,m⟩:=Kd.zAh HR1.out a g i
   cases e332
   replace g:=eq_true g
   replace i:=eq_true i
   go_wp2_with (first|((with_reducible refine zH (f:=95) rfl ?_);refine gL (some 26) Try.func95 #[.int .i64 (rd l0 a),.int .i64 (rd l1 a)] ?_;(with_reducible refine (cmp_Compare_int.calls (rd l0 a) (rd l1 a) d _ A8.out).mono ?_);rintro e w' ⟨rfl,⟨nd,rfl⟩⟩;refine ⟨_,rfl,?_⟩))
   go_roundg k1
   case measure=>have:=HK1.out;omega
   case rel=>exact ⟨(wrap64 (a+1)),sA,H',⟨by have:=HK1.out;omega⟩,by repeat (first|exact zY.refl _|apply zY.step)⟩
end Go.Proofs.Ythimaecnpkcmeaa.K
namespace Go.Proofs.Ythimaecnpkcmeaa.K
open Go.RowKit Go.Proofs.YthimaecnpkcmeaaW.PrintWords Go.Proofs.YthimaecnpkcmeaaW.PrintLast Go.Proofs.YthimaecnpkcmeaaW.PrintMore
attribute [local go_sem] zAX zAW zAg zAf zAF zAG zAU zAV   -- for this text's walks alone
set_option linter.unusedVariables false
set_option linter.unusedSimpArgs false
def zAS.T1:Bool × List (List Nat × List Nat):=(true,[([],[]),([],[]),([0,1],[0,1]),([],[]),([],[]),([3,4,2],[3,4]),([2,5,5],[2,5]),([],[]),([7],[7]),([],[]),([9],[9]),([8,10,6],[8,10]),([],[]),([],[]),([12,13,11],[12,13]),([6,11,14],[6,11,14]),([15,14],[15]),([16,16,0,1,2,3,4,5,6,7,8,9,10,11,12,13,14,15,16],[16])])
def zAS.B1:List Nat:=[0,0,3,0,0,31,63,0,128,0,512,2047,0,0,16383,32767,65535,131071]
theorem zAS.zC6:zBQ .any (opsOf Try.f93 1)=zAS.T1:=by kernel_rfl
theorem zAS.zCQ:zBA zAS.T1.2 zAS.B1=true:=by kernel_rfl
def or3 (a b c:Int):Int:=if a=0 then (if b=0 then c else b) else a
def zDB (a b:Int):Int:=if a < b then -1 else if b < a then 1 else 0
def zAS.f (k:Nat) (l0:List S50) (a1 a2:Int) (x y:List Int):Option Int :=
 (zAk.f k l0 a1 a2 x).bind fun a=>(zAk.f k l0 a1 a2 y).bind fun b=>(zAJ.f k x y).bind fun c=>some (or3 (zDB a b) (zDB x.length y.length) c)
theorem cmp_Compare_int.eq (a b:Int):cmp_Compare_int.f a b=some (zDB a b):=by
 unfold cmp_Compare_int.f cmp_isNaN_int.f zDB
 simp only [ne_eq,not_true_eq_false,if_false,Option.bind_some]
 by_cases h1:a < b <;> by_cases h2:b < a <;> simp [h1,h2] <;> omega
theorem zA4.eq (a b c:Int):zA4.f 5 [a,b,c]=some (or3 a b c):=by
 unfold zA4.f or3
 have e0:rd [a,b,c] 0=a:=rfl
 have e1:rd [a,b,c] 1=b:=rfl
 have e2:rd [a,b,c] 2=c:=rfl
 have w0:wrap64 (0+1)=1:=by unfold wrap64;omega
 have w1:wrap64 (1+1)=2:=by unfold wrap64;omega
 have w2:wrap64 (2+1)=3:=by unfold wrap64;omega
 simp only [zA4.l0,List.length_cons,List.length_nil,Nat.zero_add,Nat.reduceAdd,e0,e1,e2,w0,w1,w2]
 by_cases ha:a=0 <;> by_cases hb:b=0 <;> by_cases hc:c=0 <;> simp [ha,hb,hc,e0,e1,e2,w0,w1,w2,zA4.l0]
set_option maxHeartbeats 4000000 in
set_option maxRecDepth 100000 in
theorem zAS.calls (k:Nat) (A0:Option Addr) (c0:Nat) (l0:List S50) (a1 a2:Int) (g:Nat) (A1:Option Addr) (c1:Nat) (x:List Int) (A2:Option Addr) (c2:Nat) (y:List Int) (z:Int) (w:World)
 (hg:w.heap[g]? = some (.cells #[.slice A0 l0.length c0,.int .i64 a1,.int .i64 a2] 26 (0,0))) (hr0:Kd.C k50 w A0 l0.length l0) (hc0:l0.length≤c0) (hr1:Kd.C (Kd.int .i64) w A1 x.length x) (hc1:x.length≤c1) (hr2:Kd.C (Kd.int .i64) w A2 y.length y) (hc2:y.length≤c2) (h:zAS.f k l0 a1 a2 x y=some z) :
 Calls Try.prog 93 #[.slice A1 x.length c1,.slice A2 y.length c2,.pointer (some ⟨g,0,none⟩)] w fun e w'=>e= .returned (.int .i64 z)∧Below w.heap.size w w':=by
 have i:=Try.underlying26
 unfold zAS.f at h
 obtain ⟨a,ha,h⟩:=Option.bind_eq_some_iff.1 h
 obtain ⟨b,hb,h⟩:=Option.bind_eq_some_iff.1 h
 obtain ⟨c,hc,h⟩:=Option.bind_eq_some_iff.1 h
 have hz:=Option.some.inj h
 have HA:=zA.mk ha
 have HBB:=zA.mk hb
 have HC:=zA.mk hc
 have HZ:=zA.mk hz
 have HG:=zA.mk hg
 have HR0:=zA.mk hr0
 have HR1:=zA.mk hr1
 have HR2:=zA.mk hr2
 clear h ha hb hc hz hg hr0 hr1 hr2
 go_enter Try.func93,Try.ntmps93
 go_wp2
 have n1:=zA.mk (zx (Below.refl w.heap.size w))
 have n2:=zA.mk (zF HG.out)
 refine zBH (n:=18) (S:=fun w'=>w'.cell? ⟨g,0,none⟩=some (.slice A0 l0.length c0)∧w'.cell? ⟨g,1,none⟩=some (.int .i64 a1)∧w'.cell? ⟨g,2,none⟩=some (.int .i64 a2)) (ds:=[]) #[false,false,false,false,false,false,false,false,false,false,false,false,false,false,false,false,false,false] (by kernel_rfl) rfl rfl ⟨(zB n2.out 0).trans rfl,(zB n2.out 1).trans rfl,(zB n2.out 2).trans rfl⟩ (fun d=>?_)
 refine zAj zAS.zC6 zAS.zCQ (fun HT_ HW_=>?_)
 generalize w.drew=w0 at n1 n2 d ⊢
 refine pP 1 (some 7) HT_ ?_
 refine pP 4 (some 10) HT_ ?_
 refine pP 7 (some 13) HT_ ?_
 refine pP 9 (some 15) HT_ ?_
 refine pP 12 (some 18) HT_ ?_
 refine pP 13 (some 19) HT_ ?_
 refine pP 8 (some 14) HT_ ?_
 refine pP 10 (some 16) HT_ ?_
 refine tP 0 (some 6) HT_ HW_ d ?_
 refine tP 3 (some 9) HT_ HW_ d ?_
 refine oP 2 (some 8) HT_ (fun K hK=>?_)
 refine gO Try.func61 #[.agg #[.slice A0 l0.length c0,.int .i64 a1,.int .i64 a2],.slice A1 x.length c1] ?_
 with_reducible refine (zAk.calls k A0 c0 l0 a1 a2 A1 c1 x a _ (Kd.zAZ HR0.out n1.out) hc0 (Kd.zAZ HR1.out n1.out) hc1 HA.out).mono ?_
 rintro e w1 ⟨rfl,hb⟩
 refine ⟨_,rfl,?_⟩
 have p1:=zA.mk (zAx n1.out (hb))
 have p2:=zA.mk (zT n2.out (hb))
 clear hb
 refine hK.out _ _ ⟨(zB p2.out 0).trans rfl,(zB p2.out 1).trans rfl,(zB p2.out 2).trans rfl⟩ (fun d=>?_)
 clear hK K
 refine nP ?_
 refine oP 5 (some 11) HT_ (fun K hK=>?_)
 refine gO Try.func61 #[.agg #[.slice A0 l0.length c0,.int .i64 a1,.int .i64 a2],.slice A2 y.length c2] ?_
 with_reducible refine (zAk.calls k A0 c0 l0 a1 a2 A2 c2 y b _ (Kd.zAZ HR0.out p1.out) hc0 (Kd.zAZ HR2.out p1.out) hc2 HBB.out).mono ?_
 rintro e w2 ⟨rfl,hb⟩
 refine ⟨_,rfl,?_⟩
 have q1:=zA.mk (zAx p1.out (hb))
 have q2:=zA.mk (zT p2.out (hb))
 clear hb
 refine hK.out _ _ ⟨(zB q2.out 0).trans rfl,(zB q2.out 1).trans rfl,(zB q2.out 2).trans rfl⟩ (fun d=>?_)
 clear hK K
 refine nP ?_
 refine oP 6 (some 12) HT_ (fun K hK=>?_)
 refine gO Try.func95 #[.int .i64 a,.int .i64 b] ?_
 with_reducible refine (cmp_Compare_int.calls a b _ _ (cmp_Compare_int.eq a b)).mono ?_
 rintro e w3 ⟨rfl,hb⟩
 refine ⟨_,rfl,?_⟩
 have u1:=zA.mk (zAx q1.out (zY.below hb))
 have u2:=zA.mk (zT q2.out (zY.below hb))
 clear hb
 refine hK.out _ _ ⟨(zB u2.out 0).trans rfl,(zB u2.out 1).trans rfl,(zB u2.out 2).trans rfl⟩ (fun d=>?_)
 clear hK K
 refine nP ?_
 refine oP 11 (some 17) HT_ (fun K hK=>?_)
 refine gO Try.func95 #[.int .i64 (x.length:Int),.int .i64 (y.length:Int)] ?_
 with_reducible refine (cmp_Compare_int.calls _ _ _ _ (cmp_Compare_int.eq _ _)).mono ?_
 rintro e w4 ⟨rfl,hb⟩
 refine ⟨_,rfl,?_⟩
 have v1:=zA.mk (zAx u1.out (zY.below hb))
 have v2:=zA.mk (zT u2.out (zY.below hb))
 clear hb
 refine hK.out _ _ ⟨(zB v2.out 0).trans rfl,(zB v2.out 1).trans rfl,(zB v2.out 2).trans rfl⟩ (fun d=>?_)
 clear hK K
 refine nP ?_
 refine oP 14 (some 20) HT_ (fun K hK=>?_)
 refine gO Try.func96 #[.slice A1 x.length c1,.slice A2 y.length c2] ?_
 with_reducible refine (zAJ.calls k A1 c1 x A2 c2 y c _ (Kd.zAZ HR1.out v1.out) hc1 (Kd.zAZ HR2.out v1.out) hc2 HC.out).mono ?_
 rintro e w5 ⟨rfl,hb⟩
 refine ⟨_,rfl,?_⟩
 have s1:=zA.mk (zAx v1.out (zY.below hb))
 have s2:=zA.mk (zT v2.out (zY.below hb))
 clear hb
 refine hK.out _ _ ⟨(zB s2.out 0).trans rfl,(zB s2.out 1).trans rfl,(zB s2.out 2).trans rfl⟩ (fun d=>?_)
 clear hK K
 refine nP ?_
 refine oP 15 (some 21) HT_ (fun K hK=>?_)
 refine zE1 (w1:=?_) (v:=?_) (by rfl) rfl ?_ ?_
 rotate_left 2
 ·go_simp
  constructor
  ·rfl
  ·rfl
 refine hK.out _ _ ⟨(zB (zC s2.out _) 0).trans rfl,(zB (zC s2.out _) 1).trans rfl,(zB (zC s2.out _) 2).trans rfl⟩ (fun d=>?_)
 clear hK K
 refine nP ?_
 have HRo:=zA.mk (show Kd.C (Kd.int .i64) (w5.alloc (.cells #[.int .i64 (zDB a b),.int .i64 (zDB x.length y.length),.int .i64 c] 3)) (some ⟨w5.heap.size,0,none⟩) [zDB a b,zDB x.length y.length,c].length [zDB a b,zDB x.length y.length,c] from (Kd.zJ (Kd.zDx (enc:=.int .i64) (h1:=fun _=>rfl) (ok:=fun _=>True) (own_lit w5 0 3 .i64 [zDB a b,zDB x.length y.length,c] (Nat.zero_le _) (by simp)) (fun _ _=>trivial))).2.2)
 have hOr:=zA.mk (zA4.calls 5 (some ⟨w5.heap.size,0,none⟩) 3 [zDB a b,zDB x.length y.length,c] _ _ HRo.out (Nat.le_refl _) (zA4.eq _ _ _))
 simp only [List.length_cons,List.length_nil,Nat.zero_add,Nat.reduceAdd] at hOr
 refine oP 16 (some 22) HT_ (fun K hK=>?_)
 refine gO Try.func94 #[.slice (some ⟨w5.heap.size,0,none⟩) 3 3] ?_
 with_reducible refine (hOr.out).mono ?_
 rintro e w6 ⟨rfl,hb⟩
 refine ⟨_,rfl,?_⟩
 have n1:=zA.mk (zAx (zo s1.out _) (zY.below hb))
 have n2:=zA.mk (zT (zC s2.out _) (zY.below hb))
 clear hb
 refine hK.out _ _ ⟨(zB n2.out 0).trans rfl,(zB n2.out 1).trans rfl,(zB n2.out 2).trans rfl⟩ (fun d=>?_)
 clear hK K
 refine nP ?_
 refine pP 17 (some 5) HT_ ?_
 refine zBZ (zA8 HT_.out (by kernel_rfl)) ?_
 go_wp2
 go_ret
 exact ⟨by rw [← HZ.out];rfl,n1.out⟩
def zBD.T1:Bool × List (List Nat × List Nat):=(true,[([],[]),([0],[0]),([1],[1]),([2],[2]),([],[]),([4],[4]),([],[]),([3,5,6,3],[3,5,6]),([7],[7]),([7],[7]),([8,7,0,1,2,3,4,5,6,7,8,9],[8]),([9,10,0,1,2,3,4,5,6,7,8,9,10],[9])])
def zBD.B1:List Nat:=[0,1,3,7,0,16,0,127,255,255,1023,2047]
theorem zBD.zC6:zBQ .any (opsOf Try.f59 1)=zBD.T1:=by kernel_rfl
theorem zBD.zCQ:zBA zBD.T1.2 zBD.B1=true:=by kernel_rfl
set_option maxHeartbeats 4000000 in
set_option maxRecDepth 100000 in
theorem zDq (k:Nat) (A0:Option Addr) (c0:Nat) (l0:List S50) (a1 a2:Int) (fi:Nat) (lbi:Array Value) (isf:List Int→Option Bool) (r1:List Int) (r2:Bool) (w:World)
 (hn:l0.length≤40) (hr0:Kd.C k50 w A0 l0.length l0) (hc0:l0.length≤c0) (ei : ∀ args w,(callFunc fi args).run Try.prog w= .ok (.enter fi args) w)
 (hi : ∀ (l:List Int) (b:Bool) (A:Option Addr) (c:Nat) (W:World),isf l=some b→Below w.heap.size w W→Kd.C (Kd.int .i64) W A l.length l→l.length≤c→Calls Try.prog fi (#[.slice A l.length c] ++ lbi) W fun e W'=>e= .returned (.bool b)∧Below W.heap.size W W')
 (h:zBV isf (zAS.f k l0 a1 a2) (zAt l0.length) ([],false)=some (r1,r2)) :
 Calls Try.prog 59 #[.agg #[.slice A0 l0.length c0,.int .i64 a1,.int .i64 a2],.agg #[.func (.func fi) #[] lbi]] w fun e w'=>∃ v0_:Value,e= .returned (.tuple #[v0_,.bool r2])∧Kd.R (Kd.int .i64) 3 w' w.heap.size (fun _=>True) v0_ r1∧Below w.heap.size w w':=by
 have g:=Try.underlying26
 have d:=Try.underlying100
 have HR0:=zA.mk hr0
 have HH:=zA.mk h
 clear hr0 h
 have ec : ∀ args w,(callFunc 93 args).run Try.prog w= .ok (.enter 93 args) w:=enters_of Try.func93 (by kernel_rfl) rfl
 have EC:=zA.mk ec
 clear ec
 go_enter Try.func59,Try.ntmps59
 go_wp2
 have hB0:Below w.heap.size w ((w.alloc (.cells #[.slice A0 l0.length c0,.int .i64 a1,.int .i64 a2] 26)).alloc (.cells #[.func (.func fi) #[] lbi] 100)):=zo (zo (Below.refl _ _) _) _
 have k2:((w.alloc (.cells #[.slice A0 l0.length c0,.int .i64 a1,.int .i64 a2] 26)).alloc (.cells #[.func (.func fi) #[] lbi] 100)).heap[w.heap.size]? = some (.cells #[.slice A0 l0.length c0,.int .i64 a1,.int .i64 a2] 26 (0,0)):=zC (zBb _ _) _
 have k3:((w.alloc (.cells #[.slice A0 l0.length c0,.int .i64 a1,.int .i64 a2] 26)).alloc (.cells #[.func (.func fi) #[] lbi] 100)).heap[w.heap.size+1]? = some (.cells #[.func (.func fi) #[] lbi] 100 (0,0)):=by
  have:=zBb (w.alloc (.cells #[.slice A0 l0.length c0,.int .i64 a1,.int .i64 a2] 26)) (.cells #[.func (.func fi) #[] lbi] 100)
  rw [World.size_alloc] at this
  exact this
 obtain ⟨b2,hb2⟩ : ∃ b,b=w.heap.size:=⟨_,rfl⟩
 obtain ⟨b3,hb3⟩ : ∃ b,b=w.heap.size+1:=⟨_,rfl⟩
 rw [← hb3] at k3
 rw [← hb2] at k2
 rw [← hb3,← hb2]
 generalize (w.alloc (.cells #[.slice A0 l0.length c0,.int .i64 a1,.int .i64 a2] 26)).alloc (.cells #[.func (.func fi) #[] lbi] 100)=w4 at hB0 k2 k3 ⊢
 clear hb2 hb3
 have n1:=zA.mk (zx hB0)
 have n2:=zA.mk (zF k2)
 have n3:=zA.mk (zF k3)
 clear hB0 k2 k3
 refine zBH (n:=12) (S:=fun w'=>w'.cell? ⟨b2,0,none⟩=some (.slice A0 l0.length c0)∧w'.cell? ⟨b3,0,none⟩=some (.func (.func fi) #[] lbi)) (ds:=[]) #[false,false,false,false,false,false,false,false,false,false,false,false] (by kernel_rfl) rfl rfl ⟨(zB n2.out 0).trans rfl,(zB n3.out 0).trans rfl⟩ (fun a=>?_)
 refine zAj zBD.zC6 zBD.zCQ (fun HT_ HW_=>?_)
 generalize w4.drew=w0 at n1 n2 n3 a ⊢
 refine pP 0 (some 6) HT_ ?_
 refine pP 4 (some 10) HT_ ?_
 refine pP 6 (some 12) HT_ ?_
 refine tP 1 (some 7) HT_ HW_ a ?_
 refine pP 2 (some 8) HT_ ?_
 refine tP 5 (some 11) HT_ HW_ a ?_
 refine oP 3 (some 9) HT_ (fun K hK=>?_)
 refine gO Try.func73 #[.int .i64 (l0.length:Int)] ?_
 with_reducible refine (zDY (l0.length:Int) _).mono ?_
 rintro e w1 ⟨gl,rfl,hgl,_,hb⟩
 refine ⟨_,rfl,?_⟩
 have p1:=zA.mk (zAx n1.out hb)
 have p2:=zA.mk (zT n2.out hb)
 have p3:=zA.mk (zT n3.out hb)
 have HGL:=zA.mk hgl
 clear hb hgl
 refine hK.out _ _ ⟨(zB p2.out 0).trans rfl,(zB p3.out 0).trans rfl⟩ (fun a=>?_)
 clear hK K
 refine nP ?_
 refine oP 7 (some 13) HT_ (fun K hK=>?_)
 refine gO Try.func92 #[.func (.func 99) #[] #[.pointer (some ⟨gl,0,none⟩)],.func (.func fi) #[] lbi,.func (.func 93) #[] #[.pointer (some ⟨b2,0,none⟩)]] ?_
 with_reducible refine (zEA l0.length hn gl fi 93 lbi #[.pointer (some ⟨b2,0,none⟩)] isf (zAS.f k l0 a1 a2) r1 r2 _ HGL.out ei (EC.out) (fun l b A c W h1 h2 h3 h4=>hi l b A c W h1 (p1.out.trans (h2.mono p1.out.size)) h3 h4) (fun x y z A1 A2 c1 c2 W h1 h2 h3 h4 h5 h6=>by have hh:=zAS.calls k A0 c0 l0 a1 a2 b2 A1 c1 x A2 c2 y z W (zT p2.out h2) (Kd.zAZ HR0.out (p1.out.trans (h2.mono p1.out.size))) hc0 h3 h4 h5 h6 h1;simpa using hh) HH.out).mono ?_
 rintro e w2 ⟨v,rfl,hR,hb⟩
 refine ⟨_,rfl,?_⟩
 have HRR:=zA.mk (Kd.zAH hR p1.out.size)
 have q1:=zA.mk (zAx p1.out hb)
 have q2:=zA.mk (zT p2.out hb)
 have q3:=zA.mk (zT p3.out hb)
 clear hb hR
 refine hK.out _ _ ⟨(zB q2.out 0).trans rfl,(zB q3.out 0).trans rfl⟩ (fun a=>?_)
 clear hK K
 refine nP ?_
 refine pP 8 (some 14) HT_ ?_
 refine pP 9 (some 15) HT_ ?_
 refine pP 10 (some 4) HT_ ?_
 refine pP 11 (some 5) HT_ ?_
 refine zBZ (zA8 HT_.out (by kernel_rfl)) ?_
 go_wp2
 go_ret2
 exact ⟨v,rfl,HRR.out,q1.out⟩
end Go.Proofs.Ythimaecnpkcmeaa.K
