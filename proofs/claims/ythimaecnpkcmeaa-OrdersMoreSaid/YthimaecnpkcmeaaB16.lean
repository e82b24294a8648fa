/- Contracts of Go functions and lemmas for them: each theorem states what one function returns and what it leaves of memory; its conditions stand in its statement. -/
import Derived.Test.YthimaecnpkcmeaaB11
import Derived.Test.YthimaecnpkcmeaaB15
import Derived.Test.YthimaecnpkcmeaaB3
import Derived.Test.YthimaecnpkcmeaaB4
set_option linter.unusedVariables false
set_option linter.unusedSimpArgs false
namespace Go.Proofs.Ythimaecnpkcmeaa.K
open Go.RowKit Go.Proofs.YthimaecnpkcmeaaW.PrintWords Go.Proofs.YthimaecnpkcmeaaW.PrintLast Go.Proofs.YthimaecnpkcmeaaW.PrintMore
attribute [local go_sem] zAX zAW zAg zAf zAF zAG zAU zAV   -- for this text's walks alone
set_option linter.unusedVariables false
set_option linter.unusedSimpArgs false
def zBp (p:S64):Int × Int:=(p.f0,p.f1)
def zBh (a b:List S64):Bool:=decide (a.map zBp=b.map zBp)
theorem zEC (a b:List S64) (hl:a.length=b.length) (hm:a.length≤9223372036854775807) : ∀ (d k:Nat) (i:Nat),i+d=a.length→d < k →
 zu.l0 k a b (a.length:Int) (i:Int)=some (decide ((a.drop i).map zBp=(b.drop i).map zBp)):=by
 intro d
 induction d with
 | zero =>
  intro k i hi hk
  obtain ⟨k,rfl⟩ : ∃ m,k=m+1:=⟨k - 1,by omega⟩
  simp only [zu.l0]
  rw [if_neg (by omega),List.drop_of_length_le (by omega),List.drop_of_length_le (by omega)]
  simp
 | succ d ih =>
  intro k i hi hk
  obtain ⟨k,rfl⟩ : ∃ m,k=m+1:=⟨k - 1,by omega⟩
  have h1:i < a.length:=by omega
  have h2:i < b.length:=by omega
  simp only [zu.l0]
  rw [if_pos (by omega),if_pos (by omega),if_pos (by omega),if_pos (by omega)]
  have e1:zI a (i:Int)=a[i]:=by unfold zI;rw [Int.toNat_natCast,List.getD_eq_getElem?_getD,List.getElem?_eq_getElem h1];rfl
  have e2:zI b (i:Int)=b[i]:=by unfold zI;rw [Int.toNat_natCast,List.getD_eq_getElem?_getD,List.getElem?_eq_getElem h2];rfl
  rw [e1,e2,List.drop_eq_getElem_cons h1,List.drop_eq_getElem_cons h2,List.map_cons,List.map_cons]
  have hw:wrap64 ((i:Int)+1)=((i+1:Nat):Int):=by unfold wrap64;omega
  rw [hw,ih k (i+1) (by omega) (by omega)]
  by_cases hp:zBp a[i]=zBp b[i]
  ·have hp':=hp
   unfold zBp at hp'
   simp only [Prod.mk.injEq] at hp'
   rw [if_neg (by simp [hp'.1,hp'.2])]
   simp [hp]
  have hp' : ¬ (a[i].f0=b[i].f0∧a[i].f1=b[i].f1):=fun h=>hp (by unfold zBp;rw [h.1,h.2])
  rw [if_pos (by simp;omega)]
  simp [hp]
theorem zE9 (a b:List S64) (hm:a.length≤9223372036854775807):zu.f (a.length+1) a b=some (zBh a b):=by
 unfold zu.f zBh
 by_cases hl:a.length=b.length
 ·rw [if_pos (by omega)]
  have:=zEC a b hl hm a.length (a.length+1) 0 (by omega) (by omega)
  simpa using this
 rw [if_neg (by omega)]
 have : ¬ a.map zBp=b.map zBp:=fun h=>hl (by simpa using congrArg List.length h)
 simp [this]
set_option maxHeartbeats 800000 in
theorem zDQ (A0:Option Addr) (c0:Nat) (l0:List S64) (A1:Option Addr) (c1:Nat) (l1:List S64) (w:World) (hr0:Kd.C k64 w A0 l0.length l0) (hc0:l0.length≤c0) (hr1:Kd.C k64 w A1 l1.length l1) (hc1:l1.length≤c1) :
 Calls Try.prog 76 #[.slice A0 l0.length c0,.slice A1 l1.length c1] w fun e w'=>e= .returned (.bool (zBh l0 l1))∧zY w w':=by
 have hc:Calls Try.prog 28 #[.slice A0 l0.length c0,.slice A1 l1.length c1] w fun e w'=>e= .returned (.bool (zBh l0 l1))∧zY w w' :=
  zu.calls (l0.length+1) A0 c0 l0 A1 c1 l1 _ w hr0 hc0 hr1 hc1 (zE9 l0 l1 hr0.2.1)
 go_enter Try.func76,Try.ntmps76
 go_wp2_with (go_at_call 28;refine hc.mono ?_;rintro e w' ⟨rfl,⟨nd,rfl⟩⟩)
 go_ret
 exact ⟨rfl,⟨_,rfl⟩⟩
def zB2 (a b:List (List S64)):Bool:=decide (a.map (·.map zBp)=b.map (·.map zBp))
def zAT.f (l0 l1:List (List S64)):Option Bool:=some (zB2 l0 l1)
set_option maxHeartbeats 1600000 in
theorem zAT.calls (A0:Option Addr) (c0:Nat) (l0:List (List S64)) (A1:Option Addr) (c1:Nat) (l1:List (List S64)) (r:Bool) (w:World) (hr0:Kd.C (Kd.slice 64 k64) w A0 l0.length l0) (hc0:l0.length≤c0) (hr1:Kd.C (Kd.slice 64 k64) w A1 l1.length l1) (hc1:l1.length≤c1) (h:zAT.f l0 l1=some r) :
 Calls Try.prog 75 #[.slice A0 l0.length c0,.slice A1 l1.length c1,.func (.func 76) #[] #[]] w fun e w'=>e= .returned (.bool r)∧Below w.heap.size w w':=by
 obtain rfl:=Option.some.inj h
 clear h
 have HR0:=zA.mk hr0
 have HR1:=zA.mk hr1
 have hlen:l0.length≤9223372036854775807:=hr0.2.1
 clear hr0 hr1
 by_cases hl:l0.length=l1.length
 case neg =>
  have hne:((l0.length:Int) != (l1.length:Int))=true:=by rw [bne_iff_ne];omega
  have b:(l0.length == l1.length)=false:=by simpa using hl
  have hs:zA (zB2 l0 l1=false):=⟨by unfold zB2;rw [decide_eq_false_iff_not];exact fun h=>hl (by simpa using congrArg List.length h)⟩
  go_enter Try.func75,Try.ntmps75
  go_wp2
  go_ret
  exact ⟨by rw [hs.out];rfl,Below.refl _ _⟩
 case pos =>
 have b:(l0.length == l1.length)=true:=by simpa using hl
 have c:((l0.length:Int) != (l1.length:Int))=false:=by rw [bne_eq_false_iff_eq];omega
 have HL:=zA.mk hl
 clear hl
 go_enter Try.func75,Try.ntmps75
 go_wp2
 go_loopw [6,7,8,9,17] (fun v6 v7 v8 v9 v17 wr=>∃ k:Nat,k≤l0.length∧v17= .int .i64 k∧zA ((l0.take k).map (·.map zBp)=(l1.take k).map (·.map zBp))∧zY w wr) (fun _ _ _ _ v17 _=>l0.length - (intOf v17).toNat)
 case atStart=>exact ⟨0,Nat.zero_le _,rfl,⟨by simp⟩,zY.refl _⟩
 case round =>
  obtain ⟨k,hk,rfl,hpre,⟨nd,rfl⟩⟩:=hrel
  by_cases hlt:k < l0.length
  rotate_left
  ·go_wp2
   go_ret
   refine ⟨?_,zAb (Below.refl _ _) _⟩
   have:=hpre.out
   have hle:=HL.out
   rw [List.take_of_length_le (by omega),List.take_of_length_le (by omega)] at this
   unfold zB2
   rw [decide_eq_true this];rfl
  have a:k < l1.length:=by have:=HL.out;omega
  obtain ⟨ad,Aa,ca,rfl,hcell,hca,hCa⟩:=zDn HR0.out (k:Int) (by omega) (by omega)
  obtain ⟨ad1,Ab,cb,rfl,hcell1,hcb,hCb⟩:=zDn HR1.out (k:Int) (by omega) (by omega)
  rw [Int.toNat_natCast] at hcell hcell1
  have e1:zBj l0 (k:Int)=l0[k]:=by unfold zBj;rw [Int.toNat_natCast,List.getD_eq_getElem?_getD,List.getElem?_eq_getElem hlt];rfl
  have e2:zBj l1 (k:Int)=l1[k]:=by unfold zBj;rw [Int.toNat_natCast,List.getD_eq_getElem?_getD,List.getElem?_eq_getElem a];rfl
  rw [e1] at hcell hca hCa
  rw [e2] at hcell1 hcb hCb
  clear e1 e2
  have htake:zBh l0[k] l1[k]=true→(l0.take (k+1)).map (·.map zBp)=(l1.take (k+1)).map (·.map zBp):=fun h=>by
   rw [List.take_succ_eq_append_getElem hlt,List.take_succ_eq_append_getElem a,List.map_append,List.map_append,hpre.out]
   unfold zBh at h
   simp [of_decide_eq_true h]
  have hno:zBh l0[k] l1[k]=false→zB2 l0 l1=false:=fun h=>by
   unfold zB2
   rw [decide_eq_false_iff_not]
   intro he
   unfold zBh at h
   apply of_decide_eq_false h
   have:=congrArg (fun l=>l[k]?) he
   simpa [hlt,a] using this
  have hcalls:=fun n=>zDQ Aa ca l0[k] Ab cb l1[k] (w.drewN n) (Kd.zAl hCa n) hca (Kd.zAl hCb n) hcb
  generalize l0[k]=x at *
  generalize l1[k]=y at *
  have HT:=zA.mk htake;have HN:=zA.mk hno;have HC:=zA.mk hcalls
  clear htake hno hcalls hca hcb hCa hCb
  by_cases hb:zBh x y=true
  ·go_wp2_with (go_at_call 76;refine (HC.out _).mono ?_;rintro e w' ⟨rfl,⟨nd2,rfl⟩⟩)
   go_roundw
   case rel=>exact ⟨k+1,by omega,by go_num,⟨HT.out hb⟩,⟨_,by first|rfl|exact World.drewN_drewN _ _ _⟩⟩
   case measure=>simp [intOf];omega
  have hb':zBh x y=false:=by simpa using hb
  go_wp2_with (go_at_call 76;refine (HC.out _).mono ?_;rintro e w' ⟨rfl,⟨nd2,rfl⟩⟩)
  go_ret
  exact ⟨by rw [HN.out hb'];rfl,by first|exact zAb (zAb (Below.refl _ _) _) _|exact zAb (Below.refl _ _) _⟩
end Go.Proofs.Ythimaecnpkcmeaa.K
namespace Go.Proofs.Ythimaecnpkcmeaa.K
open Go.RowKit Go.Proofs.YthimaecnpkcmeaaW.PrintWords Go.Proofs.YthimaecnpkcmeaaW.PrintLast Go.Proofs.YthimaecnpkcmeaaW.PrintMore
attribute [local go_sem] zAX zAW zAg zAf zAF zAG zAU zAV   -- for this text's walks alone
set_option linter.unusedVariables false
set_option linter.unusedSimpArgs false
def zBe.f (k:Nat) (a:List (S50)) (b:Int) (c:Int) (l1:List (List (S64))):Option (Int):=(zK.f k a b c).bind fun d=>(if d=0 then ((zf.f k a b c).bind fun e=>((zAT.f l1 e).bind fun g=>(if g=true then (some 0) else (some 81)))) else (some d))
set_option maxHeartbeats 8000000 in
set_option maxRecDepth 100000 in
theorem zBe.calls (k:Nat) (m:Option Addr) (n:Nat) (b:List (S50)) (c:Int) (d:Int) (A1:Option Addr) (c1:Nat) (l1:List (List (S64))) (r:Int) (w:World) (u:Kd.C k50 w m b.length b) (v:b.length≤n) (hr1:Kd.C (Kd.slice 64 k64) w A1 l1.length l1) (hc1:l1.length≤c1) (h:zBe.f k b c d l1=some r) :
 Calls Try.prog 44 #[.agg #[.slice m b.length n,.int .i64 c,.int .i64 d],.slice A1 l1.length c1] w fun e w'=>e= .returned (.int .i64 r)∧Below w.heap.size w w':=by
 have ai:=Try.underlying26
 have t:=zA.mk u
 have HC0_0:=zA.mk v
 clear u v
 have HR1:=zA.mk hr1
 have HC1:=zA.mk hc1
 clear hr1 hc1
 have HB:=zA.mk (Below.refl w.heap.size w)
 have H:((zK.f k b c d).bind fun l=>(if l=0 then ((zf.f k b c d).bind fun p=>((zAT.f l1 p).bind fun q=>(if q=true then (some 0) else (some 81)))) else (some l)))=some r:=h
 clear h
 replace H:=Option.bind_eq_some_iff.mp H
 obtain ⟨l,A30,H⟩:=H
 replace H:(if l=0 then ((zf.f k b c d).bind fun p=>((zAT.f l1 p).bind fun q=>(if q=true then (some 0) else (some 81)))) else (some l))=some r:=H
 have A3:=zA.mk A30
 clear A30
 by_cases c4:l=0
 rotate_left
 ·rw [if_neg c4] at H
  have aa:(l == 0)=false:=beq_eq_false_iff_ne.mpr c4
  have ab:(l != 0)=true:=bne_iff_ne.mpr c4
  obtain rfl:=Option.some.inj H
  go_enter Try.func44,Try.ntmps44
  go_wp2_with (first|((with_reducible refine zL (N:=2) rfl ?_);refine bE #[.slice m b.length n,.int .i64 c,.int .i64 d] 26 ?_;intro i hg w22 s hb;have a:=qK (s);have x:=qK (gS hg:w.heap.size≤i);have y:=qK (gS hg:w.heap.size≤i);replace HB:=hQ hb;clear hb s hg;obtain ⟨_,_,_,_,_,_⟩:=xC3 a.out)|((with_reducible refine zH (f:=45) rfl ?_);refine gL (some 7) Try.func45 #[.agg #[.slice m b.length n,.int .i64 c,.int .i64 d]] ?_;(with_reducible refine (zK.calls k _ _ b c d l _ ?side1 ?side2 A3.out).mono ?_);(case side1=>exact cS t.out);(case side2=>exact HC0_0.out);rintro e w24 ⟨rfl,hb⟩;refine ⟨_,rfl,?_⟩;replace a:=bQ a hb;replace HB:=hQ hb))
  go_ret
  exact ⟨eA,bA⟩
 rw [if_pos c4] at H
 have aa:(l == 0)=true:=beq_iff_eq.mpr c4
 have ab:(l != 0)=false:=bne_eq_false_iff_eq.mpr c4
 clear c4
 replace H:=Option.bind_eq_some_iff.mp H
 obtain ⟨p,A50,H⟩:=H
 replace H:((zAT.f l1 p).bind fun q=>(if q=true then (some 0) else (some 81)))=some r:=H
 have A5:=zA.mk A50
 clear A50
 replace H:=Option.bind_eq_some_iff.mp H
 obtain ⟨q,A60,H⟩:=H
 replace H:(if q=true then (some 0) else (some 81))=some r:=H
 have A6:=zA.mk A60
 clear A60
 by_cases c7:q=true
 ·subst c7
  have H1:(some 0)=some r:=by rw [if_pos rfl] at H;exact H
  clear H
  have H:=H1
  clear H1
  obtain rfl:=Option.some.inj H
  go_enter Try.func44,Try.ntmps44
  go_wp2_with (first|((with_reducible refine zL (N:=2) rfl ?_);refine bE #[.slice m b.length n,.int .i64 c,.int .i64 d] 26 ?_;intro i hg w8 s hb;have a:=qK (s);have x:=qK (gS hg:w.heap.size≤i);have y:=qK (gS hg:w.heap.size≤i);replace HB:=hQ hb;clear hb s hg;obtain ⟨_,_,_,_,_,_⟩:=xC3 a.out)|((with_reducible refine zH (f:=45) rfl ?_);refine gL (some 7) Try.func45 #[.agg #[.slice m b.length n,.int .i64 c,.int .i64 d]] ?_;(with_reducible refine (zK.calls k _ _ b c d l _ ?side1 ?side2 A3.out).mono ?_);(case side1=>exact cS t.out);(case side2=>exact HC0_0.out);rintro e w10 ⟨rfl,hb⟩;refine ⟨_,rfl,?_⟩;replace a:=bQ a hb;replace HB:=hQ hb;obtain ⟨_,_,_,_,_,_⟩:=xC3 a.out)|((with_reducible refine zH (f:=67) rfl ?_);refine gL (some 13) Try.func67 #[.agg #[.slice m b.length n,.int .i64 c,.int .i64 d]] ?_;(with_reducible refine (zf.calls k _ _ b c d p _ ?side1 ?side2 A5.out).mono ?_);(case side1=>exact cS t.out);(case side2=>exact HC0_0.out);rintro e w12 ⟨v346,rfl,ho0,hb⟩;refine ⟨_,rfl,?_⟩;have j:=qK (Kd.zC8 (Kd.zCI (ok':=fun k_=>k_≠i) ho0 (fun k_ hk_=>(Kd.zBl (g:=i) (o:=.cells #[.slice m b.length n,.int .i64 c,.int .i64 d] 26 (0,0)) (bX a.out) k_ hk_))) bZ);replace a:=bQ a hb;replace HB:=hQ hb;obtain ⟨ac,ad,ae⟩:=Kd.zDh j.out;subst ae)|((with_reducible refine zH (f:=75) rfl ?_);refine gL (some 14) Try.func75 #[.slice A1 l1.length c1,.slice ac p.length ad,.func (.func 76) #[] #[]] ?_;(with_reducible refine (zAT.calls _ _ l1 _ _ p true _ ?side1 ?side2 ?side3 ?side4 A6.out).mono ?_);(case side1=>exact cS HR1.out);(case side2=>exact HC1.out);(case side3=>repeat (first|exact (Kd.zBm j.out).2.2|(with_reducible refine Kd.zAo ?_ _)|(with_reducible refine Kd.zAl ?_ _)|(with_reducible refine Kd.zA3 ?_)));(case side4=>exact (Kd.zBm j.out).2.1);rintro e w14 ⟨rfl,hb⟩;refine ⟨_,rfl,?_⟩;replace j:=qK (Kd.zBT (nS j.out) hb);replace a:=bQ a hb;replace HB:=hQ hb))
  go_ret
  exact ⟨eA,bA⟩
 replace c7:=Bool.eq_false_iff.mpr c7
 subst c7
 have H1:(some 81)=some r:=by rw [if_neg (show ¬ (false=true) by decide)] at H;exact H
 clear H
 have H:=H1
 clear H1
 obtain rfl:=Option.some.inj H
 go_enter Try.func44,Try.ntmps44
 go_wp2_with (first|((with_reducible refine zL (N:=2) rfl ?_);refine bE #[.slice m b.length n,.int .i64 c,.int .i64 d] 26 ?_;intro i hg w15 s hb;have a:=qK (s);have x:=qK (gS hg:w.heap.size≤i);have y:=qK (gS hg:w.heap.size≤i);replace HB:=hQ hb;clear hb s hg;obtain ⟨_,_,_,_,_,_⟩:=xC3 a.out)|((with_reducible refine zH (f:=45) rfl ?_);refine gL (some 7) Try.func45 #[.agg #[.slice m b.length n,.int .i64 c,.int .i64 d]] ?_;(with_reducible refine (zK.calls k _ _ b c d l _ ?side1 ?side2 A3.out).mono ?_);(case side1=>exact cS t.out);(case side2=>exact HC0_0.out);rintro e w17 ⟨rfl,hb⟩;refine ⟨_,rfl,?_⟩;replace a:=bQ a hb;replace HB:=hQ hb;obtain ⟨_,_,_,_,_,_⟩:=xC3 a.out)|((with_reducible refine zH (f:=67) rfl ?_);refine gL (some 13) Try.func67 #[.agg #[.slice m b.length n,.int .i64 c,.int .i64 d]] ?_;(with_reducible refine (zf.calls k _ _ b c d p _ ?side1 ?side2 A5.out).mono ?_);(case side1=>exact cS t.out);(case side2=>exact HC0_0.out);rintro e w19 ⟨v346,rfl,ho0,hb⟩;refine ⟨_,rfl,?_⟩;have j:=qK (Kd.zC8 (Kd.zCI (ok':=fun k_=>k_≠i) ho0 (fun k_ hk_=>(Kd.zBl (g:=i) (o:=.cells #[.slice m b.length n,.int .i64 c,.int .i64 d] 26 (0,0)) (bX a.out) k_ hk_))) bZ);replace a:=bQ a hb;replace HB:=hQ hb;obtain ⟨af,ag,ah⟩:=Kd.zDh j.out;subst ah)|((with_reducible refine zH (f:=75) rfl ?_);refine gL (some 14) Try.func75 #[.slice A1 l1.length c1,.slice af p.length ag,.func (.func 76) #[] #[]] ?_;(with_reducible refine (zAT.calls _ _ l1 _ _ p false _ ?side1 ?side2 ?side3 ?side4 A6.out).mono ?_);(case side1=>exact cS HR1.out);(case side2=>exact HC1.out);(case side3=>repeat (first|exact (Kd.zBm j.out).2.2|(with_reducible refine Kd.zAo ?_ _)|(with_reducible refine Kd.zAl ?_ _)|(with_reducible refine Kd.zA3 ?_)));(case side4=>exact (Kd.zBm j.out).2.1);rintro e w21 ⟨rfl,hb⟩;refine ⟨_,rfl,?_⟩;replace j:=qK (Kd.zBT (nS j.out) hb);replace a:=bQ a hb;replace HB:=hQ hb))
 go_ret
 exact ⟨eA,bA⟩
end Go.Proofs.Ythimaecnpkcmeaa.K
