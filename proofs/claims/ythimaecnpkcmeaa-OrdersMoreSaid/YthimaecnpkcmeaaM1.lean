/- The law holds for every input: the row, out of the walk of the code and the pure statement on numbers and lists. -/
import Derived.Below
import Derived.ChangeOld
import Derived.OpenShut
import Derived.ProofKit
import Derived.SizedLaws
import Derived.Test.YthimaecnpkcmeaaRows
import Derived.WalkKit
import Derived.Test.YthimaecnpkcmeaaB0
import Derived.Test.YthimaecnpkcmeaaB1
import Derived.Test.YthimaecnpkcmeaaB10
import Derived.Test.YthimaecnpkcmeaaB11
import Derived.Test.YthimaecnpkcmeaaB12
import Derived.Test.YthimaecnpkcmeaaB13
import Derived.Test.YthimaecnpkcmeaaB14
import Derived.Test.YthimaecnpkcmeaaB15
import Derived.Test.YthimaecnpkcmeaaB16
import Derived.Test.YthimaecnpkcmeaaB17
import Derived.Test.YthimaecnpkcmeaaB18
import Derived.Test.YthimaecnpkcmeaaB19
import Derived.Test.YthimaecnpkcmeaaB2
import Derived.Test.YthimaecnpkcmeaaB3
import Derived.Test.YthimaecnpkcmeaaB4
import Derived.Test.YthimaecnpkcmeaaB5
import Derived.Test.YthimaecnpkcmeaaB6
import Derived.Test.YthimaecnpkcmeaaB7
import Derived.Test.YthimaecnpkcmeaaB8
import Derived.Test.YthimaecnpkcmeaaB9
import Derived.Test.YthimaecnpkcmeaaM0
set_option linter.unusedVariables false
set_option linter.unusedSimpArgs false
namespace Go.Proofs.Ythimaecnpkcmeaa.Pure
open Go.RowKit Go.Proofs.Ythimaecnpkcmeaa.K Go.Proofs.YthimaecnpkcmeaaW.PrintWords Go.Proofs.YthimaecnpkcmeaaW.PrintLast Go.Proofs.YthimaecnpkcmeaaW.PrintMore
theorem zFk (l:List S50) (i:Nat) (hi:i < l.length) (x:S50):zBN (l.set i x)=zBN l - l[i].f0.f0+x.f0.f0∧zBE (l.set i x)=zBE l - l[i].f0.f1+x.f0.f1:=by
 induction l generalizing i with
 | nil=>simp at hi
 | cons y ys ih =>
  cases i with
  | zero=>simp [zBN,zBE];omega
  | succ i =>
   have:=ih i (by simpa using hi)
   have a1:zBN (y :: ys)=y.f0.f0+zBN ys:=by simp [zBN]
   have a2:zBE (y :: ys)=y.f0.f1+zBE ys:=by simp [zBE]
   have a3:zBN ((y :: ys).set (i+1) x)=y.f0.f0+zBN (ys.set i x):=by simp [zBN]
   have a4:zBE ((y :: ys).set (i+1) x)=y.f0.f1+zBE (ys.set i x):=by simp [zBE]
   rw [a1,a2,a3,a4,List.getElem_cons_succ]
   omega
theorem zFh (l:List S50) (i j:Int) (x:S50) (hi:0≤i) (hj:0≤j) (h:j≠i):zG (l.set i.toNat x) j=zG l j:=by
 unfold zG
 rw [List.getD_eq_getElem?_getD,List.getD_eq_getElem?_getD,List.getElem?_set_ne (by omega)]
theorem zFi (l:List S50) (i:Int) (x:S50) (hi:0≤i) (h:i < l.length):zG (l.set i.toNat x) i=x:=by
 unfold zG
 rw [List.getD_eq_getElem?_getD,List.getElem?_set_self (by omega)]
 rfl
theorem all_set (l:List S50) (h:l.all okB=true) (i:Nat) (x:S50) (hx:okB x=true):(l.set i x).all okB=true:=by
 rw [List.all_eq_true] at h ⊢
 intro y hy
 rcases List.mem_or_eq_of_mem_set hy with hy|rfl
 ·exact h y hy
 ·exact hx
theorem zFj (l:List S50) (i:Int) (h0:0≤i) (h:i < l.length):zG l i=l[i.toNat]'(by omega):=by
 have:=zDp l i.toNat (by omega)
 rw [Int.toNat_of_nonneg h0] at this
 exact this
theorem zFe (l0:List S50) : ∀ (items:List Int) (p:Int) (l:List S50),l.length=l0.length→l.all okB=true→rightFrom l0.length p items=true→(∀ j ∈ items,zG l j=zG l0 j)→zDw l0 items≤zBE l - zBN l
 | [],p,l,hl,h,_,_=>by have:=zDz l h;simp [zDw];omega
 | i :: is,p,l,hl,h,hr,hs=>by
  obtain ⟨h1,h2,h3,h4⟩:=zCh.1 hr
  have hi:=hs i (by simp)
  have ho:=zER h i h1 (by omega)
  have hg:=gz_bd ho
  have hm:=zB4.1 ho
  let x:S50:=⟨⟨(zG l i).f0.f0,(zG l i).f0.f0⟩,(zG l i).f1,(zG l i).f2⟩
  have hx:okB x=true:=zB4.2 ⟨hm.1,Int.le_refl _,by show (zG l i).f0.f0≤_;omega,hm.2.2.2⟩
  have:=zFe l0 is i (l.set i.toNat x) (by simp [hl]) (all_set l h _ _ hx) h4 (fun j hj=>by
   have:=zCs h4 j hj
   rw [zFh l i j x h1 this.1 (by omega)]
   exact hs j (by simp [hj]))
  have hw:=zFk l i.toNat (by omega) x
  rw [← zFj l i h1 (by omega)] at hw
  have e:zDw l0 (i :: is)=gz (zG l0 i)+zDw l0 is:=by simp [zDw]
  have e1:x.f0.f0=(zG l i).f0.f0:=rfl
  have e2:x.f0.f1=(zG l i).f0.f0:=rfl
  rw [e,← hi]
  omega
end Go.Proofs.Ythimaecnpkcmeaa.Pure
namespace Go.Proofs.Ythimaecnpkcmeaa.Pure
open Go.RowKit Go.Proofs.Ythimaecnpkcmeaa.K Go.Proofs.YthimaecnpkcmeaaW.PrintWords Go.Proofs.YthimaecnpkcmeaaW.PrintLast Go.Proofs.YthimaecnpkcmeaaW.PrintMore
def wd (L U a b s:Int):Int:=mn (U+s) b - mx (L+s) a
def zFc (f:Int→Int):List Int→Int × Int→Int × Int
 | [],st=>st
 | s :: ss,st=>zFc f ss (if f s > st.1 then (f s,s) else st)
theorem zFf (f:Int→Int) : ∀ (l:List Int) (st:Int × Int),st.1≤(zFc f l st).1∧(∀ s ∈ l,f s≤(zFc f l st).1)∧(zFc f l st=st∨((zFc f l st).2 ∈ l∧f (zFc f l st).2=(zFc f l st).1∧st.1 < (zFc f l st).1)) ∧
 (l.Pairwise (·≤·)→st.1 < (zFc f l st).1→∀ s ∈ l,f s=(zFc f l st).1→(zFc f l st).2≤s)
 | [],st=>⟨Int.le_refl _,fun s h=>by simp at h,.inl rfl,fun _ _ s h=>by simp at h⟩
 | s :: ss,st=>by
  simp only [zFc]
  by_cases c:f s > st.1
  ·rw [if_pos c]
   obtain ⟨h1,h2,h3,h4⟩:=zFf f ss (f s,s)
   have h1':f s≤(zFc f ss (f s,s)).1:=h1
   refine ⟨by omega,fun x hx=>?_,.inr ?_,fun hp _ x hx hfx=>?_⟩
   ·rcases List.mem_cons.1 hx with rfl|hx
    ·exact h1'
    ·exact h2 x hx
   ·rcases h3 with h3|⟨h5,h6,h7⟩
    ·rw [h3];exact ⟨by simp,rfl,c⟩
    ·exact ⟨by simp [h5],h6,by have:f s < (zFc f ss (f s,s)).1:=h7;omega⟩
   ·rw [List.pairwise_cons] at hp
    rcases h3 with h3|⟨h5,h6,h7⟩
    ·rw [h3] at hfx ⊢
     show s≤x
     rcases List.mem_cons.1 hx with rfl|hx
     ·exact Int.le_refl _
     ·exact hp.1 x hx
    ·have h7':f s < (zFc f ss (f s,s)).1:=h7
     rcases List.mem_cons.1 hx with rfl|hx
     ·omega
     ·exact h4 hp.2 h7 x hx hfx
  ·rw [if_neg c]
   obtain ⟨h1,h2,h3,h4⟩:=zFf f ss st
   refine ⟨h1,fun x hx=>?_,?_,fun hp hlt x hx hfx=>?_⟩
   ·rcases List.mem_cons.1 hx with rfl|hx
    ·omega
    ·exact h2 x hx
   ·rcases h3 with h3|⟨h5,h6,h7⟩
    ·exact .inl h3
    ·exact .inr ⟨by simp [h5],h6,h7⟩
   ·rw [List.pairwise_cons] at hp
    rcases List.mem_cons.1 hx with rfl|hx
    ·omega
    ·exact h4 hp.2 hlt x hx hfx
theorem zFp (L U g a b:Int) (hL:0≤L∧L≤68719476736) (hU:0≤U∧U≤68719476736) (ha:0≤a∧a≤68719476736) (hb:0≤b∧b≤68719476736) (cs:List Int) (hc : ∀ s ∈ cs,0≤s∧s≤68719476736) (hn:cs.length≤40) : ∀ d i k st,i+d=cs.length→d < k →
 zS.l0 k st.1 st.2 cs cs.length (i:Int) L U g a b=some (zFc (wd L U a b) (cs.drop i) st):=by
 intro d
 induction d with
 | zero =>
  intro i k st hi hk
  obtain ⟨k,rfl⟩:=fuel hk
  simp only [zS.l0]
  rw [if_neg (by omega),List.drop_of_length_le (by omega)]
  rfl
 | succ d ih =>
  intro i k st hi hk
  obtain ⟨k,rfl⟩:=fuel hk
  have hil:i < cs.length:=by omega
  have hs:=hc _ (List.getElem_mem hil)
  simp only [zS.l0,zAE.f,zEM,Option.bind_some]
  rw [if_pos (by omega),if_pos (by omega),if_pos (by omega),zC3 cs i hil,zDC hil (by omega),w64 (x:=L+_) (by omega) (by omega),w64 (x:=U+_) (by omega) (by omega)]
  have hwd:wrap64 (mn (U+cs[i]) b - mx (L+cs[i]) a)=wd L U a b cs[i]:=by
   unfold wd
   exact w64 (by unfold mn mx;omega) (by unfold mn mx;omega)
  rw [hwd,List.drop_eq_getElem_cons hil]
  simp only [zFc]
  by_cases c:wd L U a b cs[i] > st.1
  ·rw [if_pos c,if_pos c]
   exact ih (i+1) k (wd L U a b cs[i],cs[i]) (by omega) (by omega)
  ·rw [if_neg c,if_neg c]
   exact ih (i+1) k st (by omega) (by omega)
def Wc (L H a b g:Int):Int:=mn (mn (H - L - g) (b - a)) (mn (b - L) (H - a))
theorem zFs (L H a b g:Int) (hL:0≤L) (hH:H≤34359738368) (hg:0≤g) (hgw:g≤H - L) (ha:0≤a) (hab:a≤b) (hb:b≤34359738368) (h1:L≤b) (h2:a≤H) (k:Nat) (hk:20 < k) :
 ∃ s,zS.f k L (H - g) g a b=some (Wc L H a b g,s)∧mx 0 (a - (H - g))≤s∧s≤mn g (b - L)∧wd L (H - g) a b s=Wc L H a b g ∧
  (∀ c,c=mx 0 (a - (H - g))∨c=mn g (b - L)∨c=mn (mx (a - L) (mx 0 (a - (H - g)))) (mn g (b - L))∨c=mn (mx (b - (H - g)) (mx 0 (a - (H - g)))) (mn g (b - L))→wd L (H - g) a b c=Wc L H a b g→s≤c):=by
 unfold zS.f
 simp only [zAM.f,Option.bind_some]
 rw [w64 (x:=a - (H - g)) (by omega) (by omega),w64 (x:=b - L) (by omega) (by omega),w64 (x:=a - L) (by omega) (by omega),w64 (x:=b - (H - g)) (by omega) (by omega)]
 generalize hlo:mx 0 (a - (H - g))=lo
 generalize hhi:mn g (b - L)=hi
 have hlh:0≤lo∧lo≤hi∧hi≤g:=by rw [← hlo,← hhi];unfold mx mn;omega
 have hsort:slices_Sort_int.f [lo,hi,mn (mx (a - L) lo) hi,mn (mx (b - (H - g)) lo) hi]=some (zDS (fun x y=>decide (x≤y)) [lo,hi,mn (mx (a - L) lo) hi,mn (mx (b - (H - g)) lo) hi]):=rfl
 rw [hsort]
 simp only [Option.bind_some]
 generalize hcs:zDS (fun x y:Int=>decide (x≤y)) [lo,hi,mn (mx (a - L) lo) hi,mn (mx (b - (H - g)) lo) hi]=cs
 have hperm:cs.Perm [lo,hi,mn (mx (a - L) lo) hi,mn (mx (b - (H - g)) lo) hi]:=by rw [← hcs];exact zDa _ _
 have hpw:cs.Pairwise (·≤·):=by
  have:=zCc (le:=fun x y:Int=>decide (x≤y)) (fun a b c h1 h2=>by simp at *;omega) (fun a b=>by simp;omega) [lo,hi,mn (mx (a - L) lo) hi,mn (mx (b - (H - g)) lo) hi]
  rw [hcs] at this
  exact this.imp (fun h=>by simpa using h)
 have hmem : ∀ c,c ∈ cs↔c=lo∨c=hi∨c=mn (mx (a - L) lo) hi∨c=mn (mx (b - (H - g)) lo) hi:=fun c=>by rw [hperm.mem_iff];simp
 have hlen:cs.length=4:=by rw [hperm.length_eq];rfl
 have hbd : ∀ c ∈ cs,lo≤c∧c≤hi:=fun c hc=>by
  rcases (hmem c).1 hc with rfl|rfl|rfl|rfl <;> ((try unfold mn);(try unfold mx);omega)
 have hl0:=zFp L (H - g) g a b (by omega) (by omega) (by omega) (by omega) cs (fun s hs=>by have:=hbd s hs;omega) (by omega) cs.length 0 k (-1,0) (by omega) (by omega)
 rw [Int.natCast_zero,List.drop_zero] at hl0
 have hlen2:(([lo,hi,mn (mx (a - L) lo) hi,mn (mx (b - (H - g)) lo) hi]:List Int).length:Int)=cs.length:=by rw [hlen];rfl
 rw [hlen2,hl0]
 obtain ⟨s1,s2,s3,s4⟩:=zFf (wd L (H - g) a b) cs (-1,0)
 -- no place is wider;one is as wide
 have hub : ∀ c,lo≤c→c≤hi→wd L (H - g) a b c≤Wc L H a b g:=by
  intro c h3 h4
  rw [← hhi] at h4
  rw [← hlo] at h3
  unfold wd Wc
  unfold mx at h3 ⊢
  unfold mn at h4 ⊢
  omega
 have hat:wd L (H - g) a b (mn (mx (a - L) lo) hi)=Wc L H a b g:=by
  rw [← hlo,← hhi]
  unfold wd Wc mx mn
  omega
 have hW0:0≤Wc L H a b g:=by unfold Wc mn;omega
 have hm3:=s2 _ ((hmem _).2 (.inr (.inr (.inl rfl))))
 rw [hat] at hm3
 rcases s3 with s3|⟨s5,s6,s7⟩
 ·rw [s3] at hm3
  have:Wc L H a b g≤-1:=hm3
  omega
 ·have hb2:=hbd _ s5
  have hle:=hub _ hb2.1 hb2.2
  have heq:(zFc (wd L (H - g) a b) cs (-1,0)).1=Wc L H a b g:=by omega
  refine ⟨(zFc (wd L (H - g) a b) cs (-1,0)).2,by rw [← heq],hb2.1,hb2.2,by rw [s6,heq],fun c hc hwc=>?_⟩
  exact s4 hpw s7 c ((hmem c).2 hc) (by rw [hwc,heq])
theorem worst_eq (l:List S50) (a b:Int) (items:List Int) (hv:zCB l a b=true) (hr:rightFrom l.length (-1) items=true) (k:Nat) (hk:100 < k):zAd.f k l a b items=some (Wc (zBN l) (zBE l) a b (zDw l items)):=by
 have hv:=zDm.1 hv
 have hok:=hv.2.2.2.2.2.1
 have hs:=zDz l hok
 have hm : ∀ j ∈ items,0≤j∧j < (l.length:Int):=fun j hj=>by have:=zCs hr j hj;omega
 have hn:=zCY hr (by omega) (by omega)
 have hg:=zFE l hok items hm
 have hgw:=zFe l items (-1) l rfl hok hr (fun _ _=>rfl)
 unfold zAd.f
 rw [gains_eq l a b hok items hm (by omega) k (by omega)]
 simp only [Option.bind_some]
 rw [zE0 l hok items hm (by omega) k (by omega)]
 simp only [Option.bind_some]
 rw [zEv l a b _ hok hv.2.1 k (by omega) (by omega) (by omega)]
 simp only [Option.bind_some]
 obtain ⟨s,e,_⟩:=zFs (zBN l) (zBE l) a b (zDw l items) (by omega) (by omega) (by omega) (by omega) (by omega) (by omega) (by omega) (by omega) (by omega) k (by omega)
 rw [e]
 rfl
theorem zFg (l:List S50) (a b:Int) (items:List Int) (hn:items.length≤9223372036854775807) (k:Nat) (hk:100+items.length < k) (hv:zCB l a b=true) (hr:rightFrom l.length (-1) items=true):zCD.f k l a b items=some (Wc (zBN l) (zBE l) a b (zDw l items),0):=by
 unfold zCD.f
 rw [right_eq l a b items hn k (by omega)]
 simp only [Option.bind_some,hv,hr,if_true]
 rw [worst_eq l a b items hv hr k (by omega)]
 rfl
theorem Wc_mono {L H a b g g':Int} (h:g≤g'):Wc L H a b g'≤Wc L H a b g:=by unfold Wc mn;omega
end Go.Proofs.Ythimaecnpkcmeaa.Pure
namespace Go.Proofs.Ythimaecnpkcmeaa.Pure
open Go.RowKit Go.Proofs.Ythimaecnpkcmeaa.K Go.Proofs.YthimaecnpkcmeaaW.PrintWords Go.Proofs.YthimaecnpkcmeaaW.PrintLast Go.Proofs.YthimaecnpkcmeaaW.PrintMore
theorem index_l0 (x:List Int) (v:Int) (hn:x.length≤9223372036854775807) : ∀ d i k,i+d=x.length→d < k→∃ r,zFa.l0 k x v x.length (i:Int)=some r∧(0≤r↔v ∈ x.drop i):=by
 intro d
 induction d with
 | zero =>
  intro i k hi hk
  obtain ⟨k,rfl⟩:=fuel hk
  simp only [zFa.l0]
  rw [if_neg (by omega),List.drop_of_length_le (by omega)]
  exact ⟨-1,rfl,by simp⟩
 | succ d ih =>
  intro i k hi hk
  obtain ⟨k,rfl⟩:=fuel hk
  have hil:i < x.length:=by omega
  simp only [zFa.l0]
  rw [if_pos (by omega),if_pos (by omega),if_pos (by omega),zC3 x i hil,zDC hil hn,List.drop_eq_getElem_cons hil]
  by_cases c:v=x[i]
  ·rw [if_pos c]
   exact ⟨i,rfl,⟨fun _=>by rw [c];exact List.mem_cons_self,fun _=>by omega⟩⟩
  ·rw [if_neg c]
   obtain ⟨r,e,hr⟩:=ih (i+1) k (by omega) (by omega)
   exact ⟨r,e,by rw [hr,List.mem_cons];exact ⟨.inr,fun h=>h.resolve_left c⟩⟩
theorem zFl (x:List Int) (v:Int) (hn:x.length≤9223372036854775807) (k:Nat) (hk:x.length < k):zFb.f k x v=some (decide (v ∈ x)):=by
 obtain ⟨r,e,hr⟩:=index_l0 x v hn x.length 0 k (by omega) (by omega)
 unfold zFb.f zFa.f
 rw [Int.natCast_zero] at e
 rw [e]
 simp only [Option.bind_some]
 rw [List.drop_zero] at hr
 congr 1
 exact decide_eq_decide.2 hr
end Go.Proofs.Ythimaecnpkcmeaa.Pure
namespace Go.Proofs.Ythimaecnpkcmeaa.Pure
open Go.RowKit Go.Proofs.Ythimaecnpkcmeaa.K Go.Proofs.YthimaecnpkcmeaaW.PrintWords Go.Proofs.YthimaecnpkcmeaaW.PrintLast Go.Proofs.YthimaecnpkcmeaaW.PrintMore
theorem rightFrom_lt (n:Int) : ∀ (q:List Int) (p:Int),(∀ x ∈ q,0≤x∧x < n∧p < x)→q.Pairwise (· < ·)→rightFrom n p q=true
 | [],_,_,_=>rfl
 | x :: xs,p,h,hp=>by
  have h1:=h x (by simp)
  rw [List.pairwise_cons] at hp
  exact zCh.2 ⟨h1.1,h1.2.1,h1.2.2,rightFrom_lt n xs x (fun y hy=>⟨(h y (by simp [hy])).1,(h y (by simp [hy])).2.1,hp.1 y hy⟩) hp.2⟩
theorem zFd {n:Int} : ∀ {q:List Int} {p:Int},rightFrom n p q=true→q.Pairwise (· < ·)
 | [],_,_=>.nil
 | x :: xs,p,h=>by
  obtain ⟨h1,h2,h3,h4⟩:=zCh.1 h
  exact List.pairwise_cons.2 ⟨fun y hy=>(zCs h4 y hy).2.2,zFd h4⟩
theorem zFq (l:List S50) {x y:List Int} (h:x.Perm y):zDw l x=zDw l y:=by
 unfold zDw
 induction h with
 | nil=>rfl
 | cons z _ ih=>simp only [List.map_cons,List.sum_cons,ih]
 | swap z u _=>simp only [List.map_cons,List.sum_cons];omega
 | trans _ _ ih1 ih2=>rw [ih1,ih2]
theorem zFo (l l':List S50) : ∀ (items:List Int),(∀ j ∈ items,gz (zG l j)≤gz (zG l' j))→zDw l items≤zDw l' items
 | [],_=>Int.le_refl _
 | i :: is,h=>by
  have h1:=h i (by simp)
  have h2:=zFo l l' is fun j hj=>h j (by simp [hj])
  have e1:zDw l (i :: is)=gz (zG l i)+zDw l is:=by simp [zDw]
  have e2:zDw l' (i :: is)=gz (zG l' i)+zDw l' is:=by simp [zDw]
  omega
theorem zFn (l:List S50) (a b low high g g':Int) (h0:0≤g) (hg:g≤g') (hw:g'≤zBE l - zBN l) (hlh:zBN l≤zBE l) (h:(openS l a b g low high).isNone=true):(openS l a b g' low high).isNone=true:=by
 cases hS:openS l a b g' low high with
 | none=>rfl
 | some s =>
  exfalso
  have hO:0≤s∧s≤g'∧s≤b - zBN l∧a - (zBE l - g')≤s∧low+1 - (zBE l - g')≤s∧mx (zBN l+s) a < high∧low < mn (zBE l - g'+s) b:=by
   unfold openS at hS
   split at hS
   ·cases hS
   ·rename_i q1
    split at hS
    ·cases hS
    ·rename_i q2
     split at hS
     ·cases hS
     ·rename_i q3
      cases hS
      generalize low+1 - (zBE l - g')=z at q1 q2 q3 ⊢
      refine ⟨?_,?_,?_,?_,?_,by omega,by omega⟩ <;> (unfold mx mn at *;omega)
  obtain ⟨o1,o2,o3,o4,o5,o6,o7⟩:=hO
  unfold openS at h
  split at h
  ·rename_i u1
   unfold mx mn at *
   omega
  ·split at h
   ·rename_i u2
    unfold mx mn at *
    omega
   ·split at h
    ·rename_i u3
     unfold mx mn at *
     omega
    ·cases h
theorem zFr {L H a b g:Int} (h1:g≤H - L) (h2:a≤b) (h3:L≤b) (h4:a≤H):0≤Wc L H a b g:=by unfold Wc mn;omega
theorem zFt {L H a b a' b' g g':Int} (h1:g≤g') (h2:a≤a') (h3:b'≤b):Wc L H a' b' g'≤Wc L H a b g:=by unfold Wc mn;omega
theorem zFm (l:List S50) (a b:Int) (items:List Int) (more low high item less w0 w1:Int) (h1:items.length≤9223372036854775807) : ∃ k,zFZ.f k l a b items more low high item less w0 w1=some true:=by
 obtain ⟨k,hk⟩ : ∃ k,k=1000+items.length:=⟨_,rfl⟩
 refine ⟨k+1,?_⟩
 unfold zFZ.f
 have hsane:zCR.f=some true:=rfl
 rw [hsane]
 simp only [Option.bind_some,if_true]
 rw [refValid_eq l a b (k+1) (by omega)]
 simp only [Option.bind_some]
 have hj:zFZ.j0 (k+1) items more low high item less true l a b w0 w1=some true:=by simp [zFZ.j0]
 by_cases hv:zCB l a b=true
 rotate_left
 ·rw [if_neg hv];exact hj
 rw [if_pos hv,refRight_eq l a b items h1 (k+1) (by omega)]
 simp only [Option.bind_some]
 by_cases hr:rightFrom l.length (-1) items=true
 rotate_left
 ·rw [if_neg hr];exact hj
 rw [if_pos hr]
 by_cases c1:more < 0
 ·rw [if_pos c1];exact hj
 rw [if_neg c1]
 by_cases c2:more≥(l.length:Int)
 ·rw [if_pos c2];exact hj
 rw [if_neg c2,zFl items more h1 (k+1) (by omega)]
 simp only [Option.bind_some]
 by_cases c3:more ∈ items
 ·rw [decide_eq_true c3];exact hj
 rw [decide_eq_false c3]
 have hv':=zDm.1 hv
 have hok:=hv'.2.2.2.2.2.1
 have hsb:=zDz l hok
 have hm : ∀ j ∈ items,0≤j∧j < (l.length:Int):=fun j hj=>by have:=zCs hr j hj;omega
 have hnl:=zCY hr (by omega) (by omega)
 have hg:=zFE l hok items hm
 have hgw:=zFe l items (-1) l rfl hok hr (fun _ _=>rfl)
 -- the list with the further item
 obtain ⟨q,hq⟩ : ∃ q,zDS (fun x y:Int=>decide (x≤y)) (items ++ [more])=q:=⟨_,rfl⟩
 have hperm:q.Perm (items ++ [more]):=by rw [← hq];exact zDa _ _
 have hqle:q.Pairwise (·≤·):=by
  have:=zCc (le:=fun x y:Int=>decide (x≤y)) (fun a b c h1 h2=>by simp at *;omega) (fun a b=>by simp;omega) (items ++ [more])
  rw [hq] at this
  exact this.imp (fun h=>by simpa using h)
 have hnd:(items ++ [more]).Nodup:=by
  rw [List.nodup_append]
  refine ⟨(zFd hr).imp (fun h=>by omega),by simp,fun x hx y hy=>?_⟩
  rw [List.mem_singleton] at hy
  subst hy
  exact fun e=>c3 (e ▸ hx)
 have hqnd:q.Nodup:=hperm.nodup_iff.2 hnd
 have hqlt:q.Pairwise (· < ·):=(hqle.and hqnd).imp (fun h=>by have h1:=h.1;have h2:=h.2;omega)
 have hqr:rightFrom l.length (-1) q=true:=rightFrom_lt _ q (-1) (fun x hx=>by
  have:=hperm.mem_iff.1 hx
  rcases List.mem_append.1 this with h|h
  ·have:=hm x h;omega
  ·rw [List.mem_singleton] at h;omega) hqlt
 have hqlen:q.length=items.length+1:=by rw [hperm.length_eq];simp
 have hqm : ∀ j ∈ q,0≤j∧j < (l.length:Int):=fun j hj=>by have:=zCs hqr j hj;omega
 have hqg:=zFE l hok q hqm
 have hqw:=zFe l q (-1) l rfl hok hqr (fun _ _=>rfl)
 have hgz:=gz_bd (zER hok more (by omega) (by omega))
 have hgq:zDw l q=zDw l items+gz (zG l more):=by rw [zFq l hperm];simp [zDw]
 have hgle:zDw l items≤zDw l q:=by omega
 simp only [zFZ.j0,Bool.false_eq_true,if_false,slices_Clone_int.f]
 rw [if_pos (by omega)]
 simp only [Option.bind_some]
 rw [if_pos (by omega)]
 have hsort:slices_Sort_int.f (items ++ [more])=some q:=by
  unfold slices_Sort_int.f
  rw [if_pos (by simp;omega),hq]
 rw [hsort]
 simp only [Option.bind_some]
 rw [zFg l a b items h1 k (by omega) hv hr,zFg l a b q (by omega) k (by omega) hv hqr]
 simp only [Option.bind_some,if_true]
 have hW:=Wc_mono (L:=zBN l) (H:=zBE l) (a:=a) (b:=b) hgle
 have hW0:=zFr (L:=zBN l) (H:=zBE l) (a:=a) (b:=b) (g:=zDw l q) hqw (by omega) (by omega) (by omega)
 rw [if_neg (by omega),decide_eq_false (show ¬ Wc (zBN l) (zBE l) a b (zDw l q) < 0 by omega)]
 obtain ⟨k,rfl⟩:=fuel (show 0 < k by omega)
 obtain ⟨k,rfl⟩:=fuel (show 0 < k by omega)
 obtain ⟨k,rfl⟩:=fuel (show 0 < k by omega)
 obtain ⟨k,rfl⟩:=fuel (show 0 < k by omega)
 obtain ⟨k,rfl⟩:=fuel (show 0 < k by omega)
 -- the last part: a lesser error,a narrower whole
 have h5 : ∀ (p:List S50) (k':Nat),500+items.length < k'→p.length=l.length→(zCB p (mx a w0) (mn b w1)=true→zBN p=zBN l∧zBE p=zBE l∧zDw l items≤zDw p items) →
  zFZ.j5 (k'+1) items (Wc (zBN l) (zBE l) a b (zDw l items)) l a b w0 w1 p a b=some true:=by
  intro p k' hk' hpl hp
  simp only [zFZ.j5]
  rw [refValid_eq p _ _ k' (by omega)]
  simp only [Option.bind_some]
  by_cases hvp:zCB p (mx a w0) (mn b w1)=true
  ·obtain ⟨p1,p2,p3⟩:=hp hvp
   rw [if_pos hvp,zFg p _ _ items h1 k' (by omega) hvp (by rw [hpl];exact hr)]
   simp only [Option.bind_some,if_true]
   rw [p1,p2]
   congr 1
   exact decide_eq_true (zFt p3 (by unfold mx;omega) (by unfold mn;omega))
  ·rw [if_neg hvp]
 have h3 : ∀ k',500+items.length < k'→zFZ.j3 (k'+1+1+1) items item less (Wc (zBN l) (zBE l) a b (zDw l items)) l a b w0 w1=some true:=by
  intro k' hk'
  have hplain:zFZ.j4 (k'+1+1) items item less (Wc (zBN l) (zBE l) a b (zDw l items)) false l a b w0 w1 l a b=some true:=by
   simp only [zFZ.j4,Bool.false_eq_true,if_false]
   exact h5 l k' hk' rfl (fun _=>⟨rfl,rfl,Int.le_refl _⟩)
  rw [zFZ.j3]
  unfold zAy.f
  rw [if_pos (by omega)]
  simp only [Option.bind_some]
  by_cases d1:item≥0
  rotate_left
  ·rw [if_neg d1];exact hplain
  rw [if_pos d1]
  by_cases d2:item < (l.length:Int)
  rotate_left
  ·rw [if_neg d2];exact hplain
  rw [if_pos d2]
  by_cases d3:less≥0
  rotate_left
  ·rw [if_neg d3];exact hplain
  rw [if_pos d3,if_pos (by omega)]
  by_cases d4:less≤(zG l item).f2
  rotate_left
  ·rw [decide_eq_false d4];exact hplain
  rw [decide_eq_true d4]
  simp only [zFZ.j4,if_true]
  rw [if_pos (by omega),if_pos d2]
  refine h5 _ k' hk' (by simp) (fun _=>?_)
  have hw:=zFk l item.toNat (by omega) ⟨⟨(zG l item).f0.f0,(zG l item).f0.f1⟩,(zG l item).f1,less⟩
  rw [← zFj l item (by omega) d2] at hw
  refine ⟨by rw [hw.1];show _ - _+(zG l item).f0.f0=_;omega,by rw [hw.2];show _ - _+(zG l item).f0.f1=_;omega,zFo _ _ items (fun j hj=>?_)⟩
  by_cases hji:j=item
  ·subst hji
   rw [zFi l j _ (by omega) d2]
   unfold gz mx
   simp only
   omega
  ·rw [zFh l item j _ (by omega) (hm j hj).1 hji]
   exact Int.le_refl _
 have h2 : ∀ t,(t=true→low < high∧-1099511627776≤low∧high≤1099511627776)→zFZ.j2 (k+1+1+1+1) items low high item less q (Wc (zBN l) (zBE l) a b (zDw l items)) t l a b w0 w1=some true:=by
  intro t ht
  simp only [zFZ.j2]
  cases t with
  | false=>rw [if_neg (by simp)];exact h3 k (by omega)
  | true =>
   obtain ⟨t1,t2,t3⟩:=ht rfl
   rw [if_pos rfl,decides_eq l a b low high items h1 (k+1+1+1) (by omega) hv hr t2 t1 t3,decides_eq l a b low high q (by omega) (k+1+1+1) (by omega) hv hqr t2 t1 t3]
   simp only [Option.bind_some,if_true]
   by_cases c:(openS l a b (zDw l items) low high).isNone=true
   ·rw [if_pos c,if_pos (zFn l a b low high _ _ hg.1 hgle hqw hsb.2.1 c)]
    exact h3 k (by omega)
   ·rw [if_neg c]
    exact h3 k (by omega)
 simp only [zFZ.j1,Bool.false_eq_true,if_false]
 by_cases d1:low < high
 ·rw [if_pos d1]
  by_cases d2:low≥-1099511627776
  ·rw [if_pos d2]
   exact h2 _ (fun h=>⟨d1,d2,of_decide_eq_true h⟩)
  ·rw [if_neg d2]
   exact h2 _ (fun h=>by cases h)
 ·rw [if_neg d1]
  exact h2 _ (fun h=>by cases h)
end Go.Proofs.Ythimaecnpkcmeaa.Pure
namespace Go.Proofs.Ythimaecnpkcmeaa.ordersMore
open Go.ChangeShapes Go.WideShapes Go.ChangeAt Go.RowKit Go.Proofs.Ythimaecnpkcmeaa.K Go.Proofs.YthimaecnpkcmeaaW.PrintWords
set_option linter.unusedVariables false
set_option maxRecDepth 100000 in
theorem open24 {H:Type} {enc:TypeId × Value→H} {W:World} {base b0:Nat} {spare:Nat→Bool} {held:Bool} {r:Reach} {v:Value} {d:DataW H} {p:List MemPlace} (hv:Value.okWide Try.prog W r b0 24 v) (h:DataW.Trod enc Try.prog W base spare held 24 v d p) :
 ∃ a b:Int,v= .agg #[.int .i64 a,.int .i64 b]:=by
 obtain ⟨cs,rfl,hsz⟩:=okWide_struct Try.underlying24 hv
 obtain ⟨fuel,hf⟩:=h
 obtain ⟨s,hs⟩:=zFG _ _ _ _ _ _ _ _ _ hf
 have h2:=zDt hs
 obtain ⟨cs⟩:=cs
 have h3:cs=[.int .i64 s.f0,.int .i64 s.f1]:=by simpa [Value.cells] using h2
 subst h3
 exact ⟨s.f0,s.f1,rfl⟩
theorem own:ownKnob Try.prog.godebug=none:=by kernel_rfl
theorem laidOut:laidOutB Try.prog=true:=by kernel_rfl
set_option maxRecDepth 100000 in
theorem lifted (os:Os) (started:os.Started) (H:Type) (enc:TypeId × Value→H) :
 ReturnsInHanded {} Try.checked os 4 .any (Rows.ordersMoreSpec.pre6 enc Try.prog Try.f4 Rows.ordersMoreRow.domain false) (Rows.ordersMoreSpec.post enc Try.prog Try.f4 false true false false):=by
 refine returnsInHanded_of_change_sized (C:=Try.checked) own started (by kernel_rfl) Try.func4
  (ChangeSpec.witness6 (enc:=enc) (C:=Try.checked) false ⟨#[],#[.agg #[.slice none 0 0,.int .i64 0,.int .i64 0],.slice none 0 0,.int .i64 0,.int .i64 0,.int .i64 0,.int .i64 0,.int .i64 0,.agg #[.int .i64 0,.int .i64 0]],[]⟩ 8 (by kernel_rfl) (by kernel_rfl) (by kernel_rfl) (by kernel_rfl)) ?_
 intro W base args ds gs before hval0 hW hcnd hsz0 _
 have hval : ∀ (j:Nat) t v,Try.f4.params[j]? = some t→args[j]? = some v→Value.okWide Try.prog W .any base t v:=hval0
 have hW':=hW
 obtain ⟨p,q,hA0,hV,rfl,hfz,hnd⟩:=hW
 have hA:DataW.TrodAll enc Try.prog W 0 (fun _=>true) true Try.f4.params.toList args.toList ds p:=hA0
 rw [Try.params4] at hA hval
 obtain ⟨v0,vs0,d0,ds0,p0,q0,hargs,rfl,rfl,h0,r0⟩:=trodAll_cons hA
 obtain ⟨v1,vs1,d1,ds1,p1,q1,rfl,rfl,rfl,h1,r1⟩:=trodAll_cons r0
 obtain ⟨v2,vs2,d2,ds2,p2,q2,rfl,rfl,rfl,h2,r2⟩:=trodAll_cons r1
 obtain ⟨v3,vs3,d3,ds3,p3,q3,rfl,rfl,rfl,h3,r3⟩:=trodAll_cons r2
 obtain ⟨v4,vs4,d4,ds4,p4,q4,rfl,rfl,rfl,h4,r4⟩:=trodAll_cons r3
 obtain ⟨v5,vs5,d5,ds5,p5,q5,rfl,rfl,rfl,h5,r5⟩:=trodAll_cons r4
 obtain ⟨v6,vs6,d6,ds6,p6,q6,rfl,rfl,rfl,h6,r6⟩:=trodAll_cons r5
 obtain ⟨v7,vs7,d7,ds7,p7,q7,rfl,rfl,rfl,h7,r7⟩:=trodAll_cons r6
 obtain ⟨rfl,rfl,rfl⟩:=trodAll_nil r7
 obtain rfl:args=#[v0,v1,v2,v3,v4,v5,v6,v7]:=by cases args;simp_all
 obtain ⟨rfl,rfl⟩:=trodVars_none hV
 have k0:=h0
 have lt0 : ∀ x ∈ p0,x.block < W.heap.size:=by obtain ⟨m,hm⟩:=k0;exact DataW.trod_lt m _ _ _ hm
 obtain ⟨A0,c0,l0,a0_1,a0_2,rfl,e0,g0⟩:=open26 (hval 0 26 v0 rfl rfl) h0
 have k1:=h1
 have lt1 : ∀ x ∈ p1,x.block < W.heap.size:=by obtain ⟨m,hm⟩:=k1;exact DataW.trod_lt m _ _ _ hm
 obtain ⟨A1,c1,l1,rfl,e1,g1⟩:=open27 (hval 1 27 v1 rfl rfl) h1
 obtain ⟨a2,rfl,rfl,rfl,w2⟩:=open_int Try.underlying3 (hval 2 3 v2 rfl rfl) h2
 obtain ⟨a3,rfl,rfl,rfl,w3⟩:=open_int Try.underlying3 (hval 3 3 v3 rfl rfl) h3
 obtain ⟨a4,rfl,rfl,rfl,w4⟩:=open_int Try.underlying3 (hval 4 3 v4 rfl rfl) h4
 obtain ⟨a5,rfl,rfl,rfl,w5⟩:=open_int Try.underlying3 (hval 5 3 v5 rfl rfl) h5
 obtain ⟨a6,rfl,rfl,rfl,w6⟩:=open_int Try.underlying3 (hval 6 3 v6 rfl rfl) h6
 have k7:=h7
 have lt7 : ∀ x ∈ p7,x.block < W.heap.size:=by obtain ⟨m,hm⟩:=k7;exact DataW.trod_lt m _ _ _ hm
 obtain ⟨a7_0,a7_1,rfl⟩:=open24 (hval 7 24 v7 rfl rfl) h7
 clear hA0 hval0 hsz0
 obtain ⟨k,hk⟩:=Pure.zFm l0 a0_1 a0_2 l1 a2 a3 a4 a5 a6 a7_0 a7_1 e1.2.1
 refine (K.zFZ.calls k A0 c0 l0 a0_1 a0_2 A1 c1 l1 a2 a3 a4 a5 a6 a7_0 a7_1 true W e0 g0 e1 g1 hk).mono fun e W' ⟨he,bel⟩=>?_
 subst he
 exact ⟨_,rfl,_,_,_,[],_,[],hW',trodAll_mk1 (shut_bool Try.underlying4 _),(trodAll_cons_mk (Below.trod laidOut (by kernel_rfl) (of_decide_eq_true (by kernel_rfl)) k0 bel lt0) (trodAll_cons_mk (Below.trod laidOut (by kernel_rfl) (of_decide_eq_true (by kernel_rfl)) k1 bel lt1) (trodAll_cons_mk (shut_int Try.underlying3 w2) (trodAll_cons_mk (shut_int Try.underlying3 w3) (trodAll_cons_mk (shut_int Try.underlying3 w4) (trodAll_cons_mk (shut_int Try.underlying3 w5) (trodAll_cons_mk (shut_int Try.underlying3 w6) (trodAll_cons_mk (Below.trod laidOut (by kernel_rfl) (of_decide_eq_true (by kernel_rfl)) k7 bel lt7) trodAll_mk0)))))))),rfl,bel.frame _,fun h=>by cases h⟩
theorem over:Rows.ordersMoreRow.holds Try.pinned (OpenSpec.ofChange Rows.ordersMoreSpec) :=
 OpenClaim.holds_of_wide 4 Try.f4 rfl rfl rfl rfl rfl rfl rfl ⟨rfl,rfl,rfl,rfl,rfl⟩ rfl rfl rfl rfl rfl (by kernel_rfl) Try.func4 (by kernel_rfl)
  (of_decide_eq_true (by kernel_rfl)) (by unfold Func.isWrapper;first|(rw [if_pos (by decide +kernel)];kernel_rfl)|(rw [if_neg (by decide +kernel)];exact ⟨rfl,rfl⟩))
  (fun os started H enc _=>lifted os started H enc)
theorem proved:Rows.OrdersMoreSaid:=over
#print axioms proved
end Go.Proofs.Ythimaecnpkcmeaa.ordersMore
namespace Go.Proofs.Ythimaecnpkcmeaa
theorem ordersMore_holds:Rows.OrdersMoreSaid:=ordersMore.proved
end Go.Proofs.Ythimaecnpkcmeaa
