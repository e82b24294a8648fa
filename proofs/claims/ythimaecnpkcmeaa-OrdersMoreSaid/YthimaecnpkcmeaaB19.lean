/- Contracts of Go functions and lemmas for them: each theorem states what one function returns and what it leaves of memory; its conditions stand in its statement. -/
import Derived.Test.YthimaecnpkcmeaaB10
import Derived.Test.YthimaecnpkcmeaaB11
import Derived.Test.YthimaecnpkcmeaaB12
import Derived.Test.YthimaecnpkcmeaaB13
import Derived.Test.YthimaecnpkcmeaaB14
import Derived.Test.YthimaecnpkcmeaaB15
import Derived.Test.YthimaecnpkcmeaaB16
import Derived.Test.YthimaecnpkcmeaaB17
import Derived.Test.YthimaecnpkcmeaaB18
import Derived.Test.YthimaecnpkcmeaaB3
import Derived.Test.YthimaecnpkcmeaaB4
import Derived.Test.YthimaecnpkcmeaaB5
import Derived.Test.YthimaecnpkcmeaaB6
import Derived.Test.YthimaecnpkcmeaaB7
import Derived.Test.YthimaecnpkcmeaaB8
import Derived.Test.YthimaecnpkcmeaaB9
set_option linter.unusedVariables false
set_option linter.unusedSimpArgs false
namespace Go.Proofs.Ythimaecnpkcmeaa.Pure
open Go.RowKit Go.Proofs.Ythimaecnpkcmeaa.K Go.Proofs.YthimaecnpkcmeaaW.PrintWords Go.Proofs.YthimaecnpkcmeaaW.PrintLast Go.Proofs.YthimaecnpkcmeaaW.PrintMore
theorem w64 {x:Int} (h0 : -9223372036854775808≤x) (h1:x < 9223372036854775808):wrap64 x=x:=by unfold wrap64;omega
theorem fuel {d k:Nat} (h:d < k) : ∃ m,k=m+1:=⟨k - 1,by omega⟩
def zBN (l:List S50):Int:=(l.map fun x=>x.f0.f0).sum
def zBE (l:List S50):Int:=(l.map fun x=>x.f0.f1).sum
def okB (x:S50):Bool:=decide (0≤x.f0.f0) && (decide (x.f0.f0≤x.f0.f1) && (decide (x.f0.f1≤1073741824) && (decide (0≤x.f1) && (decide (x.f1≤10000) && (decide (0≤x.f2) && decide (x.f2≤1048576))))))
theorem zB4 {x:S50}:okB x=true↔0≤x.f0.f0∧x.f0.f0≤x.f0.f1∧x.f0.f1≤1073741824∧0≤x.f1∧x.f1≤10000∧0≤x.f2∧x.f2≤1048576:=by simp [okB]
theorem zDp (l:List S50) (i:Nat) (h:i < l.length):zG l (i:Int)=l[i]:=by
 unfold zG;simp [List.getD_eq_getElem?_getD,h]
theorem zC3 (l:List Int) (i:Nat) (h:i < l.length):rd l (i:Int)=l[i]:=by
 unfold rd;simp [List.getD_eq_getElem?_getD,h]
theorem it_mem (l:List S50) (j:Int) (h0:0≤j) (h1:j < l.length):zG l j ∈ l:=by
 obtain ⟨i,rfl⟩:=Int.eq_ofNat_of_zero_le h0
 rw [zDp l i (by omega)]
 exact List.getElem_mem _
theorem zDl (l:List S50) (i:Nat) (h:i < l.length):zBN (l.take (i+1))=zBN (l.take i)+l[i].f0.f0:=by
 unfold zBN;rw [List.take_succ_eq_append_getElem h];simp only [List.map_append,List.sum_append,List.map_cons,List.map_nil,List.sum_cons,List.sum_nil,Int.add_zero]
theorem zDi (l:List S50) (i:Nat) (h:i < l.length):zBE (l.take (i+1))=zBE (l.take i)+l[i].f0.f1:=by
 unfold zBE;rw [List.take_succ_eq_append_getElem h];simp only [List.map_append,List.sum_append,List.map_cons,List.map_nil,List.sum_cons,List.sum_nil,Int.add_zero]
theorem zDz (l:List S50) (h:l.all okB=true):0≤zBN l∧zBN l≤zBE l∧zBE l≤1073741824*l.length:=by
 induction l with
 | nil=>simp [zBN,zBE]
 | cons x xs ih =>
  simp only [List.all_cons,Bool.and_eq_true] at h
  have h1:=zB4.1 h.1
  have h2:=ih h.2
  have e1:zBN (x :: xs)=x.f0.f0+zBN xs:=by simp [zBN]
  have e2:zBE (x :: xs)=x.f0.f1+zBE xs:=by simp [zBE]
  rw [e1,e2,List.length_cons]
  omega
theorem zEq {l:List S50} (h:l.all okB=true) (i:Nat):(l.take i).all okB=true:=by
 rw [List.all_eq_true] at h ⊢
 exact fun x hx=>h x (List.mem_of_mem_take hx)
theorem zFF {l:List S50} (h:l.all okB=true) (i:Nat) (hi:i < l.length):okB l[i]=true:=List.all_eq_true.1 h _ (List.getElem_mem _)
theorem zER {l:List S50} (h:l.all okB=true) (j:Int) (h0:0≤j) (h1:j < l.length):okB (zG l j)=true:=List.all_eq_true.1 h _ (it_mem l j h0 h1)
theorem zDC {i n:Nat} (h:i < n) (hn:n≤9223372036854775807):wrap64 ((i:Int)+1)=((i+1:Nat):Int):=by rw [w64 (by omega) (by omega)];omega
theorem all_l0 (l:List S50) (h:l.all okB=true) (hl:l.length≤12) : ∀ d i k,i+d=l.length→d < k→zAA.l0 k l l.length (i:Int) (zBN (l.take i)) (zBE (l.take i))=some (zBN l,zBE l):=by
 intro d
 induction d with
 | zero =>
  intro i k hi hk
  obtain ⟨k,rfl⟩:=fuel hk
  simp only [zAA.l0]
  rw [if_neg (by omega),List.take_of_length_le (by omega)]
 | succ d ih =>
  intro i k hi hk
  obtain ⟨k,rfl⟩:=fuel hk
  have hil:i < l.length:=by omega
  have hb:=zDz _ (zEq h i)
  have hlt:=List.length_take_le i l
  have ho:=zB4.1 (zFF h i hil)
  simp only [zAA.l0]
  rw [if_pos (by omega),if_pos (by omega),if_pos (by omega),zDp l i hil,zDC hil (by omega),w64 (x:=zBN _+_) (by omega) (by omega),w64 (x:=zBE _+_) (by omega) (by omega),← zDl l i hil,← zDi l i hil]
  exact ih (i+1) k (by omega) (by omega)
theorem all_eq (l:List S50) (a b:Int) (h:l.all okB=true) (hl:l.length≤12) (k:Nat) (hk:12 < k):zAA.f k l a b=some (zBN l,zBE l) :=
 all_l0 l h hl l.length 0 k (by omega) (by omega)
theorem zFT (l:List S50) (a b:Int) (h:l.all okB=true) (hl:l.length≤12) : ∀ d i k,i+d=l.length→d < k→zb.l0 k (i:Int) l a b (zBN (l.take i)) (zBE (l.take i))=some (zBN l,zBE l):=by
 intro d
 induction d with
 | zero =>
  intro i k hi hk
  obtain ⟨k,rfl⟩:=fuel hk
  simp only [zb.l0]
  rw [if_neg (by omega),List.take_of_length_le (by omega)]
 | succ d ih =>
  intro i k hi hk
  obtain ⟨k,rfl⟩:=fuel hk
  have hil:i < l.length:=by omega
  have hb:=zDz _ (zEq h i)
  have hlt:=List.length_take_le i l
  have ho:=zB4.1 (zFF h i hil)
  simp only [zb.l0]
  rw [if_pos (by omega),if_pos (by omega),zDp l i hil,zDC hil (by omega),w64 (x:=zBN _+_) (by omega) (by omega),w64 (x:=zBE _+_) (by omega) (by omega),← zDl l i hil,← zDi l i hil]
  exact ih (i+1) k (by omega) (by omega)
theorem zFV (l:List S50) (a b:Int) (h:l.all okB=true) (hl:l.length≤12) (k:Nat) (hk:12 < k):zb.f k l a b=some (zBN l,zBE l) :=
 zFT l a b h hl l.length 0 k (by omega) (by omega)
def zCB (l:List S50) (a b:Int):Bool:=decide (1≤l.length) && (decide (l.length≤12) && (decide (0≤a) && (decide (a≤b) && (decide (b≤17179869184) && (l.all okB && (decide (zBN l≤b) && decide (a≤zBE l)))))))
theorem zDm {l:List S50} {a b:Int}:zCB l a b=true↔1≤l.length∧l.length≤12∧0≤a∧a≤b∧b≤17179869184∧l.all okB=true∧zBN l≤b∧a≤zBE l:=by simp [zCB]
theorem zEn (l:List S50) (i:Nat) (h:i < l.length):(l.drop i).all okB=(okB l[i] && (l.drop (i+1)).all okB):=by rw [List.drop_eq_getElem_cons h,List.all_cons]
theorem zEh (l:List S50) (a b:Int) (hl:l.length≤12) : ∀ d i k,i+d=l.length→d+20 < k→(l.take i).all okB=true→zZ.l0 k (i:Int) l a b=some ((l.drop i).all okB && (decide (zBN l≤b) && decide (a≤zBE l))):=by
 intro d
 induction d with
 | zero =>
  intro i k hi hk ht
  obtain ⟨k,rfl⟩:=fuel hk
  rw [List.take_of_length_le (by omega)] at ht
  simp only [zZ.l0]
  rw [if_neg (by omega),zFV l a b ht hl k (by omega),List.drop_of_length_le (by omega)]
  simp only [Option.bind_some,List.all_nil,Bool.true_and]
  split
  ·rename_i h;simp [h]
  ·rename_i h;simp [h]
 | succ d ih =>
  intro i k hi hk ht
  obtain ⟨k,rfl⟩:=fuel hk
  have hil:i < l.length:=by omega
  simp only [zZ.l0]
  rw [if_pos (by omega),if_pos (by omega),zDp l i hil,zDC hil (by omega),zEn l i hil]
  cases hok:okB l[i] with
  | true =>
   have ho:=zB4.1 hok
   rw [if_neg (by omega),if_neg (by omega),if_neg (by omega),if_neg (by omega),if_neg (by omega),if_neg (by omega),if_neg (by omega)]
   rw [Bool.true_and]
   exact ih (i+1) k (by omega) (by omega) (by rw [List.take_succ_eq_append_getElem hil,List.all_append,ht];simp [hok])
  | false =>
   rw [Bool.false_and]
   repeat' split
   all_goals first
    | rfl
    | (exfalso;have:okB l[i]=true:=zB4.2 (by omega);rw [hok] at this;cases this)
theorem refValid_eq (l:List S50) (a b:Int) (k:Nat) (hk:40 < k):zZ.f k l a b=some (zCB l a b):=by
 obtain ⟨k,rfl⟩:=fuel hk
 unfold zZ.f zCB
 have hj:zZ.j0 (k+1) true l a b=some false:=by simp [zZ.j0]
 split
 ·rename_i h;rw [hj];simp;omega
 split
 ·rename_i h;rw [hj];simp;omega
 split
 ·rename_i h;rw [hj];simp;omega
 split
 ·rename_i h;rw [hj];simp;omega
 ·rename_i h1 h2 h3 h4
  simp only [zZ.j0]
  by_cases h5:b > 17179869184
  ·rw [if_pos (by simpa using h5)]
   simp;omega
  ·rw [if_neg (by simpa using h5)]
   have:=zEh l a b (by omega) l.length 0 k (by omega) (by omega) (by simp)
   rw [Int.natCast_zero] at this
   rw [this]
   have e1:decide (1≤l.length)=true:=by simp;omega
   have e2:decide (l.length≤12)=true:=by simp;omega
   have e3:decide (0≤a)=true:=by simp;omega
   have e4:decide (a≤b)=true:=by simp;omega
   have e5:decide (b≤17179869184)=true:=by simp;omega
   rw [e1,e2,e3,e4,e5]
   simp
theorem zFD (x y m:Int):zA5.f x y m=some (decide (0≤x) && (decide (x≤y) && decide (y≤m))):=by
 unfold zA5.f
 split
 ·rename_i h1
  split
  ·rename_i h2;simp [h2];intro;omega
  ·rename_i h2;simp [h2]
 ·rename_i h1;simp;intro;omega
theorem zDJ (x y m:Int):zk.f x y m=some (decide (y≤x) && decide (x≤m)):=by
 unfold zk.f
 split
 ·rename_i h1;simp;intro;omega
 ·rename_i h1;simp;intro;omega
theorem zEM (x y z u:Int):zh.f x y z u=some (mx x z,mn y u,decide (mx x z≤mn y u)):=rfl
theorem meet_iff (x y z u:Int) (h1:x≤y) (h2:z≤u):decide (mx x z≤mn y u)=(decide (x≤u) && decide (z≤y)):=by
 rw [Bool.eq_iff_iff];simp;unfold mx mn;omega
theorem check_l0 (l:List S50) (a b:Int) (hl:l.length≤12) (hab:a≤b) : ∀ d i k,i+d=l.length→d+20 < k→(l.take i).all okB=true→zK.l0 k l l.length (i:Int) l a b=some (if ((l.drop i).all okB && (decide (zBN l≤b) && decide (a≤zBE l)))=true then 0 else 80):=by
 intro d
 induction d with
 | zero =>
  intro i k hi hk ht
  obtain ⟨k,rfl⟩:=fuel hk
  rw [List.take_of_length_le (by omega)] at ht
  have hb:=zDz l ht
  simp only [zK.l0]
  rw [if_neg (by omega),all_eq l a b ht hl k (by omega),List.drop_of_length_le (by omega)]
  simp only [Option.bind_some,List.all_nil,Bool.true_and,zEM]
  rw [meet_iff _ _ _ _ (by omega) hab]
  split <;> rfl
 | succ d ih =>
  intro i k hi hk ht
  obtain ⟨k,rfl⟩:=fuel hk
  have hil:i < l.length:=by omega
  simp only [zK.l0]
  rw [if_pos (by omega),if_pos (by omega),if_pos (by omega),zDp l i hil,zDC hil (by omega),zEn l i hil]
  simp only [zFD,zDJ,Option.bind_some]
  cases hok:okB l[i] with
  | true =>
   have ho:=zB4.1 hok
   rw [if_pos (by simp;omega),if_pos (by simp;omega),if_pos (by simp;omega)]
   rw [Bool.true_and]
   exact ih (i+1) k (by omega) (by omega) (by rw [List.take_succ_eq_append_getElem hil,List.all_append,ht];simp [hok])
  | false =>
   simp only [Bool.false_and,Bool.false_eq_true,if_false]
   split
   ·rename_i h1
    split
    ·rename_i h2
     split
     ·rename_i h3
      exfalso
      simp at h1 h2 h3
      have:okB l[i]=true:=zB4.2 (by omega)
      rw [hok] at this
      cases this
     ·rfl
    ·rfl
   ·rfl
theorem check_eq (l:List S50) (a b:Int) (k:Nat) (hk:40 < k):zK.f k l a b=some (if zCB l a b=true then 0 else 80):=by
 obtain ⟨k,rfl⟩:=fuel hk
 unfold zK.f zCB
 have hj:zK.j0 (k+1) true l a b=some 80:=by simp [zK.j0]
 simp only [zFD,zDJ,Option.bind_some]
 split
 ·rename_i h
  simp at h
  simp only [zK.j0]
  cases hs:(decide (0≤a) && (decide (a≤b) && decide (b≤17179869184)))
  ·rw [if_pos (by simp)]
   simp at hs
   rw [if_neg]
   simp
   intro h1 h2 h3 h4 h5
   have:=hs h3 h4
   omega
  ·rw [if_neg (by simp)]
   simp at hs
   have:=check_l0 l a b (by omega) (by omega) l.length 0 k (by omega) (by omega) (by simp)
   rw [Int.natCast_zero] at this
   rw [this]
   have e1:decide (1≤l.length)=true:=by simp;omega
   have e2:decide (l.length≤12)=true:=by simp;omega
   have e3:decide (0≤a)=true:=by simp;omega
   have e4:decide (a≤b)=true:=by simp;omega
   have e5:decide (b≤17179869184)=true:=by simp;omega
   rw [e1,e2,e3,e4,e5]
   simp
 ·rename_i h
  rw [hj]
  simp at h
  rw [if_neg]
  simp
  intro h1 h2
  omega
end Go.Proofs.Ythimaecnpkcmeaa.Pure
namespace Go.Proofs.Ythimaecnpkcmeaa.Pure
open Go.RowKit Go.Proofs.Ythimaecnpkcmeaa.K Go.Proofs.YthimaecnpkcmeaaW.PrintWords Go.Proofs.YthimaecnpkcmeaaW.PrintLast Go.Proofs.YthimaecnpkcmeaaW.PrintMore
def rightFrom (n:Int):Int→List Int→Bool
 | _,[]=>true
 | p,i :: is=>decide (0≤i) && (decide (i < n) && (decide (p < i) && rightFrom n i is))
theorem zCh {n p i:Int} {is:List Int}:rightFrom n p (i :: is)=true↔0≤i∧i < n∧p < i∧rightFrom n i is=true:=by simp [rightFrom]
theorem zCs {n:Int} : ∀ {is:List Int} {p:Int},rightFrom n p is=true→∀ j ∈ is,0≤j∧j < n∧p < j
 | [],_,_,j,hj=>by simp at hj
 | i :: is,p,h,j,hj=>by
  obtain ⟨h1,h2,h3,h4⟩:=zCh.1 h
  rcases List.mem_cons.1 hj with rfl|hj
  ·exact ⟨h1,h2,h3⟩
  ·have:=zCs h4 j hj;omega
theorem zCY {n:Int} : ∀ {is:List Int} {p:Int},rightFrom n p is=true→-1≤p→p < n→(is.length:Int)≤n - 1 - p
 | [],p,_,_,_=>by simp;omega
 | i :: is,p,h,h0,hp=>by
  obtain ⟨h1,h2,h3,h4⟩:=zCh.1 h
  have:=zCY h4 (by omega) h2
  simp only [List.length_cons]
  omega
def before (items:List Int) (i:Nat):Int:=if i=0 then -1 else rd items ((i - 1:Nat):Int)
theorem right_l0 (l:List S50) (a b:Int) (items:List Int) (hl:1≤l.length) (hl2:l.length≤12) (hn:items.length≤9223372036854775807) : ∀ d i k,i+d=items.length→d < k →
 zi.l0 k items items items.length (i:Int) l a b=some (bif rightFrom l.length (before items i) (items.drop i) then 0 else 1):=by
 intro d
 induction d with
 | zero =>
  intro i k hi hk
  obtain ⟨k,rfl⟩:=fuel hk
  simp only [zi.l0]
  rw [if_neg (by omega),List.drop_of_length_le (by omega)]
  rfl
 | succ d ih =>
  intro i k hi hk
  obtain ⟨k,rfl⟩:=fuel hk
  have hil:i < items.length:=by omega
  simp only [zi.l0]
  rw [if_pos (by omega),if_pos (by omega),if_pos (by omega),zC3 items i hil,zDC hil hn,List.drop_eq_getElem_cons hil,w64 (x:=(l.length:Int) - 1) (by omega) (by omega)]
  simp only [zDJ,Option.bind_some,rightFrom]
  have ihx:=ih (i+1) k (by omega) (by omega)
  have hbx:before items (i+1)=items[i]:=by unfold before;rw [if_neg (by omega),Nat.add_sub_cancel,zC3 items i hil]
  rw [hbx] at ihx
  by_cases c:0≤items[i]∧items[i] < l.length
  ·rw [if_pos (by simp;omega)]
   have e1:decide (0≤items[i])=true:=decide_eq_true c.1
   have e2:decide (items[i] < (l.length:Int))=true:=decide_eq_true c.2
   rw [e1,e2]
   simp only [Bool.true_and]
   by_cases hi0:i=0
   ·subst hi0
    rw [if_neg (by simp)]
    have e3:decide (before items 0 < items[0])=true:=by simp [before];omega
    rw [e3,Bool.true_and]
    exact ihx
   ·have hw:wrap64 ((i:Int) - 1)=((i - 1:Nat):Int):=by rw [w64 (by omega) (by omega)];omega
    have hb:before items i=rd items ((i - 1:Nat):Int):=by unfold before;rw [if_neg hi0]
    rw [if_pos (by omega),hw,if_pos (by omega),if_pos (by omega),← hb]
    by_cases c3:before items i < items[i]
    ·rw [if_neg (by omega),decide_eq_true c3,Bool.true_and]
     exact ihx
    ·rw [if_pos (by omega),decide_eq_false c3]
     rfl
  ·rw [if_neg (by simp;omega)]
   have:(decide (0≤items[i]) && (decide (items[i] < (l.length:Int)) && (decide (before items i < items[i]) && rightFrom (↑l.length) items[i] (List.drop (i+1) items))))=false:=by
    by_cases h0:0≤items[i]
    ·have : ¬ items[i] < (l.length:Int):=fun h=>c ⟨h0,h⟩
     simp [this]
    ·simp [h0]
   rw [this]
   rfl
theorem right_eq (l:List S50) (a b:Int) (items:List Int) (hn:items.length≤9223372036854775807) (k:Nat) (hk:40+items.length < k) :
 zi.f k l a b items=some (if zCB l a b=true then (if rightFrom l.length (-1) items=true then 0 else 1) else 80):=by
 unfold zi.f
 rw [check_eq l a b k (by omega)]
 simp only [Option.bind_some]
 by_cases hv:zCB l a b=true
 ·have hv':=zDm.1 hv
  simp only [hv,if_true]
  have:=right_l0 l a b items hv'.1 hv'.2.1 hn items.length 0 k (by omega) (by omega)
  rw [Int.natCast_zero] at this
  rw [this,Bool.cond_eq_ite]
  rfl
 ·simp [hv]
theorem zFO (l:List S50) (a b:Int) (items:List Int) (low high:Int) (hn:items.length≤9223372036854775807) (k:Nat) (hk:40+items.length < k) :
 zA2.f k l a b items low high=some (if zCB l a b=true then (if rightFrom l.length (-1) items=true then (if low < high∧-1099511627776≤low∧high≤1099511627776 then 0 else 1) else 1) else 80):=by
 unfold zA2.f
 rw [right_eq l a b items hn k hk]
 simp only [Option.bind_some]
 by_cases hv:zCB l a b=true
 ·simp only [hv,if_true]
  by_cases hr:rightFrom l.length (-1) items=true
  ·simp only [hr,if_true]
   by_cases h1:low≥high
   ·rw [if_pos h1,if_neg (by omega)]
   ·rw [if_neg h1]
    by_cases h2:low < -1099511627776
    ·rw [if_pos h2,if_neg (by omega)]
    ·rw [if_neg h2]
     by_cases h3:high > 1099511627776
     ·rw [if_pos h3,if_neg (by omega)]
     ·rw [if_neg h3,if_pos (by omega)]
  ·simp [hr]
 ·simp [hv]
theorem zEs (l:List S50) (a b:Int) (items:List Int) (hn:items.length≤9223372036854775807) : ∀ d i k,i+d=items.length→d < k →
 zAL.l0 k items (i:Int) l a b=some (rightFrom l.length (before items i) (items.drop i)):=by
 intro d
 induction d with
 | zero =>
  intro i k hi hk
  obtain ⟨k,rfl⟩:=fuel hk
  simp only [zAL.l0]
  rw [if_neg (by omega),List.drop_of_length_le (by omega)]
  rfl
 | succ d ih =>
  intro i k hi hk
  obtain ⟨k,rfl⟩:=fuel hk
  have hil:i < items.length:=by omega
  simp only [zAL.l0]
  rw [if_pos (by omega),if_pos (by omega),zC3 items i hil,zDC hil hn,List.drop_eq_getElem_cons hil]
  simp only [rightFrom]
  have ihx:=ih (i+1) k (by omega) (by omega)
  have hbx:before items (i+1)=items[i]:=by unfold before;rw [if_neg (by omega),Nat.add_sub_cancel,zC3 items i hil]
  rw [hbx] at ihx
  by_cases c1:items[i] < 0
  ·rw [if_pos c1]
   have e1:decide (0≤items[i])=false:=decide_eq_false (by omega)
   rw [e1]
   rfl
  ·rw [if_neg c1]
   have e1:decide (0≤items[i])=true:=decide_eq_true (by omega)
   rw [e1,Bool.true_and]
   by_cases c2:items[i]≥(l.length:Int)
   ·rw [if_pos c2]
    have e1:decide (items[i] < (l.length:Int))=false:=decide_eq_false (by omega)
    rw [e1]
    rfl
   ·rw [if_neg c2]
    have e1:decide (items[i] < (l.length:Int))=true:=decide_eq_true (by omega)
    rw [e1,Bool.true_and]
    by_cases hi0:i=0
    ·subst hi0
     rw [if_neg (by simp)]
     have e3:decide (before items 0 < items[0])=true:=by simp [before];omega
     rw [e3,Bool.true_and]
     exact ihx
    ·have hw:wrap64 ((i:Int) - 1)=((i - 1:Nat):Int):=by rw [w64 (by omega) (by omega)];omega
     have hb:before items i=rd items ((i - 1:Nat):Int):=by unfold before;rw [if_neg hi0]
     rw [if_pos (by omega),hw,if_pos (by omega),if_pos (by omega),← hb]
     by_cases c3:before items i < items[i]
     ·rw [if_neg (by omega),decide_eq_true c3,Bool.true_and]
      exact ihx
     ·rw [if_pos (by omega),decide_eq_false c3]
      simp
theorem refRight_eq (l:List S50) (a b:Int) (items:List Int) (hn:items.length≤9223372036854775807) (k:Nat) (hk:items.length < k) :
 zAL.f k l a b items=some (rightFrom l.length (-1) items):=by
 have:=zEs l a b items hn items.length 0 k (by omega) (by omega)
 rw [Int.natCast_zero] at this
 exact this
def gz (x:S50):Int:=mx 0 (x.f0.f1 - x.f0.f0 - 2*x.f2)
theorem gz_bd {x:S50} (h:okB x=true):0≤gz x∧gz x≤x.f0.f1 - x.f0.f0∧gz x≤1073741824:=by
 have:=zB4.1 h;unfold gz mx;omega
theorem zFK {x:S50} (h:okB x=true):zBK.f x.f0.f0 x.f0.f1 x.f1 x.f2=some (gz x):=by
 have:=zB4.1 h
 unfold zBK.f gz
 rw [w64 (x:=x.f0.f1 - x.f0.f0) (by omega) (by omega),w64 (x:=2*x.f2) (by omega) (by omega),w64 (by omega) (by omega)]
def zDw (l:List S50) (items:List Int):Int:=(items.map fun j=>gz (zG l j)).sum
theorem gains_l0 (l:List S50) (a b:Int) (h:l.all okB=true) (items:List Int) (hr : ∀ j ∈ items,0≤j∧j < (l.length:Int)) (hn:items.length≤40) : ∀ d i k acc,i+d=items.length→d < k→acc.length≤i →
 zm.l0 k acc items items.length (i:Int) l a b=some (acc ++ (items.drop i).map fun j=>gz (zG l j)):=by
 intro d
 induction d with
 | zero =>
  intro i k acc hi hk ha
  obtain ⟨k,rfl⟩:=fuel hk
  simp only [zm.l0]
  rw [if_neg (by omega),List.drop_of_length_le (by omega)]
  simp
 | succ d ih =>
  intro i k acc hi hk ha
  obtain ⟨k,rfl⟩:=fuel hk
  have hil:i < items.length:=by omega
  have hm:=hr _ (List.getElem_mem hil)
  simp only [zm.l0]
  rw [if_pos (by omega),if_pos (by omega),if_pos (by omega),zC3 items i hil,zDC hil (by omega),if_pos hm.1,if_pos hm.2,zFK (zER h _ hm.1 hm.2)]
  simp only [Option.bind_some]
  rw [if_pos (by omega),ih (i+1) k _ (by omega) (by omega) (by simp;omega),List.drop_eq_getElem_cons hil]
  simp only [List.map_cons,List.append_assoc,List.singleton_append]
theorem gains_eq (l:List S50) (a b:Int) (h:l.all okB=true) (items:List Int) (hr : ∀ j ∈ items,0≤j∧j < (l.length:Int)) (hn:items.length≤40) (k:Nat) (hk:40 < k) :
 zm.f k l a b items=some (items.map fun j=>gz (zG l j)):=by
 have:=gains_l0 l a b h items hr hn items.length 0 k [] (by omega) (by omega) (by simp)
 rw [Int.natCast_zero] at this
 unfold zm.f
 rw [this]
 simp
theorem zD9 (l:List Int) (i:Nat) (h:i < l.length):(l.take (i+1)).sum=(l.take i).sum+l[i]:=by
 rw [List.take_succ_eq_append_getElem h,List.sum_append];simp
theorem zEL {B:Int} : ∀ (l:List Int),(∀ x ∈ l,-B≤x∧x≤B)→-(B*l.length)≤l.sum∧l.sum≤B*l.length
 | [],_=>by simp
 | x :: xs,h=>by
  have h1:=h x (by simp)
  have h2:=zEL xs fun y hy=>h y (by simp [hy])
  have e:(B*((x :: xs).length:Int))=B*xs.length+B:=by simp only [List.length_cons];rw [Int.natCast_add,Int.natCast_one,Int.mul_add,Int.mul_one]
  rw [e,List.sum_cons]
  omega
theorem total_l0 (l:List Int) (hb : ∀ x ∈ l,-1099511627776≤x∧x≤1099511627776) (hn:l.length≤40) : ∀ d i k,i+d=l.length→d < k→zl.l0 k (l.take i).sum l l.length (i:Int)=some l.sum:=by
 intro d
 induction d with
 | zero =>
  intro i k hi hk
  obtain ⟨k,rfl⟩:=fuel hk
  simp only [zl.l0]
  rw [if_neg (by omega),List.take_of_length_le (by omega)]
 | succ d ih =>
  intro i k hi hk
  obtain ⟨k,rfl⟩:=fuel hk
  have hil:i < l.length:=by omega
  have h1:=zEL (B:=1099511627776) (l.take i) fun x hx=>hb x (List.mem_of_mem_take hx)
  have h2:=hb _ (List.getElem_mem hil)
  have h3:=List.length_take_le i l
  simp only [zl.l0]
  rw [if_pos (by omega),if_pos (by omega),if_pos (by omega),zC3 l i hil,zDC hil (by omega),w64 (x:=_+l[i]) (by omega) (by omega),← zD9 l i hil]
  exact ih (i+1) k (by omega) (by omega)
theorem total_eq (l:List Int) (hb : ∀ x ∈ l,-1099511627776≤x∧x≤1099511627776) (hn:l.length≤40) (k:Nat) (hk:40 < k):zl.f k l=some l.sum :=
 total_l0 l hb hn l.length 0 k (by omega) (by omega)
theorem zFE (l:List S50) (h:l.all okB=true) : ∀ (items:List Int),(∀ j ∈ items,0≤j∧j < (l.length:Int))→0≤zDw l items∧zDw l items≤1073741824*items.length
 | [],_=>by simp [zDw]
 | i :: is,hr=>by
  have h1:=hr i (by simp)
  have h2:=gz_bd (zER h i h1.1 h1.2)
  have h3:=zFE l h is fun j hj=>hr j (by simp [hj])
  have e:zDw l (i :: is)=gz (zG l i)+zDw l is:=by simp [zDw]
  rw [e,List.length_cons]
  omega
end Go.Proofs.Ythimaecnpkcmeaa.Pure
namespace Go.Proofs.Ythimaecnpkcmeaa.Pure
open Go.RowKit Go.Proofs.Ythimaecnpkcmeaa.K Go.Proofs.YthimaecnpkcmeaaW.PrintWords Go.Proofs.YthimaecnpkcmeaaW.PrintLast Go.Proofs.YthimaecnpkcmeaaW.PrintMore
theorem zEv (l:List S50) (a b g:Int) (h:l.all okB=true) (hl:l.length≤12) (k:Nat) (hk:12 < k) (h0:0≤g) (h1:g≤1099511627776):za.f k l a b g=some (zBN l,zBE l - g,g,a,b):=by
 have:=zDz l h
 unfold za.f
 rw [all_eq l a b h hl k hk]
 simp only [Option.bind_some]
 rw [w64 (by omega) (by omega)]
def zDR (l:List S50):List Int→Int→List Int
 | [],_=>[]
 | i :: is,s=>((zG l i).f0.f0+(zG l i).f2+mn s (gz (zG l i))) :: zDR l is (s - mn s (gz (zG l i)))
theorem shown_l0 (l:List S50) (a b:Int) (h:l.all okB=true) (items:List Int) (hr : ∀ j ∈ items,0≤j∧j < (l.length:Int)) (hn:items.length≤40) : ∀ d i k acc s,i+d=items.length→d < k→acc.length≤i→0≤s→s≤1099511627776 →
 zw.l0 k s acc items items.length (i:Int) l a b=some (acc ++ zDR l (items.drop i) s):=by
 intro d
 induction d with
 | zero =>
  intro i k acc s hi hk ha h0 h1
  obtain ⟨k,rfl⟩:=fuel hk
  simp only [zw.l0]
  rw [if_neg (by omega),List.drop_of_length_le (by omega)]
  simp [zDR]
 | succ d ih =>
  intro i k acc s hi hk ha h0 h1
  obtain ⟨k,rfl⟩:=fuel hk
  have hil:i < items.length:=by omega
  have hm:=hr _ (List.getElem_mem hil)
  have ho:=zER h _ hm.1 hm.2
  have hg:=gz_bd ho
  have hx:=zB4.1 ho
  have hmn:0≤mn s (gz (zG l items[i]))∧mn s (gz (zG l items[i]))≤s∧mn s (gz (zG l items[i]))≤1073741824:=by unfold mn;omega
  simp only [zw.l0]
  rw [if_pos (by omega),if_pos (by omega),if_pos (by omega),zC3 items i hil,zDC hil (by omega),if_pos hm.1,if_pos hm.2,zFK ho]
  simp only [Option.bind_some]
  rw [if_pos (by omega),w64 (x:=s - _) (by omega) (by omega),w64 (x:=(zG l items[i]).f0.f0+_) (by omega) (by omega),w64 (x:=_+mn s _) (by omega) (by omega),ih (i+1) k _ _ (by omega) (by omega) (by simp;omega) (by omega) (by omega),List.drop_eq_getElem_cons hil]
  simp only [zDR,List.append_assoc,List.singleton_append]
theorem shown_eq (l:List S50) (a b s:Int) (h:l.all okB=true) (items:List Int) (hr : ∀ j ∈ items,0≤j∧j < (l.length:Int)) (hn:items.length≤40) (k:Nat) (hk:40 < k) (h0:0≤s) (h1:s≤1099511627776):zw.f k l a b items s=some (zDR l items s):=by
 have:=shown_l0 l a b h items hr hn items.length 0 k [] s (by omega) (by omega) (by simp) h0 h1
 rw [Int.natCast_zero] at this
 unfold zw.f
 rw [this]
 simp
def openS (l:List S50) (a b g low high:Int):Option Int :=
 if mx (mx 0 (a - (zBE l - g))) (low+1 - (zBE l - g)) > mn g (b - zBN l) then none
 else if mx (zBN l+mx (mx 0 (a - (zBE l - g))) (low+1 - (zBE l - g))) a≥high then none
 else if mn (zBE l - g+mx (mx 0 (a - (zBE l - g))) (low+1 - (zBE l - g))) b≤low then none
 else some (mx (mx 0 (a - (zBE l - g))) (low+1 - (zBE l - g)))
theorem zE0 (l:List S50) (h:l.all okB=true) (items:List Int) (hr : ∀ j ∈ items,0≤j∧j < (l.length:Int)) (hn:items.length≤40) (k:Nat) (hk:40 < k):zl.f k (items.map fun j=>gz (zG l j))=some (zDw l items):=by
 rw [total_eq _ (fun x hx=>?_) (by simpa using hn) k hk]
 ·rfl
 ·obtain ⟨j,hj,rfl⟩:=List.mem_map.1 hx
  have:=gz_bd (zER h j (hr j hj).1 (hr j hj).2)
  omega
theorem open_eq (l:List S50) (a b low high:Int) (items:List Int) (hv:zCB l a b=true) (hr:rightFrom l.length (-1) items=true) (h0 : -1099511627776≤low) (h1:low < high) (h2:high≤1099511627776) (k:Nat) (hk:100 < k) :
 zAO.f k l a b items low high=some (match openS l a b (zDw l items) low high with|none=>([],false)|some s=>(zDR l items s,true)):=by
 have hv:=zDm.1 hv
 have hs:=zDz l hv.2.2.2.2.2.1
 have hm : ∀ j ∈ items,0≤j∧j < (l.length:Int):=fun j hj=>by have:=zCs hr j hj;omega
 have hn:=zCY hr (by omega) (by omega)
 have hn2:items.length≤12:=by omega
 have hg:=zFE l hv.2.2.2.2.2.1 items hm
 unfold zAO.f
 rw [gains_eq l a b hv.2.2.2.2.2.1 items hm (by omega) k (by omega)]
 simp only [Option.bind_some]
 rw [zE0 l hv.2.2.2.2.2.1 items hm (by omega) k (by omega)]
 simp only [Option.bind_some]
 rw [zEv l a b _ hv.2.2.2.2.2.1 hv.2.1 k (by omega) (by omega) (by omega)]
 simp only [Option.bind_some,zAM.f,zAE.f,zEM]
 generalize zDw l items=g at hg ⊢
 rw [w64 (x:=a - (zBE l - g)) (by omega) (by omega),w64 (x:=b - zBN l) (by omega) (by omega),w64 (x:=low+1) (by omega) (by omega),w64 (x:=low+1 - _) (by omega) (by omega)]
 unfold openS
 generalize hS:mx (mx 0 (a - (zBE l - g))) (low+1 - (zBE l - g))=s
 by_cases c1:s > mn g (b - zBN l)
 ·rw [if_pos c1,if_pos c1]
 ·rw [if_neg c1,if_neg c1]
  have hsb:0≤s∧s≤12884901888:=by
   have e1:s≤mn g (b - zBN l):=by omega
   have e2:mn g (b - zBN l)≤g:=by unfold mn;omega
   have e3:0≤s:=by rw [← hS];unfold mx;omega
   omega
  rw [w64 (x:=zBN l+s) (by omega) (by omega),w64 (x:=zBE l - g+s) (by omega) (by omega)]
  by_cases c2:mx (zBN l+s) a≥high
  ·rw [if_pos c2,if_pos c2]
  ·rw [if_neg c2,if_neg c2]
   by_cases c3:mn (zBE l - g+s) b≤low
   ·rw [if_pos c3,if_pos c3]
   ·rw [if_neg c3,if_neg c3,shown_eq l a b s hv.2.2.2.2.2.1 items hm (by omega) k (by omega) (by omega) (by omega)]
    rfl
theorem decides_eq (l:List S50) (a b low high:Int) (items:List Int) (hn:items.length≤9223372036854775807) (k:Nat) (hk:100+items.length < k) (hv:zCB l a b=true) (hr:rightFrom l.length (-1) items=true) (h0 : -1099511627776≤low) (h1:low < high) (h2:high≤1099511627776) :
 zBX.f k l a b items low high=some ((openS l a b (zDw l items) low high).isNone,0):=by
 unfold zBX.f
 rw [zFO l a b items low high hn k (by omega)]
 simp only [Option.bind_some,hv,hr,if_true]
 rw [if_pos (by omega),open_eq l a b low high items hv hr h0 h1 h2 k (by omega)]
 cases openS l a b (zDw l items) low high <;> rfl
end Go.Proofs.Ythimaecnpkcmeaa.Pure
