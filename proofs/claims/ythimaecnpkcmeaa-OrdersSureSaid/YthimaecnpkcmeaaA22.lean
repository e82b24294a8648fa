/- The law holds for every input: the row, out of the walk of the code and the pure statement on numbers and lists. -/
import Derived.Below
import Derived.ChangeOld
import Derived.ChangeSame
import Derived.Deep.Slices
import Derived.Deep.Strs
import Derived.OpenShut
import Derived.ProofKit
import Derived.SizedLaws
import Derived.Test.YthimaecnpkcmeaaRows
import Derived.WalkKit
import Derived.Test.YthimaecnpkcmeaaA3
import Derived.Test.YthimaecnpkcmeaaA21
set_option linter.unusedVariables false
set_option linter.unusedSimpArgs false
namespace Go.Proofs.Ythimaecnpkcmeaa.K
open Go.ChangeShapes Go.WideShapes Go.Deep Go.RowKit Go.Proofs.YthimaecnpkcmeaaW.PrintWords Go.Proofs.YthimaecnpkcmeaaW.PrintLast Go.Proofs.YthimaecnpkcmeaaW.PrintMore
def Opens (P:Program) {α:Type} (d:Kd α) (t:TypeId):Prop :=
 ∀ (H:Type) (enc:TypeId × Value→H) (w:World) (base:Nat) (spare:Nat→Bool) (held:Bool) (fuel:Nat) (cs:List Value) (x:DataW H × List MemPlace),DataW.trod enc P w base spare held fuel t cs=some x→∃ s,d.K w s cs
theorem opens_int {P:Program} {t:TypeId} {k:IntKind} (ht:P.underlying t=some (.int k)):Opens P (Kd.int k) t:=by
 intro H enc w base spare held fuel cs x h
 obtain ⟨n,rfl,_,_⟩:=DataW.trod_int ht h
 exact ⟨n,rfl⟩
theorem opens_slice {P:Program} {α:Type} {d:Kd α} {t e:TypeId} (ht:P.underlying t=some (.slice e)) (hc:P.cellsOf e=d.sz) (he:Opens P d e):Opens P (Kd.slice e d) t:=by
 intro H enc w base spare held fuel cs x h
 rcases open_slice ht h with ⟨rfl,_⟩|⟨a,len,cap,m,n,D,Pl,rfl,_,hl,hm,hmm,_,hi⟩
 ·exact ⟨[],none,0,rfl,Nat.le_refl _,Kd.C_nil _ _⟩
 ·have hlm:len≤m:=by rw [hmm];split <;> omega
  have hs : ∀ i,∃ s:Option α,i < len→∃ s',s=some s'∧∃ c,d.K w s' c∧∀ j u,c[j]? = some u→w.cell? (a.add (i*d.sz+j))=some u:=by
   intro i
   by_cases hil:i < len
   ·obtain ⟨cs',hc',ht'⟩:=hi i (by omega)
    obtain ⟨s,hk⟩:=he H enc w base spare held n cs' _ ht'
    obtain ⟨_,hcl,hat⟩:=World.cells?_some hc'
    refine ⟨some s,fun _=>⟨s,rfl,cs',hk,fun j u hj=>?_⟩⟩
    have hjl:j < P.cellsOf e:=by rw [← hcl];exact (List.getElem?_eq_some_iff.1 hj).1
    have h1:=hat j hjl
    rw [Go.Deep.add_add,hc] at h1
    rw [h1,hj]
   ·exact ⟨none,fun h=>absurd h hil⟩
  have hs2 : ∃ l:List α,l.length=len∧∀ i s',l[i]? = some s'→∃ c,d.K w s' c∧∀ j u,c[j]? = some u→w.cell? (a.add (i*d.sz+j))=some u:=by
   have key : ∀ k,k≤len→∃ l:List α,l.length=k∧∀ i s',l[i]? = some s'→∃ c,d.K w s' c∧∀ j u,c[j]? = some u→w.cell? (a.add (i*d.sz+j))=some u:=by
    intro k
    induction k with
    | zero=>exact fun _=>⟨[],rfl,fun i s' h=>by simp at h⟩
    | succ k ih =>
     intro hk
     obtain ⟨l,hl,hp⟩:=ih (by omega)
     obtain ⟨s,hs⟩:=hs k
     obtain ⟨s',rfl,hc'⟩:=hs (by omega)
     refine ⟨l ++ [s'],by simp [hl],fun i s2 h2=>?_⟩
     by_cases hik:i < l.length
     ·rw [List.getElem?_append_left hik] at h2
      exact hp i s2 h2
     ·have hi2:i < (l ++ [s']).length:=(List.getElem?_eq_some_iff.1 h2).1
      have hik2:i=l.length:=by simp at hi2;omega
      subst hik2
      simp at h2
      subst h2
      rw [hl]
      exact hc'
   exact key len (Nat.le_refl _)
  obtain ⟨l,rfl,hp⟩:=hs2
  refine ⟨l,some a,cap,rfl,hl,rfl,by unfold maxLen at hm;omega,fun _=>⟨a,rfl,fun j p hj=>?_⟩⟩
  obtain ⟨c,hk,hcell⟩:=hp j p hj
  exact ⟨c,d.K_len hk,hk,hcell⟩
set_option maxRecDepth 100000 in
theorem opens24:Opens Try.prog k24 24:=by
 intro H enc w base spare held fuel cs x h
 obtain ⟨y0,y1,n,_,hl,h0,h1⟩:=trod_struct2 Try.underlying24 h
 have hc:Try.prog.cellsOf 24=2:=by kernel_rfl
 have hc3:Try.prog.cellsOf 3=1:=by kernel_rfl
 rw [hc] at hl
 match cs,hl with
 | [c0,c1],_ =>
  obtain ⟨a,ha⟩:=opens_int Try.underlying3 _ _ _ _ _ _ _ _ _ h0
  obtain ⟨b,hb⟩:=opens_int Try.underlying3 _ _ _ _ _ _ _ _ _ h1
  have ha':[c0]=[.int .i64 a]:=by simp [hc3] at ha;exact ha
  have hb':[c1]=[.int .i64 b]:=by simp [hc3] at hb;exact hb
  cases ha'
  cases hb'
  exact ⟨⟨a,b⟩,k24_mk w ⟨a,b⟩⟩
set_option maxRecDepth 100000 in
theorem opens50:Opens Try.prog k50 50:=by
 intro H enc w base spare held fuel cs x h
 obtain ⟨y0,y1,y2,n,_,hl,h0,h1,h2⟩:=trod_struct3 Try.underlying50 h
 have hc:Try.prog.cellsOf 50=4:=by kernel_rfl
 have hc3:Try.prog.cellsOf 3=1:=by kernel_rfl
 have hc24:Try.prog.cellsOf 24=2:=by kernel_rfl
 rw [hc] at hl
 match cs,hl with
 | [c0,c1,c2,c3],_ =>
  obtain ⟨s,hs⟩:=opens24 _ _ _ _ _ _ _ _ _ h0
  obtain ⟨a,ha⟩:=opens_int Try.underlying3 _ _ _ _ _ _ _ _ _ h1
  obtain ⟨b,hb⟩:=opens_int Try.underlying3 _ _ _ _ _ _ _ _ _ h2
  have hs':[c0,c1]=[.int .i64 s.f0,.int .i64 s.f1]:=by simpa [hc24] using k24_open hs
  have ha':[c2]=[.int .i64 a]:=by simp [hc3] at ha;exact ha
  have hb':[c3]=[.int .i64 b]:=by simp [hc3] at hb;exact hb
  cases hs'
  cases ha'
  cases hb'
  exact ⟨⟨s,a,b⟩,k50_mk w ⟨s,a,b⟩⟩
set_option maxRecDepth 100000 in
theorem open26 {H:Type} {enc:TypeId × Value→H} {W:World} {base b0:Nat} {spare:Nat→Bool} {held:Bool} {r:Reach} {v:Value} {d:DataW H} {p:List MemPlace} (hv:Value.okWide Try.prog W r b0 26 v) (h:DataW.Trod enc Try.prog W base spare held 26 v d p) :
 ∃ (A:Option Addr) (c:Nat) (l:List S50) (a b:Int),v= .agg #[.slice A l.length c,.int .i64 a,.int .i64 b]∧Kd.C k50 W A l.length l∧l.length≤c:=by
 obtain ⟨cs,rfl,hsz⟩:=okWide_struct Try.underlying26 hv
 obtain ⟨fuel,hf⟩:=h
 obtain ⟨y0,y1,n,_,hl,h0,h1⟩:=trod_struct2 Try.underlying26 hf
 have hc:Try.prog.cellsOf 26=3:=by kernel_rfl
 have hc22:Try.prog.cellsOf 22=1:=by kernel_rfl
 have hc24:Try.prog.cellsOf 24=2:=by kernel_rfl
 rw [hc] at hsz
 obtain ⟨cs⟩:=cs
 match cs,hsz with
 | [c0,c1,c2],_ =>
  obtain ⟨l,A,c,hs,hlc,hC⟩:=opens_slice Try.underlying22 (by kernel_rfl) opens50 _ _ _ _ _ _ _ _ _ h0
  obtain ⟨s,hs2⟩:=opens24 _ _ _ _ _ _ _ _ _ h1
  have hs':[c0]=[.slice A l.length c]:=by simpa [Value.cells,hc22] using hs
  have hs2':[c1,c2]=[.int .i64 s.f0,.int .i64 s.f1]:=by simpa [Value.cells,hc24] using k24_open hs2
  cases hs'
  cases hs2'
  exact ⟨A,c,l,s.f0,s.f1,rfl,hC,hlc⟩
set_option maxRecDepth 100000 in
theorem open27 {H:Type} {enc:TypeId × Value→H} {W:World} {base b0:Nat} {spare:Nat→Bool} {held:Bool} {r:Reach} {v:Value} {d:DataW H} {p:List MemPlace} (hv:Value.okWide Try.prog W r b0 27 v) (h:DataW.Trod enc Try.prog W base spare held 27 v d p) :
 ∃ (A:Option Addr) (c:Nat) (l:List Int),v= .slice A l.length c∧Kd.C (Kd.int .i64) W A l.length l∧l.length≤c:=by
 obtain ⟨a,len,cap,rfl⟩:=okWide_slice Try.underlying27 hv
 obtain ⟨fuel,hf⟩:=h
 obtain ⟨l,A,c,hs,hlc,hC⟩:=opens_slice Try.underlying27 (by kernel_rfl) (opens_int Try.underlying3) _ _ _ _ _ _ _ _ _ hf
 simp [Value.cells] at hs
 obtain ⟨rfl,rfl,rfl⟩:=hs
 exact ⟨_,_,l,rfl,hC,hlc⟩
end Go.Proofs.Ythimaecnpkcmeaa.K
namespace Go.Proofs.Ythimaecnpkcmeaa.Pure
open Go.RowKit Go.Proofs.Ythimaecnpkcmeaa.K Go.Proofs.YthimaecnpkcmeaaW.PrintWords Go.Proofs.YthimaecnpkcmeaaW.PrintLast Go.Proofs.YthimaecnpkcmeaaW.PrintMore
theorem w64 {x:Int} (h0 : -9223372036854775808≤x) (h1:x < 9223372036854775808):wrap64 x=x:=by unfold wrap64;omega
theorem fuel {d k:Nat} (h:d < k) : ∃ m,k=m+1:=⟨k - 1,by omega⟩
def sumLo (l:List S50):Int:=(l.map fun x=>x.f0.f0).sum
def sumHi (l:List S50):Int:=(l.map fun x=>x.f0.f1).sum
def okB (x:S50):Bool:=decide (0≤x.f0.f0) && (decide (x.f0.f0≤x.f0.f1) && (decide (x.f0.f1≤1073741824) && (decide (0≤x.f1) && (decide (x.f1≤10000) && (decide (0≤x.f2) && decide (x.f2≤1048576))))))
theorem okB_iff {x:S50}:okB x=true↔0≤x.f0.f0∧x.f0.f0≤x.f0.f1∧x.f0.f1≤1073741824∧0≤x.f1∧x.f1≤10000∧0≤x.f2∧x.f2≤1048576:=by simp [okB]
theorem it_get (l:List S50) (i:Nat) (h:i < l.length):rd_T50 l (i:Int)=l[i]:=by
 unfold rd_T50;simp [List.getD_eq_getElem?_getD,h]
theorem rd_get (l:List Int) (i:Nat) (h:i < l.length):rd l (i:Int)=l[i]:=by
 unfold rd;simp [List.getD_eq_getElem?_getD,h]
theorem it_mem (l:List S50) (j:Int) (h0:0≤j) (h1:j < l.length):rd_T50 l j ∈ l:=by
 obtain ⟨i,rfl⟩:=Int.eq_ofNat_of_zero_le h0
 rw [it_get l i (by omega)]
 exact List.getElem_mem _
theorem sumLo_succ (l:List S50) (i:Nat) (h:i < l.length):sumLo (l.take (i+1))=sumLo (l.take i)+l[i].f0.f0:=by
 unfold sumLo;rw [List.take_succ_eq_append_getElem h];simp only [List.map_append,List.sum_append,List.map_cons,List.map_nil,List.sum_cons,List.sum_nil,Int.add_zero]
theorem sumHi_succ (l:List S50) (i:Nat) (h:i < l.length):sumHi (l.take (i+1))=sumHi (l.take i)+l[i].f0.f1:=by
 unfold sumHi;rw [List.take_succ_eq_append_getElem h];simp only [List.map_append,List.sum_append,List.map_cons,List.map_nil,List.sum_cons,List.sum_nil,Int.add_zero]
theorem sum_bd (l:List S50) (h:l.all okB=true):0≤sumLo l∧sumLo l≤sumHi l∧sumHi l≤1073741824*l.length:=by
 induction l with
 | nil=>simp [sumLo,sumHi]
 | cons x xs ih =>
  simp only [List.all_cons,Bool.and_eq_true] at h
  have h1:=okB_iff.1 h.1
  have h2:=ih h.2
  have e1:sumLo (x :: xs)=x.f0.f0+sumLo xs:=by simp [sumLo]
  have e2:sumHi (x :: xs)=x.f0.f1+sumHi xs:=by simp [sumHi]
  rw [e1,e2,List.length_cons]
  omega
theorem all_take {l:List S50} (h:l.all okB=true) (i:Nat):(l.take i).all okB=true:=by
 rw [List.all_eq_true] at h ⊢
 exact fun x hx=>h x (List.mem_of_mem_take hx)
theorem all_get {l:List S50} (h:l.all okB=true) (i:Nat) (hi:i < l.length):okB l[i]=true:=List.all_eq_true.1 h _ (List.getElem_mem _)
theorem all_it {l:List S50} (h:l.all okB=true) (j:Int) (h0:0≤j) (h1:j < l.length):okB (rd_T50 l j)=true:=List.all_eq_true.1 h _ (it_mem l j h0 h1)
theorem wnext {i n:Nat} (h:i < n) (hn:n≤9223372036854775807):wrap64 ((i:Int)+1)=((i+1:Nat):Int):=by rw [w64 (by omega) (by omega)];omega
theorem all_l0 (l:List S50) (h:l.all okB=true) (hl:l.length≤12) : ∀ d i k,i+d=l.length→d < k→orders_all.l0 k l l.length (i:Int) (sumLo (l.take i)) (sumHi (l.take i))=some (sumLo l,sumHi l):=by
 intro d
 induction d with
 | zero =>
  intro i k hi hk
  obtain ⟨k,rfl⟩:=fuel hk
  simp only [orders_all.l0]
  rw [if_neg (by omega),List.take_of_length_le (by omega)]
 | succ d ih =>
  intro i k hi hk
  obtain ⟨k,rfl⟩:=fuel hk
  have hil:i < l.length:=by omega
  have hb:=sum_bd _ (all_take h i)
  have hlt:=List.length_take_le i l
  have ho:=okB_iff.1 (all_get h i hil)
  simp only [orders_all.l0]
  rw [if_pos (by omega),if_pos (by omega),if_pos (by omega),it_get l i hil,wnext hil (by omega),w64 (x:=sumLo _+_) (by omega) (by omega),w64 (x:=sumHi _+_) (by omega) (by omega),← sumLo_succ l i hil,← sumHi_succ l i hil]
  exact ih (i+1) k (by omega) (by omega)
theorem all_eq (l:List S50) (a b:Int) (h:l.all okB=true) (hl:l.length≤12) (k:Nat) (hk:12 < k):orders_all.f k l a b=some (sumLo l,sumHi l) :=
 all_l0 l h hl l.length 0 k (by omega) (by omega)
theorem refAll_l0 (l:List S50) (a b:Int) (h:l.all okB=true) (hl:l.length≤12) : ∀ d i k,i+d=l.length→d < k→acreageref08_All.l0 k (i:Int) l a b (sumLo (l.take i)) (sumHi (l.take i))=some (sumLo l,sumHi l):=by
 intro d
 induction d with
 | zero =>
  intro i k hi hk
  obtain ⟨k,rfl⟩:=fuel hk
  simp only [acreageref08_All.l0]
  rw [if_neg (by omega),List.take_of_length_le (by omega)]
 | succ d ih =>
  intro i k hi hk
  obtain ⟨k,rfl⟩:=fuel hk
  have hil:i < l.length:=by omega
  have hb:=sum_bd _ (all_take h i)
  have hlt:=List.length_take_le i l
  have ho:=okB_iff.1 (all_get h i hil)
  simp only [acreageref08_All.l0]
  rw [if_pos (by omega),if_pos (by omega),it_get l i hil,wnext hil (by omega),w64 (x:=sumLo _+_) (by omega) (by omega),w64 (x:=sumHi _+_) (by omega) (by omega),← sumLo_succ l i hil,← sumHi_succ l i hil]
  exact ih (i+1) k (by omega) (by omega)
theorem refAll_eq (l:List S50) (a b:Int) (h:l.all okB=true) (hl:l.length≤12) (k:Nat) (hk:12 < k):acreageref08_All.f k l a b=some (sumLo l,sumHi l) :=
 refAll_l0 l a b h hl l.length 0 k (by omega) (by omega)
def validB (l:List S50) (a b:Int):Bool:=decide (1≤l.length) && (decide (l.length≤12) && (decide (0≤a) && (decide (a≤b) && (decide (b≤17179869184) && (l.all okB && (decide (sumLo l≤b) && decide (a≤sumHi l)))))))
theorem validB_iff {l:List S50} {a b:Int}:validB l a b=true↔1≤l.length∧l.length≤12∧0≤a∧a≤b∧b≤17179869184∧l.all okB=true∧sumLo l≤b∧a≤sumHi l:=by simp [validB]
theorem drop_all (l:List S50) (i:Nat) (h:i < l.length):(l.drop i).all okB=(okB l[i] && (l.drop (i+1)).all okB):=by rw [List.drop_eq_getElem_cons h,List.all_cons]
theorem refValid_l0 (l:List S50) (a b:Int) (hl:l.length≤12) : ∀ d i k,i+d=l.length→d+20 < k→(l.take i).all okB=true→acreageref08_Valid.l0 k (i:Int) l a b=some ((l.drop i).all okB && (decide (sumLo l≤b) && decide (a≤sumHi l))):=by
 intro d
 induction d with
 | zero =>
  intro i k hi hk ht
  obtain ⟨k,rfl⟩:=fuel hk
  rw [List.take_of_length_le (by omega)] at ht
  simp only [acreageref08_Valid.l0]
  rw [if_neg (by omega),refAll_eq l a b ht hl k (by omega),List.drop_of_length_le (by omega)]
  simp only [Option.bind_some,List.all_nil,Bool.true_and]
  split
  ·rename_i h;simp [h]
  ·rename_i h;simp [h]
 | succ d ih =>
  intro i k hi hk ht
  obtain ⟨k,rfl⟩:=fuel hk
  have hil:i < l.length:=by omega
  simp only [acreageref08_Valid.l0]
  rw [if_pos (by omega),if_pos (by omega),it_get l i hil,wnext hil (by omega),drop_all l i hil]
  cases hok:okB l[i] with
  | true =>
   have ho:=okB_iff.1 hok
   rw [if_neg (by omega),if_neg (by omega),if_neg (by omega),if_neg (by omega),if_neg (by omega),if_neg (by omega),if_neg (by omega)]
   rw [Bool.true_and]
   exact ih (i+1) k (by omega) (by omega) (by rw [List.take_succ_eq_append_getElem hil,List.all_append,ht];simp [hok])
  | false =>
   rw [Bool.false_and]
   repeat' split
   all_goals first
    | rfl
    | (exfalso;have:okB l[i]=true:=okB_iff.2 (by omega);rw [hok] at this;cases this)
theorem refValid_eq (l:List S50) (a b:Int) (k:Nat) (hk:40 < k):acreageref08_Valid.f k l a b=some (validB l a b):=by
 obtain ⟨k,rfl⟩:=fuel hk
 unfold acreageref08_Valid.f validB
 have hj:acreageref08_Valid.j0 (k+1) true l a b=some false:=by simp [acreageref08_Valid.j0]
 split
 ·rename_i h;rw [hj];simp;omega
 split
 ·rename_i h;rw [hj];simp;omega
 split
 ·rename_i h;rw [hj];simp;omega
 split
 ·rename_i h;rw [hj];simp;omega
 ·rename_i h1 h2 h3 h4
  simp only [acreageref08_Valid.j0]
  by_cases h5:b > 17179869184
  ·rw [if_pos (by simpa using h5)]
   simp;omega
  ·rw [if_neg (by simpa using h5)]
   have:=refValid_l0 l a b (by omega) l.length 0 k (by omega) (by omega) (by simp)
   rw [Int.natCast_zero] at this
   rw [this]
   have e1:decide (1≤l.length)=true:=by simp;omega
   have e2:decide (l.length≤12)=true:=by simp;omega
   have e3:decide (0≤a)=true:=by simp;omega
   have e4:decide (a≤b)=true:=by simp;omega
   have e5:decide (b≤17179869184)=true:=by simp;omega
   rw [e1,e2,e3,e4,e5]
   simp
theorem span_eq (x y m:Int):orders_span.f x y m=some (decide (0≤x) && (decide (x≤y) && decide (y≤m))):=by
 unfold orders_span.f
 split
 ·rename_i h1
  split
  ·rename_i h2;simp [h2];intro;omega
  ·rename_i h2;simp [h2]
 ·rename_i h1;simp;intro;omega
theorem within_eq (x y m:Int):orders_within.f x y m=some (decide (y≤x) && decide (x≤m)):=by
 unfold orders_within.f
 split
 ·rename_i h1;simp;intro;omega
 ·rename_i h1;simp;intro;omega
theorem common_eq (x y z u:Int):orders_common.f x y z u=some (mx x z,mn y u,decide (mx x z≤mn y u)):=rfl
theorem meet_iff (x y z u:Int) (h1:x≤y) (h2:z≤u):decide (mx x z≤mn y u)=(decide (x≤u) && decide (z≤y)):=by
 rw [Bool.eq_iff_iff];simp;unfold mx mn;omega
theorem check_l0 (l:List S50) (a b:Int) (hl:l.length≤12) (hab:a≤b) : ∀ d i k,i+d=l.length→d+20 < k→(l.take i).all okB=true→orders_Check.l0 k l l.length (i:Int) l a b=some (if ((l.drop i).all okB && (decide (sumLo l≤b) && decide (a≤sumHi l)))=true then 0 else 80):=by
 intro d
 induction d with
 | zero =>
  intro i k hi hk ht
  obtain ⟨k,rfl⟩:=fuel hk
  rw [List.take_of_length_le (by omega)] at ht
  have hb:=sum_bd l ht
  simp only [orders_Check.l0]
  rw [if_neg (by omega),all_eq l a b ht hl k (by omega),List.drop_of_length_le (by omega)]
  simp only [Option.bind_some,List.all_nil,Bool.true_and,common_eq]
  rw [meet_iff _ _ _ _ (by omega) hab]
  split <;> rfl
 | succ d ih =>
  intro i k hi hk ht
  obtain ⟨k,rfl⟩:=fuel hk
  have hil:i < l.length:=by omega
  simp only [orders_Check.l0]
  rw [if_pos (by omega),if_pos (by omega),if_pos (by omega),it_get l i hil,wnext hil (by omega),drop_all l i hil]
  simp only [span_eq,within_eq,Option.bind_some]
  cases hok:okB l[i] with
  | true =>
   have ho:=okB_iff.1 hok
   rw [if_pos (by simp;omega),if_pos (by simp;omega),if_pos (by simp;omega)]
   rw [Bool.true_and]
   exact ih (i+1) k (by omega) (by omega) (by rw [List.take_succ_eq_append_getElem hil,List.all_append,ht];simp [hok])
  | false =>
   simp only [Bool.false_and,Bool.false_eq_true,if_false]
   split
   ·rename_i h1
    split
    ·rename_i h2
     split
     ·rename_i h3
      exfalso
      simp at h1 h2 h3
      have:okB l[i]=true:=okB_iff.2 (by omega)
      rw [hok] at this
      cases this
     ·rfl
    ·rfl
   ·rfl
theorem check_eq (l:List S50) (a b:Int) (k:Nat) (hk:40 < k):orders_Check.f k l a b=some (if validB l a b=true then 0 else 80):=by
 obtain ⟨k,rfl⟩:=fuel hk
 unfold orders_Check.f validB
 have hj:orders_Check.j0 (k+1) true l a b=some 80:=by simp [orders_Check.j0]
 simp only [span_eq,within_eq,Option.bind_some]
 split
 ·rename_i h
  simp at h
  simp only [orders_Check.j0]
  cases hs:(decide (0≤a) && (decide (a≤b) && decide (b≤17179869184)))
  ·rw [if_pos (by simp)]
   simp at hs
   rw [if_neg]
   simp
   intro h1 h2 h3 h4 h5
   have:=hs h3 h4
   omega
  ·rw [if_neg (by simp)]
   simp at hs
   have:=check_l0 l a b (by omega) (by omega) l.length 0 k (by omega) (by omega) (by simp)
   rw [Int.natCast_zero] at this
   rw [this]
   have e1:decide (1≤l.length)=true:=by simp;omega
   have e2:decide (l.length≤12)=true:=by simp;omega
   have e3:decide (0≤a)=true:=by simp;omega
   have e4:decide (a≤b)=true:=by simp;omega
   have e5:decide (b≤17179869184)=true:=by simp;omega
   rw [e1,e2,e3,e4,e5]
   simp
 ·rename_i h
  rw [hj]
  simp at h
  rw [if_neg]
  simp
  intro h1 h2
  omega
end Go.Proofs.Ythimaecnpkcmeaa.Pure
namespace Go.Proofs.Ythimaecnpkcmeaa.Pure
open Go.RowKit Go.Proofs.Ythimaecnpkcmeaa.K Go.Proofs.YthimaecnpkcmeaaW.PrintWords Go.Proofs.YthimaecnpkcmeaaW.PrintLast Go.Proofs.YthimaecnpkcmeaaW.PrintMore
def rightFrom (n:Int):Int→List Int→Bool
 | _,[]=>true
 | p,i :: is=>decide (0≤i) && (decide (i < n) && (decide (p < i) && rightFrom n i is))
theorem rightFrom_cons {n p i:Int} {is:List Int}:rightFrom n p (i :: is)=true↔0≤i∧i < n∧p < i∧rightFrom n i is=true:=by simp [rightFrom]
theorem rightFrom_mem {n:Int} : ∀ {is:List Int} {p:Int},rightFrom n p is=true→∀ j ∈ is,0≤j∧j < n∧p < j
 | [],_,_,j,hj=>by simp at hj
 | i :: is,p,h,j,hj=>by
  obtain ⟨h1,h2,h3,h4⟩:=rightFrom_cons.1 h
  rcases List.mem_cons.1 hj with rfl|hj
  ·exact ⟨h1,h2,h3⟩
  ·have:=rightFrom_mem h4 j hj;omega
theorem rightFrom_length {n:Int} : ∀ {is:List Int} {p:Int},rightFrom n p is=true→-1≤p→p < n→(is.length:Int)≤n - 1 - p
 | [],p,_,_,_=>by simp;omega
 | i :: is,p,h,h0,hp=>by
  obtain ⟨h1,h2,h3,h4⟩:=rightFrom_cons.1 h
  have:=rightFrom_length h4 (by omega) h2
  simp only [List.length_cons]
  omega
def before (items:List Int) (i:Nat):Int:=if i=0 then -1 else rd items ((i - 1:Nat):Int)
theorem right_l0 (l:List S50) (a b:Int) (items:List Int) (hl:1≤l.length) (hl2:l.length≤12) (hn:items.length≤9223372036854775807) : ∀ d i k,i+d=items.length→d < k →
 orders_right.l0 k items items items.length (i:Int) l a b=some (bif rightFrom l.length (before items i) (items.drop i) then 0 else 1):=by
 intro d
 induction d with
 | zero =>
  intro i k hi hk
  obtain ⟨k,rfl⟩:=fuel hk
  simp only [orders_right.l0]
  rw [if_neg (by omega),List.drop_of_length_le (by omega)]
  rfl
 | succ d ih =>
  intro i k hi hk
  obtain ⟨k,rfl⟩:=fuel hk
  have hil:i < items.length:=by omega
  simp only [orders_right.l0]
  rw [if_pos (by omega),if_pos (by omega),if_pos (by omega),rd_get items i hil,wnext hil hn,List.drop_eq_getElem_cons hil,w64 (x:=(l.length:Int) - 1) (by omega) (by omega)]
  simp only [within_eq,Option.bind_some,rightFrom]
  have ihx:=ih (i+1) k (by omega) (by omega)
  have hbx:before items (i+1)=items[i]:=by unfold before;rw [if_neg (by omega),Nat.add_sub_cancel,rd_get items i hil]
  rw [hbx] at ihx
  by_cases c:0≤items[i]∧items[i] < l.length
  ·rw [if_pos (by simp;omega)]
   have e1:decide (0≤items[i])=true:=decide_eq_true c.1
   have e2:decide (items[i] < (l.length:Int))=true:=decide_eq_true c.2
   rw [e1,e2]
   simp only [Bool.true_and]
   by_cases hi0:i=0
   ·subst hi0
    rw [if_neg (by simp)]
    have e3:decide (before items 0 < items[0])=true:=by simp [before];omega
    rw [e3,Bool.true_and]
    exact ihx
   ·have hw:wrap64 ((i:Int) - 1)=((i - 1:Nat):Int):=by rw [w64 (by omega) (by omega)];omega
    have hb:before items i=rd items ((i - 1:Nat):Int):=by unfold before;rw [if_neg hi0]
    rw [if_pos (by omega),hw,if_pos (by omega),if_pos (by omega),← hb]
    by_cases c3:before items i < items[i]
    ·rw [if_neg (by omega),decide_eq_true c3,Bool.true_and]
     exact ihx
    ·rw [if_pos (by omega),decide_eq_false c3]
     rfl
  ·rw [if_neg (by simp;omega)]
   have:(decide (0≤items[i]) && (decide (items[i] < (l.length:Int)) && (decide (before items i < items[i]) && rightFrom (↑l.length) items[i] (List.drop (i+1) items))))=false:=by
    by_cases h0:0≤items[i]
    ·have : ¬ items[i] < (l.length:Int):=fun h=>c ⟨h0,h⟩
     simp [this]
    ·simp [h0]
   rw [this]
   rfl
theorem right_eq (l:List S50) (a b:Int) (items:List Int) (hn:items.length≤9223372036854775807) (k:Nat) (hk:40+items.length < k) :
 orders_right.f k l a b items=some (if validB l a b=true then (if rightFrom l.length (-1) items=true then 0 else 1) else 80):=by
 unfold orders_right.f
 rw [check_eq l a b k (by omega)]
 simp only [Option.bind_some]
 by_cases hv:validB l a b=true
 ·have hv':=validB_iff.1 hv
  simp only [hv,if_true]
  have:=right_l0 l a b items hv'.1 hv'.2.1 hn items.length 0 k (by omega) (by omega)
  rw [Int.natCast_zero] at this
  rw [this,Bool.cond_eq_ite]
  rfl
 ·simp [hv]
theorem bounds_eq (l:List S50) (a b:Int) (items:List Int) (low high:Int) (hn:items.length≤9223372036854775807) (k:Nat) (hk:40+items.length < k) :
 orders_bounds.f k l a b items low high=some (if validB l a b=true then (if rightFrom l.length (-1) items=true then (if low < high∧-1099511627776≤low∧high≤1099511627776 then 0 else 1) else 1) else 80):=by
 unfold orders_bounds.f
 rw [right_eq l a b items hn k hk]
 simp only [Option.bind_some]
 by_cases hv:validB l a b=true
 ·simp only [hv,if_true]
  by_cases hr:rightFrom l.length (-1) items=true
  ·simp only [hr,if_true]
   by_cases h1:low≥high
   ·rw [if_pos h1,if_neg (by omega)]
   ·rw [if_neg h1]
    by_cases h2:low < -1099511627776
    ·rw [if_pos h2,if_neg (by omega)]
    ·rw [if_neg h2]
     by_cases h3:high > 1099511627776
     ·rw [if_pos h3,if_neg (by omega)]
     ·rw [if_neg h3,if_pos (by omega)]
  ·simp [hr]
 ·simp [hv]
theorem refRight_l0 (l:List S50) (a b:Int) (items:List Int) (hn:items.length≤9223372036854775807) : ∀ d i k,i+d=items.length→d < k →
 acreageref08_Right.l0 k items (i:Int) l a b=some (rightFrom l.length (before items i) (items.drop i)):=by
 intro d
 induction d with
 | zero =>
  intro i k hi hk
  obtain ⟨k,rfl⟩:=fuel hk
  simp only [acreageref08_Right.l0]
  rw [if_neg (by omega),List.drop_of_length_le (by omega)]
  rfl
 | succ d ih =>
  intro i k hi hk
  obtain ⟨k,rfl⟩:=fuel hk
  have hil:i < items.length:=by omega
  simp only [acreageref08_Right.l0]
  rw [if_pos (by omega),if_pos (by omega),rd_get items i hil,wnext hil hn,List.drop_eq_getElem_cons hil]
  simp only [rightFrom]
  have ihx:=ih (i+1) k (by omega) (by omega)
  have hbx:before items (i+1)=items[i]:=by unfold before;rw [if_neg (by omega),Nat.add_sub_cancel,rd_get items i hil]
  rw [hbx] at ihx
  by_cases c1:items[i] < 0
  ·rw [if_pos c1]
   have e1:decide (0≤items[i])=false:=decide_eq_false (by omega)
   rw [e1]
   rfl
  ·rw [if_neg c1]
   have e1:decide (0≤items[i])=true:=decide_eq_true (by omega)
   rw [e1,Bool.true_and]
   by_cases c2:items[i]≥(l.length:Int)
   ·rw [if_pos c2]
    have e1:decide (items[i] < (l.length:Int))=false:=decide_eq_false (by omega)
    rw [e1]
    rfl
   ·rw [if_neg c2]
    have e1:decide (items[i] < (l.length:Int))=true:=decide_eq_true (by omega)
    rw [e1,Bool.true_and]
    by_cases hi0:i=0
    ·subst hi0
     rw [if_neg (by simp)]
     have e3:decide (before items 0 < items[0])=true:=by simp [before];omega
     rw [e3,Bool.true_and]
     exact ihx
    ·have hw:wrap64 ((i:Int) - 1)=((i - 1:Nat):Int):=by rw [w64 (by omega) (by omega)];omega
     have hb:before items i=rd items ((i - 1:Nat):Int):=by unfold before;rw [if_neg hi0]
     rw [if_pos (by omega),hw,if_pos (by omega),if_pos (by omega),← hb]
     by_cases c3:before items i < items[i]
     ·rw [if_neg (by omega),decide_eq_true c3,Bool.true_and]
      exact ihx
     ·rw [if_pos (by omega),decide_eq_false c3]
      simp
theorem refRight_eq (l:List S50) (a b:Int) (items:List Int) (hn:items.length≤9223372036854775807) (k:Nat) (hk:items.length < k) :
 acreageref08_Right.f k l a b items=some (rightFrom l.length (-1) items):=by
 have:=refRight_l0 l a b items hn items.length 0 k (by omega) (by omega)
 rw [Int.natCast_zero] at this
 exact this
def gz (x:S50):Int:=mx 0 (x.f0.f1 - x.f0.f0 - 2*x.f2)
theorem gz_bd {x:S50} (h:okB x=true):0≤gz x∧gz x≤x.f0.f1 - x.f0.f0∧gz x≤1073741824:=by
 have:=okB_iff.1 h;unfold gz mx;omega
theorem gain_eq {x:S50} (h:okB x=true):orders_gain.f x.f0.f0 x.f0.f1 x.f1 x.f2=some (gz x):=by
 have:=okB_iff.1 h
 unfold orders_gain.f gz
 rw [w64 (x:=x.f0.f1 - x.f0.f0) (by omega) (by omega),w64 (x:=2*x.f2) (by omega) (by omega),w64 (by omega) (by omega)]
def gsum (l:List S50) (items:List Int):Int:=(items.map fun j=>gz (rd_T50 l j)).sum
theorem gains_l0 (l:List S50) (a b:Int) (h:l.all okB=true) (items:List Int) (hr : ∀ j ∈ items,0≤j∧j < (l.length:Int)) (hn:items.length≤40) : ∀ d i k acc,i+d=items.length→d < k→acc.length≤i →
 orders_gains.l0 k acc items items.length (i:Int) l a b=some (acc ++ (items.drop i).map fun j=>gz (rd_T50 l j)):=by
 intro d
 induction d with
 | zero =>
  intro i k acc hi hk ha
  obtain ⟨k,rfl⟩:=fuel hk
  simp only [orders_gains.l0]
  rw [if_neg (by omega),List.drop_of_length_le (by omega)]
  simp
 | succ d ih =>
  intro i k acc hi hk ha
  obtain ⟨k,rfl⟩:=fuel hk
  have hil:i < items.length:=by omega
  have hm:=hr _ (List.getElem_mem hil)
  simp only [orders_gains.l0]
  rw [if_pos (by omega),if_pos (by omega),if_pos (by omega),rd_get items i hil,wnext hil (by omega),if_pos hm.1,if_pos hm.2,gain_eq (all_it h _ hm.1 hm.2)]
  simp only [Option.bind_some]
  rw [if_pos (by omega),ih (i+1) k _ (by omega) (by omega) (by simp;omega),List.drop_eq_getElem_cons hil]
  simp only [List.map_cons,List.append_assoc,List.singleton_append]
theorem gains_eq (l:List S50) (a b:Int) (h:l.all okB=true) (items:List Int) (hr : ∀ j ∈ items,0≤j∧j < (l.length:Int)) (hn:items.length≤40) (k:Nat) (hk:40 < k) :
 orders_gains.f k l a b items=some (items.map fun j=>gz (rd_T50 l j)):=by
 have:=gains_l0 l a b h items hr hn items.length 0 k [] (by omega) (by omega) (by simp)
 rw [Int.natCast_zero] at this
 unfold orders_gains.f
 rw [this]
 simp
theorem sum_take_succ (l:List Int) (i:Nat) (h:i < l.length):(l.take (i+1)).sum=(l.take i).sum+l[i]:=by
 rw [List.take_succ_eq_append_getElem h,List.sum_append];simp
theorem sum_bound {B:Int} : ∀ (l:List Int),(∀ x ∈ l,-B≤x∧x≤B)→-(B*l.length)≤l.sum∧l.sum≤B*l.length
 | [],_=>by simp
 | x :: xs,h=>by
  have h1:=h x (by simp)
  have h2:=sum_bound xs fun y hy=>h y (by simp [hy])
  have e:(B*((x :: xs).length:Int))=B*xs.length+B:=by simp only [List.length_cons];rw [Int.natCast_add,Int.natCast_one,Int.mul_add,Int.mul_one]
  rw [e,List.sum_cons]
  omega
theorem total_l0 (l:List Int) (hb : ∀ x ∈ l,-1099511627776≤x∧x≤1099511627776) (hn:l.length≤40) : ∀ d i k,i+d=l.length→d < k→orders_total.l0 k (l.take i).sum l l.length (i:Int)=some l.sum:=by
 intro d
 induction d with
 | zero =>
  intro i k hi hk
  obtain ⟨k,rfl⟩:=fuel hk
  simp only [orders_total.l0]
  rw [if_neg (by omega),List.take_of_length_le (by omega)]
 | succ d ih =>
  intro i k hi hk
  obtain ⟨k,rfl⟩:=fuel hk
  have hil:i < l.length:=by omega
  have h1:=sum_bound (B:=1099511627776) (l.take i) fun x hx=>hb x (List.mem_of_mem_take hx)
  have h2:=hb _ (List.getElem_mem hil)
  have h3:=List.length_take_le i l
  simp only [orders_total.l0]
  rw [if_pos (by omega),if_pos (by omega),if_pos (by omega),rd_get l i hil,wnext hil (by omega),w64 (x:=_+l[i]) (by omega) (by omega),← sum_take_succ l i hil]
  exact ih (i+1) k (by omega) (by omega)
theorem total_eq (l:List Int) (hb : ∀ x ∈ l,-1099511627776≤x∧x≤1099511627776) (hn:l.length≤40) (k:Nat) (hk:40 < k):orders_total.f k l=some l.sum :=
 total_l0 l hb hn l.length 0 k (by omega) (by omega)
theorem gsum_bd (l:List S50) (h:l.all okB=true) : ∀ (items:List Int),(∀ j ∈ items,0≤j∧j < (l.length:Int))→0≤gsum l items∧gsum l items≤1073741824*items.length
 | [],_=>by simp [gsum]
 | i :: is,hr=>by
  have h1:=hr i (by simp)
  have h2:=gz_bd (all_it h i h1.1 h1.2)
  have h3:=gsum_bd l h is fun j hj=>hr j (by simp [hj])
  have e:gsum l (i :: is)=gz (rd_T50 l i)+gsum l is:=by simp [gsum]
  rw [e,List.length_cons]
  omega
theorem sumW_set (l:List S50) (i:Nat) (hi:i < l.length) (x:S50):sumLo (l.set i x)=sumLo l - l[i].f0.f0+x.f0.f0∧sumHi (l.set i x)=sumHi l - l[i].f0.f1+x.f0.f1:=by
 induction l generalizing i with
 | nil=>simp at hi
 | cons y ys ih =>
  cases i with
  | zero=>simp [sumLo,sumHi];omega
  | succ i =>
   have:=ih i (by simpa using hi)
   have a1:sumLo (y :: ys)=y.f0.f0+sumLo ys:=by simp [sumLo]
   have a2:sumHi (y :: ys)=y.f0.f1+sumHi ys:=by simp [sumHi]
   have a3:sumLo ((y :: ys).set (i+1) x)=y.f0.f0+sumLo (ys.set i x):=by simp [sumLo]
   have a4:sumHi ((y :: ys).set (i+1) x)=y.f0.f1+sumHi (ys.set i x):=by simp [sumHi]
   rw [a1,a2,a3,a4,List.getElem_cons_succ]
   omega
theorem it_set_ne (l:List S50) (i j:Int) (x:S50) (hi:0≤i) (hj:0≤j) (h:j≠i):rd_T50 (l.set i.toNat x) j=rd_T50 l j:=by
 unfold rd_T50
 rw [List.getD_eq_getElem?_getD,List.getD_eq_getElem?_getD,List.getElem?_set_ne (by omega)]
theorem it_set_self (l:List S50) (i:Int) (x:S50) (hi:0≤i) (h:i < l.length):rd_T50 (l.set i.toNat x) i=x:=by
 unfold rd_T50
 rw [List.getD_eq_getElem?_getD,List.getElem?_set_self (by omega)]
 rfl
theorem all_set (l:List S50) (h:l.all okB=true) (i:Nat) (x:S50) (hx:okB x=true):(l.set i x).all okB=true:=by
 rw [List.all_eq_true] at h ⊢
 intro y hy
 rcases List.mem_or_eq_of_mem_set hy with hy|rfl
 ·exact h y hy
 ·exact hx
theorem it_toNat (l:List S50) (i:Int) (h0:0≤i) (h:i < l.length):rd_T50 l i=l[i.toNat]'(by omega):=by
 have:=it_get l i.toNat (by omega)
 rw [Int.toNat_of_nonneg h0] at this
 exact this
theorem gsum_width (l0:List S50) : ∀ (items:List Int) (p:Int) (l:List S50),l.length=l0.length→l.all okB=true→rightFrom l0.length p items=true→(∀ j ∈ items,rd_T50 l j=rd_T50 l0 j)→gsum l0 items≤sumHi l - sumLo l
 | [],p,l,hl,h,_,_=>by have:=sum_bd l h;simp [gsum];omega
 | i :: is,p,l,hl,h,hr,hs=>by
  obtain ⟨h1,h2,h3,h4⟩:=rightFrom_cons.1 hr
  have hi:=hs i (by simp)
  have ho:=all_it h i h1 (by omega)
  have hg:=gz_bd ho
  have hm:=okB_iff.1 ho
  let x:S50:=⟨⟨(rd_T50 l i).f0.f0,(rd_T50 l i).f0.f0⟩,(rd_T50 l i).f1,(rd_T50 l i).f2⟩
  have hx:okB x=true:=okB_iff.2 ⟨hm.1,Int.le_refl _,by show (rd_T50 l i).f0.f0≤_;omega,hm.2.2.2⟩
  have:=gsum_width l0 is i (l.set i.toNat x) (by simp [hl]) (all_set l h _ _ hx) h4 (fun j hj=>by
   have:=rightFrom_mem h4 j hj
   rw [it_set_ne l i j x h1 this.1 (by omega)]
   exact hs j (by simp [hj]))
  have hw:=sumW_set l i.toNat (by omega) x
  rw [← it_toNat l i h1 (by omega)] at hw
  have e:gsum l0 (i :: is)=gz (rd_T50 l0 i)+gsum l0 is:=by simp [gsum]
  have e1:x.f0.f0=(rd_T50 l i).f0.f0:=rfl
  have e2:x.f0.f1=(rd_T50 l i).f0.f0:=rfl
  rw [e,← hi]
  omega
end Go.Proofs.Ythimaecnpkcmeaa.Pure
namespace Go.Proofs.Ythimaecnpkcmeaa.Pure
open Go.RowKit Go.Proofs.Ythimaecnpkcmeaa.K Go.Proofs.YthimaecnpkcmeaaW.PrintWords Go.Proofs.YthimaecnpkcmeaaW.PrintLast Go.Proofs.YthimaecnpkcmeaaW.PrintMore
theorem windowOf_eq (l:List S50) (a b g:Int) (h:l.all okB=true) (hl:l.length≤12) (k:Nat) (hk:12 < k) (h0:0≤g) (h1:g≤1099511627776):orders_windowOf.f k l a b g=some (sumLo l,sumHi l - g,g,a,b):=by
 have:=sum_bd l h
 unfold orders_windowOf.f
 rw [all_eq l a b h hl k hk]
 simp only [Option.bind_some]
 rw [w64 (by omega) (by omega)]
def shownR (l:List S50):List Int→Int→List Int
 | [],_=>[]
 | i :: is,s=>((rd_T50 l i).f0.f0+(rd_T50 l i).f2+mn s (gz (rd_T50 l i))) :: shownR l is (s - mn s (gz (rd_T50 l i)))
theorem shownR_length (l:List S50) : ∀ items s,(shownR l items s).length=items.length
 | [],_=>rfl
 | i :: is,s=>by simp [shownR,shownR_length l is]
theorem shown_l0 (l:List S50) (a b:Int) (h:l.all okB=true) (items:List Int) (hr : ∀ j ∈ items,0≤j∧j < (l.length:Int)) (hn:items.length≤40) : ∀ d i k acc s,i+d=items.length→d < k→acc.length≤i→0≤s→s≤1099511627776 →
 orders_shown.l0 k s acc items items.length (i:Int) l a b=some (acc ++ shownR l (items.drop i) s):=by
 intro d
 induction d with
 | zero =>
  intro i k acc s hi hk ha h0 h1
  obtain ⟨k,rfl⟩:=fuel hk
  simp only [orders_shown.l0]
  rw [if_neg (by omega),List.drop_of_length_le (by omega)]
  simp [shownR]
 | succ d ih =>
  intro i k acc s hi hk ha h0 h1
  obtain ⟨k,rfl⟩:=fuel hk
  have hil:i < items.length:=by omega
  have hm:=hr _ (List.getElem_mem hil)
  have ho:=all_it h _ hm.1 hm.2
  have hg:=gz_bd ho
  have hx:=okB_iff.1 ho
  have hmn:0≤mn s (gz (rd_T50 l items[i]))∧mn s (gz (rd_T50 l items[i]))≤s∧mn s (gz (rd_T50 l items[i]))≤1073741824:=by unfold mn;omega
  simp only [orders_shown.l0]
  rw [if_pos (by omega),if_pos (by omega),if_pos (by omega),rd_get items i hil,wnext hil (by omega),if_pos hm.1,if_pos hm.2,gain_eq ho]
  simp only [Option.bind_some]
  rw [if_pos (by omega),w64 (x:=s - _) (by omega) (by omega),w64 (x:=(rd_T50 l items[i]).f0.f0+_) (by omega) (by omega),w64 (x:=_+mn s _) (by omega) (by omega),ih (i+1) k _ _ (by omega) (by omega) (by simp;omega) (by omega) (by omega),List.drop_eq_getElem_cons hil]
  simp only [shownR,List.append_assoc,List.singleton_append]
theorem shown_eq (l:List S50) (a b s:Int) (h:l.all okB=true) (items:List Int) (hr : ∀ j ∈ items,0≤j∧j < (l.length:Int)) (hn:items.length≤40) (k:Nat) (hk:40 < k) (h0:0≤s) (h1:s≤1099511627776):orders_shown.f k l a b items s=some (shownR l items s):=by
 have:=shown_l0 l a b h items hr hn items.length 0 k [] s (by omega) (by omega) (by simp) h0 h1
 rw [Int.natCast_zero] at this
 unfold orders_shown.f
 rw [this]
 simp
def openS (l:List S50) (a b g low high:Int):Option Int :=
 if mx (mx 0 (a - (sumHi l - g))) (low+1 - (sumHi l - g)) > mn g (b - sumLo l) then none
 else if mx (sumLo l+mx (mx 0 (a - (sumHi l - g))) (low+1 - (sumHi l - g))) a≥high then none
 else if mn (sumHi l - g+mx (mx 0 (a - (sumHi l - g))) (low+1 - (sumHi l - g))) b≤low then none
 else some (mx (mx 0 (a - (sumHi l - g))) (low+1 - (sumHi l - g)))
theorem gsum_total (l:List S50) (h:l.all okB=true) (items:List Int) (hr : ∀ j ∈ items,0≤j∧j < (l.length:Int)) (hn:items.length≤40) (k:Nat) (hk:40 < k):orders_total.f k (items.map fun j=>gz (rd_T50 l j))=some (gsum l items):=by
 rw [total_eq _ (fun x hx=>?_) (by simpa using hn) k hk]
 ·rfl
 ·obtain ⟨j,hj,rfl⟩:=List.mem_map.1 hx
  have:=gz_bd (all_it h j (hr j hj).1 (hr j hj).2)
  omega
theorem open_eq (l:List S50) (a b low high:Int) (items:List Int) (hv:validB l a b=true) (hr:rightFrom l.length (-1) items=true) (h0 : -1099511627776≤low) (h1:low < high) (h2:high≤1099511627776) (k:Nat) (hk:100 < k) :
 orders_open.f k l a b items low high=some (match openS l a b (gsum l items) low high with|none=>([],false)|some s=>(shownR l items s,true)):=by
 have hv:=validB_iff.1 hv
 have hs:=sum_bd l hv.2.2.2.2.2.1
 have hm : ∀ j ∈ items,0≤j∧j < (l.length:Int):=fun j hj=>by have:=rightFrom_mem hr j hj;omega
 have hn:=rightFrom_length hr (by omega) (by omega)
 have hn2:items.length≤12:=by omega
 have hg:=gsum_bd l hv.2.2.2.2.2.1 items hm
 unfold orders_open.f
 rw [gains_eq l a b hv.2.2.2.2.2.1 items hm (by omega) k (by omega)]
 simp only [Option.bind_some]
 rw [gsum_total l hv.2.2.2.2.2.1 items hm (by omega) k (by omega)]
 simp only [Option.bind_some]
 rw [windowOf_eq l a b _ hv.2.2.2.2.2.1 hv.2.1 k (by omega) (by omega) (by omega)]
 simp only [Option.bind_some,orders_window_ends.f,orders_window_seen.f,common_eq]
 generalize gsum l items=g at hg ⊢
 rw [w64 (x:=a - (sumHi l - g)) (by omega) (by omega),w64 (x:=b - sumLo l) (by omega) (by omega),w64 (x:=low+1) (by omega) (by omega),w64 (x:=low+1 - _) (by omega) (by omega)]
 unfold openS
 generalize hS:mx (mx 0 (a - (sumHi l - g))) (low+1 - (sumHi l - g))=s
 by_cases c1:s > mn g (b - sumLo l)
 ·rw [if_pos c1,if_pos c1]
 ·rw [if_neg c1,if_neg c1]
  have hsb:0≤s∧s≤12884901888:=by
   have e1:s≤mn g (b - sumLo l):=by omega
   have e2:mn g (b - sumLo l)≤g:=by unfold mn;omega
   have e3:0≤s:=by rw [← hS];unfold mx;omega
   omega
  rw [w64 (x:=sumLo l+s) (by omega) (by omega),w64 (x:=sumHi l - g+s) (by omega) (by omega)]
  by_cases c2:mx (sumLo l+s) a≥high
  ·rw [if_pos c2,if_pos c2]
  ·rw [if_neg c2,if_neg c2]
   by_cases c3:mn (sumHi l - g+s) b≤low
   ·rw [if_pos c3,if_pos c3]
   ·rw [if_neg c3,if_neg c3,shown_eq l a b s hv.2.2.2.2.2.1 items hm (by omega) k (by omega) (by omega) (by omega)]
    rfl
theorem decides_eq (l:List S50) (a b low high:Int) (items:List Int) (hn:items.length≤9223372036854775807) (k:Nat) (hk:100+items.length < k) (hv:validB l a b=true) (hr:rightFrom l.length (-1) items=true) (h0 : -1099511627776≤low) (h1:low < high) (h2:high≤1099511627776) :
 orders_Decides.f k l a b items low high=some ((openS l a b (gsum l items) low high).isNone,0):=by
 unfold orders_Decides.f
 rw [bounds_eq l a b items low high hn k (by omega)]
 simp only [Option.bind_some,hv,hr,if_true]
 rw [if_pos (by omega),open_eq l a b low high items hv hr h0 h1 h2 k (by omega)]
 cases openS l a b (gsum l items) low high <;> rfl
theorem Open_eq (l:List S50) (a b low high:Int) (items:List Int) (hn:items.length≤9223372036854775807) (k:Nat) (hk:100+items.length < k) (hv:validB l a b=true) (hr:rightFrom l.length (-1) items=true) (h0 : -1099511627776≤low) (h1:low < high) (h2:high≤1099511627776) :
 orders_Open.f k l a b items low high=some (match openS l a b (gsum l items) low high with|none=>([],false,0)|some s=>(shownR l items s,true,0)):=by
 unfold orders_Open.f
 rw [bounds_eq l a b items low high hn k (by omega)]
 simp only [Option.bind_some,hv,hr,if_true]
 rw [if_pos (by omega),open_eq l a b low high items hv hr h0 h1 h2 k (by omega)]
 cases openS l a b (gsum l items) low high <;> rfl
def newIt (x:S50) (s:Int):S50:=⟨⟨mx x.f0.f0 (s - x.f2),mn x.f0.f1 (s+x.f2)⟩,x.f1,x.f2⟩
def measR:List S50→List Int→List Int→Option (List S50)
 | cur,[],_=>some cur
 | _,_ :: _,[]=>none
 | cur,i :: is,s :: ss=>if mx (rd_T50 cur i).f0.f0 (s - (rd_T50 cur i).f2)≤mn (rd_T50 cur i).f0.f1 (s+(rd_T50 cur i).f2) then measR (cur.set i.toNat (newIt (rd_T50 cur i) s)) is ss else none
theorem newIt_ok {x:S50} {s:Int} (h:okB x=true) (hm:mx x.f0.f0 (s - x.f2)≤mn x.f0.f1 (s+x.f2)):okB (newIt x s)=true:=by
 have:=okB_iff.1 h
 refine okB_iff.2 ⟨?_,hm,?_,this.2.2.2⟩
 ·show 0≤mx x.f0.f0 (s - x.f2);unfold mx;omega
 ·show mn x.f0.f1 (s+x.f2)≤1073741824;unfold mn;omega
def inB (s:Int):Bool:=decide (-1048576≤s) && decide (s≤1074790400)
theorem inB_iff {s:Int}:inB s=true↔-1048576≤s∧s≤1074790400:=by simp [inB]
def measEnd (out:Option (List S50)) (a b:Int):List S50 × Int × Int × Int :=
 match out with
 | none=>([],0,0,4)
 | some l=>if (decide (sumLo l≤b) && decide (a≤sumHi l))=true then (l,a,b,0) else ([],0,0,4)
theorem meas_l0 (a b:Int) (hab:a≤b) (items shown:List Int) (hsl:shown.length=items.length) (hn:items.length≤40) (n:Nat) (hn12:n≤12) (hr : ∀ j ∈ items,0≤j∧j < (n:Int)) (hs : ∀ s ∈ shown,inB s=true) : ∀ d i k cur,i+d=items.length→d+20 < k→cur.length=n→cur.all okB=true →
 orders_Measured.l0 k shown items items.length (i:Int) cur a b=some (measEnd (measR cur (items.drop i) (shown.drop i)) a b):=by
 intro d
 induction d with
 | zero =>
  intro i k cur hi hk hc ho
  obtain ⟨k,rfl⟩:=fuel hk
  have hb:=sum_bd cur ho
  simp only [orders_Measured.l0]
  rw [if_neg (by omega),all_eq cur a b ho (by omega) k (by omega),List.drop_of_length_le (l:=items) (by omega)]
  simp only [Option.bind_some,common_eq,measR,measEnd]
  rw [meet_iff _ _ _ _ (by omega) hab]
  split <;> rfl
 | succ d ih =>
  intro i k cur hi hk hc ho
  obtain ⟨k,rfl⟩:=fuel hk
  have hil:i < items.length:=by omega
  have his:i < shown.length:=by omega
  have hm:=hr _ (List.getElem_mem hil)
  have hok:=all_it ho items[i] hm.1 (by omega)
  have hx:=okB_iff.1 hok
  have hsi:=inB_iff.1 (hs _ (List.getElem_mem his))
  simp only [orders_Measured.l0]
  rw [if_pos (by omega),if_pos (by omega),if_pos (by omega),rd_get items i hil,wnext hil (by omega),if_pos hm.1,if_pos (by omega),if_pos (by omega),rd_get shown i his,List.drop_eq_getElem_cons hil,List.drop_eq_getElem_cons his]
  rw [w64 (x:=shown[i] - _) (by omega) (by omega),w64 (x:=shown[i]+_) (by omega) (by omega)]
  simp only [Option.bind_some,common_eq,measR]
  by_cases c:mx (rd_T50 cur items[i]).f0.f0 (shown[i] - (rd_T50 cur items[i]).f2)≤mn (rd_T50 cur items[i]).f0.f1 (shown[i]+(rd_T50 cur items[i]).f2)
  ·rw [if_pos (by simpa using c),if_pos c]
   exact ih (i+1) k _ (by omega) (by omega) (by simp [hc]) (all_set cur ho _ _ (newIt_ok hok c))
  ·rw [if_neg (by simpa using c),if_neg c]
   rfl
theorem measBad_eq (s:Int):measBad s = !(inB s):=rfl
theorem measured_eq (l:List S50) (a b:Int) (items shown:List Int) (hn:items.length≤9223372036854775807) (k:Nat) (hk:100+items.length < k) (hv:validB l a b=true) (hr:rightFrom l.length (-1) items=true) (hsl:shown.length=items.length) (hs : ∀ s ∈ shown,inB s=true) :
 orders_Measured.f k l a b items shown=some (measEnd (measR l items shown) a b):=by
 have hv':=validB_iff.1 hv
 have hm : ∀ j ∈ items,0≤j∧j < (l.length:Int):=fun j hj=>by have:=rightFrom_mem hr j hj;omega
 have hnl:=rightFrom_length hr (by omega) (by omega)
 unfold orders_Measured.f
 rw [right_eq l a b items hn k (by omega)]
 simp only [Option.bind_some,hv,hr,if_true]
 have hany:shown.any measBad=false:=by
  rw [List.any_eq_false]
  intro s h
  rw [measBad_eq,hs s h]
  simp
 rw [if_pos (by omega)]
 simp only [slices_ContainsFunc_Measured.f,Option.bind_some,hany]
 obtain ⟨k,rfl⟩:=fuel (show 0 < k by omega)
 simp only [orders_Measured.j0,slices_Clone_Item.f,Bool.false_eq_true,if_false]
 rw [if_pos (by omega)]
 simp only [Option.bind_some]
 exact meas_l0 a b hv'.2.2.2.1 items shown hsl (by omega) l.length hv'.2.1 hm hs items.length 0 k l (by omega) (by omega) rfl hv'.2.2.2.2.2.1
theorem sum_eq (l:List S50) (a b:Int) (k:Nat) (hk:40 < k) (hv:validB l a b=true):orders_Sum.f k l a b=some (mx (sumLo l) a,mn (sumHi l) b,0):=by
 have hv':=validB_iff.1 hv
 unfold orders_Sum.f
 rw [check_eq l a b k hk]
 simp only [Option.bind_some,hv,if_true]
 rw [all_eq l a b hv'.2.2.2.2.2.1 hv'.2.1 k (by omega)]
 simp only [Option.bind_some,common_eq]
def dLo (l:List S50):List Int→List Int→Int
 | i :: is,s :: ss=>((newIt (rd_T50 l i) s).f0.f0 - (rd_T50 l i).f0.f0)+dLo l is ss
 | _,_=>0
def dHi (l:List S50):List Int→List Int→Int
 | i :: is,s :: ss=>((newIt (rd_T50 l i) s).f0.f1 - (rd_T50 l i).f0.f1)+dHi l is ss
 | _,_=>0
def Meets (l:List S50):List Int→List Int→Prop
 | [],[]=>True
 | i :: is,s :: ss=>(newIt (rd_T50 l i) s).f0.f0≤(newIt (rd_T50 l i) s).f0.f1∧Meets l is ss
 | _,_=>False
theorem measR_spec (l:List S50) (P:Int→S50→Prop) : ∀ (items shown:List Int) (p:Int) (cur:List S50),rightFrom l.length p items=true→cur.length=l.length→cur.all okB=true→(∀ j ∈ items,rd_T50 cur j=rd_T50 l j)→Meets l items shown →
 (∀ j:Int,0≤j→j < l.length→P j (rd_T50 cur j)∨j ∈ items)→(∀ q ∈ items.zip shown,P q.1 (newIt (rd_T50 l q.1) q.2)) →
 ∃ out,measR cur items shown=some out∧out.length=l.length∧out.all okB=true∧sumLo out=sumLo cur+dLo l items shown∧sumHi out=sumHi cur+dHi l items shown∧∀ j:Int,0≤j→j < l.length→P j (rd_T50 out j)
 | [],[],p,cur,_,hc,ho,_,_,hP,_=>⟨cur,rfl,hc,ho,by simp [dLo],by simp [dHi],fun j h0 h1=>by simpa using hP j h0 h1⟩
 | [],_ :: _,_,_,_,_,_,_,hM,_,_=>hM.elim
 | _ :: _,[],_,_,_,_,_,_,hM,_,_=>hM.elim
 | i :: is,s :: ss,p,cur,hr,hc,ho,hsame,hM,hP,hQ=>by
  obtain ⟨h1,h2,h3,h4⟩:=rightFrom_cons.1 hr
  obtain ⟨hm1,hm2⟩:=hM
  have hi:=hsame i (by simp)
  have hm1':mx (rd_T50 cur i).f0.f0 (s - (rd_T50 cur i).f2)≤mn (rd_T50 cur i).f0.f1 (s+(rd_T50 cur i).f2):=by rw [hi];exact hm1
  have hok:=all_it ho i h1 (by omega)
  have hok2:=newIt_ok hok hm1'
  obtain ⟨out,e,hlen,hall,hlo,hhi,hPo⟩:=measR_spec l P is ss i (cur.set i.toNat (newIt (rd_T50 cur i) s)) h4 (by simp [hc]) (all_set cur ho _ _ hok2) (fun j hj=>by
   have:=rightFrom_mem h4 j hj
   rw [it_set_ne cur i j _ h1 this.1 (by omega)]
   exact hsame j (by simp [hj])) hm2 (fun j h0 hj=>by
   by_cases hji:j=i
   ·subst hji
    rw [it_set_self cur j _ h0 (by omega),hi]
    exact .inl (hQ (j,s) (by simp))
   ·rw [it_set_ne cur i j _ h1 h0 hji]
    rcases hP j h0 hj with h|h
    ·exact .inl h
    ·rcases List.mem_cons.1 h with h|h
     ·exact absurd h hji
     ·exact .inr h) (fun q hq=>hQ q (by simp [hq]))
  have hw:=sumW_set cur i.toNat (by omega) (newIt (rd_T50 cur i) s)
  rw [← it_toNat cur i h1 (by omega)] at hw
  refine ⟨out,?_,hlen,hall,?_,?_,hPo⟩
  ·simp only [measR]
   rw [if_pos hm1']
   exact e
  ·rw [hlo,hw.1,hi];simp only [dLo];omega
  ·rw [hhi,hw.2,hi];simp only [dHi];omega
theorem shownR_spec (l:List S50) (h:l.all okB=true) : ∀ (items:List Int) (s:Int),(∀ j ∈ items,0≤j∧j < (l.length:Int))→0≤s→s≤gsum l items →
 Meets l items (shownR l items s)∧dLo l items (shownR l items s)=s∧dHi l items (shownR l items s)=s - gsum l items∧∀ x ∈ shownR l items s,inB x=true
 | [],s,_,h0,h1=>by
  simp only [gsum,List.map_nil,List.sum_nil] at h1
  exact ⟨trivial,by simp only [shownR,dLo];omega,by simp only [shownR,dHi,gsum,List.map_nil,List.sum_nil];omega,by simp [shownR]⟩
 | i :: is,s,hr,h0,h1=>by
  have hi:=hr i (by simp)
  have hok:=all_it h i hi.1 hi.2
  have hx:=okB_iff.1 hok
  have hg:=gz_bd hok
  have e:gsum l (i :: is)=gz (rd_T50 l i)+gsum l is:=by simp [gsum]
  have hgs:=gsum_bd l h is fun j hj=>hr j (by simp [hj])
  rw [e] at h1
  obtain ⟨a1,a2,a3,a4⟩:=shownR_spec l h is (s - mn s (gz (rd_T50 l i))) (fun j hj=>hr j (by simp [hj])) (by unfold mn;omega) (by unfold mn;omega)
  have n0:(newIt (rd_T50 l i) ((rd_T50 l i).f0.f0+(rd_T50 l i).f2+mn s (gz (rd_T50 l i)))).f0.f0=(rd_T50 l i).f0.f0+mn s (gz (rd_T50 l i)):=by
   show mx _ _=_;unfold mx mn;omega
  have n1:(newIt (rd_T50 l i) ((rd_T50 l i).f0.f0+(rd_T50 l i).f2+mn s (gz (rd_T50 l i)))).f0.f1=(rd_T50 l i).f0.f1 - (gz (rd_T50 l i) - mn s (gz (rd_T50 l i))):=by
   show mn _ _=_
   unfold gz at hg ⊢
   unfold mx at hg ⊢
   unfold mn
   omega
  have hmb:0≤mn s (gz (rd_T50 l i))∧mn s (gz (rd_T50 l i))≤gz (rd_T50 l i):=by unfold mn;omega
  refine ⟨⟨?_,a1⟩,?_,?_,?_⟩
  ·rw [n0,n1];omega
  ·simp only [shownR,dLo];rw [n0,a2];omega
  ·simp only [shownR,dHi];rw [n1,a3,e];omega
  ·intro x hx2
   rcases List.mem_cons.1 hx2 with rfl|hx2
   ·exact inB_iff.2 (by omega)
   ·exact a4 x hx2
end Go.Proofs.Ythimaecnpkcmeaa.Pure
namespace Go.Proofs.Ythimaecnpkcmeaa.Pure
open Go.RowKit Go.Proofs.Ythimaecnpkcmeaa.K Go.Proofs.YthimaecnpkcmeaaW.PrintWords Go.Proofs.YthimaecnpkcmeaaW.PrintLast Go.Proofs.YthimaecnpkcmeaaW.PrintMore
theorem areas_l0 (l:List S50) (a b:Int) (ar:List Int) (h:l.all okB=true) (hl:l.length≤12) (hal:ar.length=l.length) : ∀ d i k,i+d=ar.length→d < k→(∀ j (h1:j < i) (h2:j < ar.length),(rd_T50 l j).f0.f0≤ar[j]∧ar[j]≤(rd_T50 l j).f0.f1) →
 ∃ r,acreageref08_CheckAreas.l0 k ar (ar.take i).sum (i:Int) l a b=some r∧(r=0→(∀ j (h2:j < ar.length),(rd_T50 l j).f0.f0≤ar[j]∧ar[j]≤(rd_T50 l j).f0.f1)∧a≤ar.sum∧ar.sum≤b):=by
 intro d
 induction d with
 | zero =>
  intro i k hi hk hp
  obtain ⟨k,rfl⟩:=fuel hk
  simp only [acreageref08_CheckAreas.l0]
  rw [if_neg (by omega),List.take_of_length_le (by omega)]
  by_cases c1:ar.sum < a
  ·exact ⟨80,by rw [if_pos c1],fun h=>by omega⟩
  ·rw [if_neg c1]
   by_cases c2:ar.sum > b
   ·exact ⟨80,by rw [if_pos c2],fun h=>by omega⟩
   ·exact ⟨0,by rw [if_neg c2],fun _=>⟨fun j h2=>hp j (by omega) h2,by omega,by omega⟩⟩
 | succ d ih =>
  intro i k hi hk hp
  obtain ⟨k,rfl⟩:=fuel hk
  have hil:i < ar.length:=by omega
  have hok:=okB_iff.1 (all_it h i (by omega) (by omega))
  simp only [acreageref08_CheckAreas.l0]
  rw [if_pos (by omega),if_pos (by omega),if_pos (by omega),rd_get ar i hil,wnext hil (by omega)]
  by_cases c1:ar[i] < (rd_T50 l i).f0.f0
  ·exact ⟨80,by rw [if_pos c1],fun h=>by omega⟩
  ·rw [if_neg c1]
   by_cases c2:ar[i] > (rd_T50 l i).f0.f1
   ·exact ⟨80,by rw [if_pos c2],fun h=>by omega⟩
   ·rw [if_neg c2]
    have hb:=sum_bound (B:=1073741824) (ar.take i) (fun x hx=>by
     obtain ⟨j,hj,rfl⟩:=List.mem_iff_getElem.1 hx
     rw [List.length_take] at hj
     rw [List.getElem_take]
     have h1:=hp j (by omega) (by omega)
     have h2:=okB_iff.1 (all_it h j (by omega) (by omega))
     omega)
    have h3:=List.length_take_le i ar
    rw [w64 (x:=_+ar[i]) (by omega) (by omega),← sum_take_succ ar i hil]
    refine ih (i+1) k (by omega) (by omega) (fun j h1 h2=>?_)
    by_cases hji:j=i
    ·subst hji;omega
    ·exact hp j (by omega) h2
theorem areas_eq (l:List S50) (a b:Int) (ar:List Int) (hv:validB l a b=true) (k:Nat) (hk:100 < k) :
 ∃ r,acreageref08_CheckAreas.f k l a b ar=some r∧(r=0→ar.length=l.length∧(∀ j (h2:j < ar.length),(rd_T50 l j).f0.f0≤ar[j]∧ar[j]≤(rd_T50 l j).f0.f1)∧a≤ar.sum∧ar.sum≤b):=by
 have hv':=validB_iff.1 hv
 unfold acreageref08_CheckAreas.f
 rw [refValid_eq l a b k (by omega),hv]
 simp only [Option.bind_some,if_true]
 obtain ⟨k,rfl⟩:=fuel hk
 simp only [acreageref08_CheckAreas.j0]
 by_cases c:(ar.length:Int)=l.length
 ·rw [if_neg (by simp [c])]
  obtain ⟨r,h1,h2⟩:=areas_l0 l a b ar hv'.2.2.2.2.2.1 hv'.2.1 (by omega) ar.length 0 k (by omega) (by omega) (fun j h=>by omega)
  exact ⟨r,h1,fun h=>⟨by omega,h2 h⟩⟩
 ·exact ⟨80,by rw [if_pos (by simp [c])],fun h=>by omega⟩
def NearL (l:List S50) (ar:List Int):List Int→List Int→Prop
 | [],[]=>True
 | i :: is,s :: ss=>rd ar i - (rd_T50 l i).f2≤s∧s≤rd ar i+(rd_T50 l i).f2∧NearL l ar is ss
 | _,_=>False
theorem shows_l0 (l:List S50) (a b:Int) (h:l.all okB=true) (hl:l.length≤12) (items ar off:List Int) (hal:ar.length=l.length) (hr : ∀ j ∈ items,0≤j∧j < (l.length:Int)) (hn:items.length≤40) (hb : ∀ j ∈ items,0≤rd ar j∧rd ar j≤1073741824) : ∀ d i k acc,i+d=items.length→d < k→acc.length≤i →
 ∃ r,acreagelaw08_shows.l0 k ar off acc items items.length (i:Int) l a b=some (acc ++ r)∧NearL l ar (items.drop i) r:=by
 intro d
 induction d with
 | zero =>
  intro i k acc hi hk ha
  obtain ⟨k,rfl⟩:=fuel hk
  refine ⟨[],?_,?_⟩
  ·simp only [acreagelaw08_shows.l0]
   rw [if_neg (by omega)]
   simp
  ·rw [List.drop_of_length_le (by omega)];trivial
 | succ d ih =>
  intro i k acc hi hk ha
  obtain ⟨k,rfl⟩:=fuel hk
  have hil:i < items.length:=by omega
  have hm:=hr _ (List.getElem_mem hil)
  have hbm:=hb _ (List.getElem_mem hil)
  have hok:=okB_iff.1 (all_it h _ hm.1 hm.2)
  simp only [acreagelaw08_shows.l0]
  rw [if_pos (by omega),if_pos (by omega),if_pos (by omega),rd_get items i hil,wnext hil (by omega)]
  by_cases c:(i:Int) < off.length
  ·rw [if_pos c,if_pos hm.1,if_pos hm.2,if_pos (by omega),if_pos (by omega),w64 (x:=-_) (by omega) (by omega)]
   have hmn : -(rd_T50 l items[i]).f2≤mn (mx (rd off i) (-(rd_T50 l items[i]).f2)) (rd_T50 l items[i]).f2∧mn (mx (rd off i) (-(rd_T50 l items[i]).f2)) (rd_T50 l items[i]).f2≤(rd_T50 l items[i]).f2:=by unfold mn mx;omega
   rw [w64 (by omega) (by omega)]
   obtain ⟨r,h1,h2⟩:=ih (i+1) k (acc ++ [rd ar items[i]+mn (mx (rd off i) (-(rd_T50 l items[i]).f2)) (rd_T50 l items[i]).f2]) (by omega) (by omega) (by simp;omega)
   refine ⟨_ :: r,by rw [h1,List.append_assoc];rfl,?_⟩
   rw [List.drop_eq_getElem_cons hil]
   exact ⟨by omega,by omega,h2⟩
  ·rw [if_neg c,if_pos hm.1,if_pos (by omega),if_pos (by omega),w64 (by omega) (by omega)]
   obtain ⟨r,h1,h2⟩:=ih (i+1) k (acc ++ [rd ar items[i]]) (by omega) (by omega) (by simp;omega)
   refine ⟨_ :: r,by rw [h1,List.append_assoc];rfl,?_⟩
   rw [List.drop_eq_getElem_cons hil]
   exact ⟨by omega,by omega,h2⟩
theorem near_length (l:List S50) (ar:List Int) : ∀ items ss,NearL l ar items ss→ss.length=items.length
 | [],[],_=>rfl
 | _ :: is,_ :: ss,h=>by simp [near_length l ar is ss h.2.2]
 | [],_ :: _,h=>h.elim
 | _ :: _,[],h=>h.elim
theorem near_spec (l:List S50) (ar:List Int) (h:l.all okB=true) : ∀ (items ss:List Int),NearL l ar items ss→(∀ j ∈ items,0≤j∧j < (l.length:Int))→(∀ j ∈ items,(rd_T50 l j).f0.f0≤rd ar j∧rd ar j≤(rd_T50 l j).f0.f1) →
 Meets l items ss∧dHi l items ss - dLo l items ss≤-gsum l items∧(∀ s ∈ ss,inB s=true)∧∀ q ∈ items.zip ss,(newIt (rd_T50 l q.1) q.2).f0.f0≤rd ar q.1∧rd ar q.1≤(newIt (rd_T50 l q.1) q.2).f0.f1
 | [],[],_,_,_=>⟨trivial,by simp [dHi,dLo,gsum],by simp,by simp⟩
 | [],_ :: _,hn,_,_=>hn.elim
 | _ :: _,[],hn,_,_=>hn.elim
 | i :: is,s :: ss,hn,hr,ha=>by
  have hi:=hr i (by simp)
  have hai:=ha i (by simp)
  have hok:=okB_iff.1 (all_it h i hi.1 hi.2)
  obtain ⟨n1,n2,n3⟩:=hn
  obtain ⟨a1,a2,a3,a4⟩:=near_spec l ar h is ss n3 (fun j hj=>hr j (by simp [hj])) (fun j hj=>ha j (by simp [hj]))
  have e:gsum l (i :: is)=gz (rd_T50 l i)+gsum l is:=by simp [gsum]
  have e1:(newIt (rd_T50 l i) s).f0.f0=mx (rd_T50 l i).f0.f0 (s - (rd_T50 l i).f2):=rfl
  have e2:(newIt (rd_T50 l i) s).f0.f1=mn (rd_T50 l i).f0.f1 (s+(rd_T50 l i).f2):=rfl
  have hq:(newIt (rd_T50 l i) s).f0.f0≤rd ar i∧rd ar i≤(newIt (rd_T50 l i) s).f0.f1:=by rw [e1,e2];unfold mx mn;omega
  refine ⟨⟨by omega,a1⟩,?_,?_,?_⟩
  ·simp only [dHi,dLo]
   rw [e1,e2,e]
   unfold gz mx mn
   omega
  ·intro x hx
   rcases List.mem_cons.1 hx with rfl|hx
   ·exact inB_iff.2 (by omega)
   ·exact a3 x hx
  ·intro q hqm
   rw [List.zip_cons_cons] at hqm
   rcases List.mem_cons.1 hqm with rfl|hqm
   ·exact hq
   ·exact a4 q hqm
theorem sum_between : ∀ (l:List S50) (ar:List Int),ar.length=l.length→(∀ j (h1:j < l.length) (h2:j < ar.length),l[j].f0.f0≤ar[j]∧ar[j]≤l[j].f0.f1)→sumLo l≤ar.sum∧ar.sum≤sumHi l
 | [],[],_,_=>by simp [sumLo,sumHi]
 | x :: xs,y :: ys,hl,h=>by
  have h0:=h 0 (by simp) (by simp)
  have:=sum_between xs ys (by simpa using hl) (fun j h1 h2=>by
   have:=h (j+1) (by simpa using h1) (by simpa using h2)
   simpa only [List.getElem_cons_succ] using this)
  have e1:sumLo (x :: xs)=x.f0.f0+sumLo xs:=by simp [sumLo]
  have e2:sumHi (x :: xs)=x.f0.f1+sumHi xs:=by simp [sumHi]
  rw [e1,e2,List.sum_cons]
  simp at h0
  omega
 | [],_ :: _,hl,_=>by simp at hl
 | _ :: _,[],hl,_=>by simp at hl
theorem sure_l0 (low high:Int) (ar:List Int) (f s0 s1:Int) (hb : ∀ x ∈ ar,-1073741824≤x∧x≤1073741824) (hn:ar.length≤40) (e:Int) : ∀ d i k,i+d=ar.length→d < k →
 acreagelaw08_OrdersSure.l0 k low high f e (ar.take i).sum ar ar.length (i:Int) s0 s1=acreagelaw08_OrdersSure.l0 1 low high f e ar.sum ar ar.length ar.length s0 s1:=by
 intro d
 induction d with
 | zero =>
  intro i k hi hk
  obtain ⟨k,rfl⟩:=fuel hk
  rw [List.take_of_length_le (by omega)]
  obtain rfl:i=ar.length:=by omega
  simp only [acreagelaw08_OrdersSure.l0,Int.lt_irrefl,if_false]
 | succ d ih =>
  intro i k hi hk
  obtain ⟨k,rfl⟩:=fuel hk
  have hil:i < ar.length:=by omega
  have h1:=sum_bound (B:=1073741824) (ar.take i) fun x hx=>hb x (List.mem_of_mem_take hx)
  have h2:=hb _ (List.getElem_mem hil)
  have h3:=List.length_take_le i ar
  rw [acreagelaw08_OrdersSure.l0]
  rw [if_pos (by omega),if_pos (by omega),if_pos (by omega),rd_get ar i hil,wnext hil (by omega),w64 (x:=_+ar[i]) (by omega) (by omega),← sum_take_succ ar i hil]
  exact ih (i+1) k (by omega) (by omega)
theorem measEnd_ok (out:List S50) (a b:Int) (h1:sumLo out≤b) (h2:a≤sumHi out):measEnd (some out) a b=(out,a,b,0):=by
 simp [measEnd,h1,h2]
theorem OrdersSure (l:List S50) (a b:Int) (items:List Int) (ar off:List Int) (low high:Int) (h1:items.length≤9223372036854775807) (_:ar.length≤9223372036854775807) (_:off.length≤9223372036854775807) : ∃ k,acreagelaw08_OrdersSure.f k l a b items ar off low high=some true:=by
 obtain ⟨k,hk⟩ : ∃ k,k=1000+items.length:=⟨_,rfl⟩
 refine ⟨k+1,?_⟩
 unfold acreagelaw08_OrdersSure.f
 have hsane:acreagelaw08_sane.f=some true:=rfl
 rw [hsane]
 simp only [Option.bind_some,if_true]
 rw [refValid_eq l a b (k+1) (by omega)]
 simp only [Option.bind_some]
 have hj:acreagelaw08_OrdersSure.j0 (k+1) items ar off low high true l a b=some true:=by simp [acreagelaw08_OrdersSure.j0]
 by_cases hv:validB l a b=true
 rotate_left
 ·rw [if_neg hv];exact hj
 rw [if_pos hv,refRight_eq l a b items h1 (k+1) (by omega)]
 simp only [Option.bind_some]
 by_cases hr:rightFrom l.length (-1) items=true
 rotate_left
 ·rw [if_neg hr];exact hj
 rw [if_pos hr]
 by_cases c1:(off.length:Int) > 40
 ·rw [if_pos c1];exact hj
 rw [if_neg c1]
 by_cases c2:low≥high
 ·rw [if_pos c2];exact hj
 rw [if_neg c2]
 by_cases c3:low < -1099511627776
 ·rw [if_pos c3];exact hj
 rw [if_neg c3]
 by_cases c4:high > 1099511627776
 ·rw [decide_eq_true c4];exact hj
 rw [decide_eq_false c4]
 have hv':=validB_iff.1 hv
 have hok:=hv'.2.2.2.2.2.1
 have hm : ∀ j ∈ items,0≤j∧j < (l.length:Int):=fun j hj=>by have:=rightFrom_mem hr j hj;omega
 have hnl:=rightFrom_length hr (by omega) (by omega)
 have hsb:=sum_bd l hok
 have hg:=gsum_bd l hok items hm
 have hgw:=gsum_width l items (-1) l rfl hok hr (fun _ _=>rfl)
 simp only [acreagelaw08_OrdersSure.j0,Bool.false_eq_true,if_false]
 rw [decides_eq l a b low high items h1 k (by omega) hv hr (by omega) (by omega) (by omega),Open_eq l a b low high items h1 k (by omega) hv hr (by omega) (by omega) (by omega)]
 simp only [Option.bind_some,if_true]
 obtain ⟨k,rfl⟩:=fuel (show 0 < k by omega)
 cases hS:openS l a b (gsum l items) low high with
 | some s =>
  simp only [Option.isNone_some,if_true]
  have hs:((false == true)=true)=False:=by simp
  have hsh:=shownR_length l items s
  -- what openS says
  have hO:0≤s∧s≤gsum l items∧s≤b - sumLo l∧a - (sumHi l - gsum l items)≤s∧mx (sumLo l+s) a < high∧low < mn (sumHi l - gsum l items+s) b:=by
   unfold openS at hS
   split at hS
   ·cases hS
   ·rename_i q1
    split at hS
    ·cases hS
    ·rename_i q2
     split at hS
     ·cases hS
     ·rename_i q3
      cases hS
      generalize low+1 - (sumHi l - gsum l items)=z at q1 q2 q3 ⊢
      generalize gsum l items=g at q1 q2 q3 hg hgw ⊢
      refine ⟨?_,?_,?_,?_,by omega,by omega⟩ <;> (unfold mx mn at *;omega)
  obtain ⟨o1,o2,o3,o4,o5,o6⟩:=hO
  obtain ⟨p1,p2,p3,p4⟩:=shownR_spec l hok items s hm o1 o2
  obtain ⟨out,e1,e2,e3,e4,e5,_⟩:=measR_spec l (fun _ _=>True) items (shownR l items s) (-1) l hr rfl hok (fun _ _=>rfl) p1 (fun _ _ _=>.inl trivial) (fun _ _=>trivial)
  rw [p2] at e4
  rw [p3] at e5
  have hvo:validB out a b=true:=validB_iff.2 ⟨by omega,by omega,hv'.2.2.1,hv'.2.2.2.1,hv'.2.2.2.2.1,e3,by omega,by omega⟩
  have hj1:acreagelaw08_OrdersSure.j1 (k+1) items ar off low high (shownR l items s) true false l a b=some true:=by
   simp only [acreagelaw08_OrdersSure.j1,Bool.false_eq_true,if_false,if_true]
   rw [measured_eq l a b items _ h1 k (by omega) hv hr hsh p4,e1,measEnd_ok out a b (by omega) (by omega)]
   simp only [Option.bind_some]
   rw [sum_eq out a b k (by omega) hvo]
   simp only [Option.bind_some,if_true]
   rw [e4,e5,if_pos o5]
   have:mn (sumHi l+(s - gsum l items)) b > low:=by rw [show sumHi l+(s - gsum l items)=sumHi l - gsum l items+s from by omega];exact o6
   simp [this]
  simp only [hs,if_false]
  split
  ·exact hj1
  ·exact hj1
 | none =>
  simp only [Option.isNone_none,if_true]
  have hs:((true == false)=true)=False:=by simp
  have hj1:acreagelaw08_OrdersSure.j1 (k+1) items ar off low high [] false false l a b=some true:=by
   simp only [acreagelaw08_OrdersSure.j1,Bool.false_eq_true,if_false]
   obtain ⟨r,hr1,hr2⟩:=areas_eq l a b ar hv k (by omega)
   rw [hr1]
   simp only [Option.bind_some]
   by_cases hr0:r=0
   rotate_left
   ·rw [if_neg hr0]
   rw [if_pos hr0]
   obtain ⟨q1,q2,q3,q4⟩:=hr2 hr0
   have hrd : ∀ j:Int,0≤j→j < l.length→(rd_T50 l j).f0.f0≤rd ar j∧rd ar j≤(rd_T50 l j).f0.f1:=by
    intro j h0 hjl
    obtain ⟨i,rfl⟩:=Int.eq_ofNat_of_zero_le h0
    rw [rd_get ar i (by omega)]
    exact q2 i (by omega)
   have hbd : ∀ j ∈ items,0≤rd ar j∧rd ar j≤1073741824:=fun j hj=>by
    have t1:=hrd j (hm j hj).1 (hm j hj).2
    have t2:=okB_iff.1 (all_it hok j (hm j hj).1 (hm j hj).2)
    omega
   obtain ⟨ss,hss,hnear⟩:=shows_l0 l a b hok hv'.2.1 items ar off q1 hm (by omega) hbd items.length 0 k [] (by omega) (by omega) (by simp)
   rw [Int.natCast_zero] at hss
   unfold acreagelaw08_shows.f
   rw [hss]
   simp only [Option.bind_some,List.nil_append]
   rw [List.drop_zero] at hnear
   obtain ⟨p1,p2,p3,p4⟩:=near_spec l ar hok items ss hnear hm (fun j hj=>hrd j (hm j hj).1 (hm j hj).2)
   obtain ⟨out,e1,e2,e3,e4,e5,e6⟩:=measR_spec l (fun j x=>x.f0.f0≤rd ar j∧rd ar j≤x.f0.f1) items ss (-1) l hr rfl hok (fun _ _=>rfl) p1 (fun j h0 hj=>.inl (hrd j h0 hj)) p4
   have hbt:=sum_between out ar (by omega) (fun j t1 t2=>by
    have:=e6 j (by omega) (by omega)
    rw [it_get out j t1,rd_get ar j t2] at this
    exact this)
   have hvo:validB out a b=true:=validB_iff.2 ⟨by omega,by omega,hv'.2.2.1,hv'.2.2.2.1,hv'.2.2.2.2.1,e3,by omega,by omega⟩
   rw [measured_eq l a b items ss h1 k (by omega) hv hr (near_length l ar items ss hnear) p3,e1,measEnd_ok out a b (by omega) (by omega)]
   simp only [Option.bind_some]
   rw [sum_eq out a b k (by omega) hvo]
   simp only [Option.bind_some]
   have hl0:=sure_l0 low high ar 0 (mx (sumLo out) a) (mn (sumHi out) b) (fun x hx=>by
    obtain ⟨j,hj,rfl⟩:=List.mem_iff_getElem.1 hx
    have t1:=q2 j hj
    have t2:=okB_iff.1 (all_it hok j (by omega) (by omega))
    omega) (by omega) 0 ar.length 0 k (by omega) (by omega)
   rw [Int.natCast_zero,List.take_zero,List.sum_nil] at hl0
   rw [hl0]
   simp only [acreagelaw08_OrdersSure.l0,if_true]
   rw [if_neg (by omega)]
   have hlo:mx (sumLo out) a≤ar.sum:=by unfold mx;omega
   have hhi:ar.sum≤mn (sumHi out) b:=by unfold mn;omega
   -- the window that the measurements leave lies in one that is asked
   have key:mx (sumLo out) a≥high∨mn (sumHi out) b≤low:=by
    by_cases k1:mx (sumLo out) a≥high
    ·exact .inl k1
    by_cases k2:mn (sumHi out) b≤low
    ·exact .inr k2
    exfalso
    have z1:sumLo l≤sumLo out:=by
     have:=e4
     have hd:0≤dLo l items ss:=by
      have : ∀ is ss,Meets l is ss→0≤dLo l is ss:=by
       intro is
       induction is with
       | nil=>intro ss h;cases ss <;> simp [dLo]
       | cons i is ih =>
        intro ss h
        cases ss with
        | nil=>simp [dLo]
        | cons s ss =>
         have h1:=ih ss h.2
         have h2:(rd_T50 l i).f0.f0≤(newIt (rd_T50 l i) s).f0.f0:=by show _≤mx _ _;unfold mx;omega
         simp only [dLo]
         omega
      exact this items ss p1
     omega
    have z2:sumHi out≤sumHi l:=by
     have hd:dHi l items ss≤0:=by
      have : ∀ is ss,Meets l is ss→dHi l is ss≤0:=by
       intro is
       induction is with
       | nil=>intro ss h;cases ss <;> simp [dHi]
       | cons i is ih =>
        intro ss h
        cases ss with
        | nil=>simp [dHi]
        | cons s ss =>
         have h1:=ih ss h.2
         have h2:(newIt (rd_T50 l i) s).f0.f1≤(rd_T50 l i).f0.f1:=by show mn _ _≤_;unfold mn;omega
         simp only [dHi]
         omega
      exact this items ss p1
     omega
    unfold openS at hS
    generalize gsum l items=g at *
    split at hS
    ·rename_i u1
     unfold mx mn at *
     omega
    ·rename_i u1
     split at hS
     ·rename_i u2
      unfold mx mn at *
      omega
     ·rename_i u2
      split at hS
      ·rename_i u3
       unfold mx mn at *
       omega
      ·cases hS
   by_cases k1:mx (sumLo out) a≥high
   ·rw [if_pos k1,if_pos (by omega)]
   ·have k2:mn (sumHi out) b≤low:=by omega
    rw [if_neg k1,if_pos k2,decide_eq_true (by omega)]
  simp only [hs,if_false]
  split
  ·exact hj1
  ·rename_i t
   simp at t
end Go.Proofs.Ythimaecnpkcmeaa.Pure
namespace Go.Proofs.Ythimaecnpkcmeaa.ordersSure
open Go.ChangeShapes Go.WideShapes Go.ChangeAt Go.RowKit Go.Proofs.Ythimaecnpkcmeaa.K Go.Proofs.YthimaecnpkcmeaaW.PrintWords
set_option linter.unusedVariables false
theorem own:ownKnob Try.prog.godebug=none:=by kernel_rfl
theorem laidOut:laidOutB Try.prog=true:=by kernel_rfl
set_option maxRecDepth 100000 in
theorem lifted (os:Os) (started:os.Started) (H:Type) (enc:TypeId × Value→H) :
 ReturnsInHanded {} Try.checked os 3 .any (Rows.ordersSureSpec.pre6 enc Try.prog Try.f3 Rows.ordersSureRow.domain false) (Rows.ordersSureSpec.post enc Try.prog Try.f3 false true false false):=by
 refine returnsInHanded_of_change_sized (C:=Try.checked) own started (by kernel_rfl) Try.func3
  (ChangeSpec.witness6 (enc:=enc) (C:=Try.checked) false ⟨#[],#[.agg #[.slice none 0 0,.int .i64 0,.int .i64 0],.slice none 0 0,.slice none 0 0,.slice none 0 0,.int .i64 0,.int .i64 0],[]⟩ 8 (by kernel_rfl) (by kernel_rfl) (by kernel_rfl) (by kernel_rfl)) ?_
 intro W base args ds gs before hval0 hW hcnd hsz0 _
 have hval : ∀ (j:Nat) t v,Try.f3.params[j]? = some t→args[j]? = some v→Value.okWide Try.prog W .any base t v:=hval0
 have hW':=hW
 obtain ⟨p,q,hA0,hV,rfl,hfz,hnd⟩:=hW
 have hA:DataW.TrodAll enc Try.prog W 0 (fun _=>true) true Try.f3.params.toList args.toList ds p:=hA0
 rw [Try.params3] at hA hval
 obtain ⟨v0,vs0,d0,ds0,p0,q0,hargs,rfl,rfl,h0,r0⟩:=trodAll_cons hA
 obtain ⟨v1,vs1,d1,ds1,p1,q1,rfl,rfl,rfl,h1,r1⟩:=trodAll_cons r0
 obtain ⟨v2,vs2,d2,ds2,p2,q2,rfl,rfl,rfl,h2,r2⟩:=trodAll_cons r1
 obtain ⟨v3,vs3,d3,ds3,p3,q3,rfl,rfl,rfl,h3,r3⟩:=trodAll_cons r2
 obtain ⟨v4,vs4,d4,ds4,p4,q4,rfl,rfl,rfl,h4,r4⟩:=trodAll_cons r3
 obtain ⟨v5,vs5,d5,ds5,p5,q5,rfl,rfl,rfl,h5,r5⟩:=trodAll_cons r4
 obtain ⟨rfl,rfl,rfl⟩:=trodAll_nil r5
 obtain rfl:args=#[v0,v1,v2,v3,v4,v5]:=by cases args;simp_all
 obtain ⟨rfl,rfl⟩:=trodVars_none hV
 have k0:=h0
 have lt0 : ∀ x ∈ p0,x.block < W.heap.size:=by obtain ⟨m,hm⟩:=k0;exact DataW.trod_lt m _ _ _ hm
 obtain ⟨A0,c0,l0,a0_1,a0_2,rfl,e0,g0⟩:=open26 (hval 0 26 v0 rfl rfl) h0
 have k1:=h1
 have lt1 : ∀ x ∈ p1,x.block < W.heap.size:=by obtain ⟨m,hm⟩:=k1;exact DataW.trod_lt m _ _ _ hm
 obtain ⟨A1,c1,l1,rfl,e1,g1⟩:=open27 (hval 1 27 v1 rfl rfl) h1
 have k2:=h2
 have lt2 : ∀ x ∈ p2,x.block < W.heap.size:=by obtain ⟨m,hm⟩:=k2;exact DataW.trod_lt m _ _ _ hm
 obtain ⟨A2,c2,l2,rfl,e2,g2⟩:=open27 (hval 2 27 v2 rfl rfl) h2
 have k3:=h3
 have lt3 : ∀ x ∈ p3,x.block < W.heap.size:=by obtain ⟨m,hm⟩:=k3;exact DataW.trod_lt m _ _ _ hm
 obtain ⟨A3,c3,l3,rfl,e3,g3⟩:=open27 (hval 3 27 v3 rfl rfl) h3
 obtain ⟨a4,rfl,rfl,rfl,w4⟩:=open_int Try.underlying3 (hval 4 3 v4 rfl rfl) h4
 obtain ⟨a5,rfl,rfl,rfl,w5⟩:=open_int Try.underlying3 (hval 5 3 v5 rfl rfl) h5
 clear hA0 hval0 hsz0
 obtain ⟨k,hk⟩:=Pure.OrdersSure l0 a0_1 a0_2 l1 l2 l3 a4 a5 e1.2.1 e2.2.1 e3.2.1
 refine (K.acreagelaw08_OrdersSure.calls k A0 c0 l0 a0_1 a0_2 A1 c1 l1 A2 c2 l2 A3 c3 l3 a4 a5 true W e0 g0 e1 g1 e2 g2 e3 g3 hk).mono fun e W' ⟨he,bel⟩=>?_
 subst he
 exact ⟨_,rfl,_,_,_,[],_,[],hW',trodAll_mk1 (shut_bool Try.underlying4 _),(trodAll_cons_mk (Below.trod laidOut (by kernel_rfl) (of_decide_eq_true (by kernel_rfl)) k0 bel lt0) (trodAll_cons_mk (Below.trod laidOut (by kernel_rfl) (of_decide_eq_true (by kernel_rfl)) k1 bel lt1) (trodAll_cons_mk (Below.trod laidOut (by kernel_rfl) (of_decide_eq_true (by kernel_rfl)) k2 bel lt2) (trodAll_cons_mk (Below.trod laidOut (by kernel_rfl) (of_decide_eq_true (by kernel_rfl)) k3 bel lt3) (trodAll_cons_mk (shut_int Try.underlying3 w4) (trodAll_cons_mk (shut_int Try.underlying3 w5) trodAll_mk0)))))),rfl,bel.frame _,fun h=>by cases h⟩
theorem over:Rows.ordersSureRow.holds Try.pinned (OpenSpec.ofChange Rows.ordersSureSpec) :=
 OpenClaim.holds_of_wide 3 Try.f3 rfl rfl rfl rfl rfl rfl rfl ⟨rfl,rfl,rfl,rfl,rfl⟩ rfl rfl rfl rfl rfl (by kernel_rfl) Try.func3 (by kernel_rfl)
  (of_decide_eq_true (by kernel_rfl)) (by unfold Func.isWrapper;first|(rw [if_pos (by decide +kernel)];kernel_rfl)|(rw [if_neg (by decide +kernel)];exact ⟨rfl,rfl⟩))
  (fun os started H enc _=>lifted os started H enc)
theorem proved:Rows.OrdersSureSaid:=over
#print axioms proved
end Go.Proofs.Ythimaecnpkcmeaa.ordersSure
namespace Go.Proofs.Ythimaecnpkcmeaa
theorem ordersSure_holds:Rows.OrdersSureSaid:=ordersSure.proved
end Go.Proofs.Ythimaecnpkcmeaa
