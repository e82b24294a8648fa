/- Contracts of Go functions and lemmas for them: each theorem states what one function returns and what it leaves of memory; its conditions stand in its statement. -/
import Derived.Ground.Names2Prog
import Derived.Ground.SlgnProg
import Derived.Ground.SlsfProg
import Derived.Shelf.SlSortCmp.HeapSortK
import Derived.Shelf.SlSortCmp.InsertionK
import Derived.Shelf.SlSortCmp.MedianK
import Derived.Shelf.SlSortCmp.NoneTotal
import Derived.Shelf.SlSortCmp.PartialInsertionK
import Derived.Shelf.SlSortCmp.PartitionEqualK
import Derived.Shelf.SlSortCmp.PartitionK
import Derived.Shelf.SlSortCmp.PdqK
import Derived.Shelf.SlSortCmp.PivotK
import Derived.Shelf.SlSortCmp.ReverseRangeK
import Derived.Shelf.SlSortCmp.SiftDownK
import Derived.Shelf.SlSortCmp.SmallK
import Derived.Shelf.SlSortCmp.WholeK
import Derived.Shelf.Slices.Clone
import Derived.Shelf.Slices.In.SortNone
import Derived.Shelf.Slices.SearchI
import Derived.Shelf.SlicesE.Clone
import Derived.Shelf.Small.Bits
import Derived.Shelf.Sort.Plain
import Derived.Shelf.Strconv.Itoa0
import Derived.Test.YthimaecnpkcmeaaProg
set_option linter.unusedVariables false
set_option linter.unusedSimpArgs false
namespace Go.Proofs.Ythimaecnpkcmeaa.K
end Go.Proofs.Ythimaecnpkcmeaa.K
namespace Go.Proofs.YthimaecnpkcmeaaW.PrintLast
end Go.Proofs.YthimaecnpkcmeaaW.PrintLast
namespace Go.Proofs.YthimaecnpkcmeaaW.PrintMore
end Go.Proofs.YthimaecnpkcmeaaW.PrintMore
namespace Go.Proofs.YthimaecnpkcmeaaW.PrintWords
end Go.Proofs.YthimaecnpkcmeaaW.PrintWords
namespace Go.Proofs.YthimaecnpkcmeaaW.PrintWords.Kd
end Go.Proofs.YthimaecnpkcmeaaW.PrintWords.Kd
namespace Go.Proofs
open Go.Shelf
def Try.zEe:Go.Shelf.Ren:=⟨fun|189=>20|125=>57|257=>56|128=>90|129=>91|294=>81|295=>82|296=>83|297=>84|298=>85|299=>86|216=>87|300=>88|301=>89|328=>102|329=>103|330=>104|331=>105|332=>106|215=>107|343=>109|n=>n,fun|28=>27|3=>3|46=>95|0=>0|51=>132|53=>134|4=>4|183=>124|182=>123|131=>129|5=>5|9=>9|218=>142|222=>146|228=>149|229=>103|n=>n,fun|n=>n⟩
theorem Try.zFC:Go.Proofs.Lays.n189 Try.prog Try.zEe:={
 mixed:=by kernel_rfl
 f125:=Try.func57.trans (congrArg some (by kernel_rfl))
 f128:=Try.func90.trans (congrArg some (by kernel_rfl))
 f129:=Try.func91.trans (congrArg some (by kernel_rfl))
 f189:=Try.func20.trans (congrArg some (by kernel_rfl))
 f215:=Try.func107.trans (congrArg some (by kernel_rfl))
 f216:=Try.func87.trans (congrArg some (by kernel_rfl))
 f257:=Try.func56.trans (congrArg some (by kernel_rfl))
 f294:=Try.func81.trans (congrArg some (by kernel_rfl))
 f295:=Try.func82.trans (congrArg some (by kernel_rfl))
 f296:=Try.func83.trans (congrArg some (by kernel_rfl))
 f297:=Try.func84.trans (congrArg some (by kernel_rfl))
 f298:=Try.func85.trans (congrArg some (by kernel_rfl))
 f299:=Try.func86.trans (congrArg some (by kernel_rfl))
 f300:=Try.func88.trans (congrArg some (by kernel_rfl))
 f301:=Try.func89.trans (congrArg some (by kernel_rfl))
 f328:=Try.func102.trans (congrArg some (by kernel_rfl))
 f329:=Try.func103.trans (congrArg some (by kernel_rfl))
 f330:=Try.func104.trans (congrArg some (by kernel_rfl))
 f331:=Try.func105.trans (congrArg some (by kernel_rfl))
 f332:=Try.func106.trans (congrArg some (by kernel_rfl))
 f343:=Try.func109.trans (congrArg some (by kernel_rfl))
 t0:=Try.underlying0
 a0:=Try.isAgg0
 z0:=Try.sizeOf0
 v0:=Try.zeroValue0
 t3:=Try.underlying3
 a3:=Try.isAgg3
 z3:=Try.sizeOf3
 v3:=Try.zeroValue3
 t4:=Try.underlying4
 a4:=Try.isAgg4
 z4:=Try.sizeOf4
 v4:=Try.zeroValue4
 t5:=Try.underlying5
 a5:=Try.isAgg5
 z5:=Try.sizeOf5
 v5:=Try.zeroValue5
 t9:=Try.underlying9
 a9:=Try.isAgg9
 z9:=Try.sizeOf9
 v9:=Try.zeroValue9
 t28:=Try.underlying27
 a28:=Try.isAgg27
 z28:=Try.sizeOf27
 v28:=Try.zeroValue27
 t46:=Try.underlying95
 a46:=Try.isAgg95
 z46:=Try.sizeOf95
 v46:=Try.zeroValue95
 t51:=Try.underlying132
 a51:=Try.isAgg132
 z51:=Try.sizeOf132
 v51:=Try.zeroValue132
 t53:=Try.underlying134
 a53:=Try.isAgg134
 z53:=Try.sizeOf134
 v53:=Try.zeroValue134
 t131:=Try.underlying129
 a131:=Try.isAgg129
 z131:=Try.sizeOf129
 v131:=Try.zeroValue129
 t182:=Try.underlying123
 a182:=Try.isAgg123
 z182:=Try.sizeOf123
 v182:=Try.zeroValue123
 t183:=Try.underlying124
 a183:=Try.isAgg124
 z183:=Try.sizeOf124
 v183:=Try.zeroValue124
 t218:=Try.underlying142
 a218:=Try.isAgg142
 z218:=Try.sizeOf142
 v218:=Try.zeroValue142
 t222:=Try.underlying146
 a222:=Try.isAgg146
 z222:=Try.sizeOf146
 v222:=Try.zeroValue146
 t228:=Try.underlying149
 a228:=Try.isAgg149
 z228:=Try.sizeOf149
 v228:=Try.zeroValue149
 t229:=Try.underlying103
 a229:=Try.isAgg103
 z229:=Try.sizeOf103
 v229:=Try.zeroValue103 }
open Go.Sort Go.RowKit in
theorem Try.slices_Sort_int (blk off cap:Nat) (zs:List Int) (w:World) (hH:Holds (Value.int .i64) w blk off zs.toArray) (hblk:blk < w.heap.size) (hsz:zs.length < 4611686018427387904) :
 Calls Try.prog 20 #[.slice (some ⟨blk,off,none⟩) zs.length cap] w fun e w' =>
  e= .returned (.tuple #[])∧∃ n os,w'=grow (putRow (Value.int .i64) (Sort.ahead w n) blk off (zs.mergeSort fun x y=>decide (x≤y)).toArray) os:=Any.slices_Sort_int Try.zFC blk off cap zs w hH hblk hsz
open Go.RowKit Go.Sort in
theorem Try.slices_Sort_int_none (p:Option Addr) (cap:Nat) (w:World) :
 Calls Try.prog 20 #[.slice p 0 cap] w fun e w'=>e= .returned (.tuple #[])∧w'=w:=Any.slices_Sort_int_none Try.zFC p cap w
def Try.zC0:Go.Shelf.Ren:=⟨fun|6=>100|15=>57|14=>108|28=>90|29=>91|20=>110|21=>111|22=>112|23=>113|24=>114|25=>115|26=>116|27=>117|46=>118|47=>103|48=>104|49=>119|50=>120|57=>121|n=>n,fun|22=>63|24=>64|25=>141|3=>3|39=>95|0=>0|53=>132|55=>134|4=>4|46=>124|45=>123|50=>129|5=>5|9=>9|66=>142|70=>146|76=>149|77=>103|n=>n,fun|n=>n⟩
theorem Try.zCj:Go.Proofs.SlLaysF0.n6 Try.prog Try.zC0:={
 mixed:=by kernel_rfl
 f6:=⟨Try.f100.name,by decide,Try.func100.trans (congrArg some (by kernel_rfl))⟩
 f14:=⟨Try.f108.name,by decide,Try.func108.trans (congrArg some (by kernel_rfl))⟩
 f15:=Try.func57.trans (congrArg some (by kernel_rfl))
 f20:=⟨Try.f110.name,by decide,Try.func110.trans (congrArg some (by kernel_rfl))⟩
 f21:=⟨Try.f111.name,by decide,Try.func111.trans (congrArg some (by kernel_rfl))⟩
 f22:=⟨Try.f112.name,by decide,Try.func112.trans (congrArg some (by kernel_rfl))⟩
 f23:=⟨Try.f113.name,by decide,Try.func113.trans (congrArg some (by kernel_rfl))⟩
 f24:=⟨Try.f114.name,by decide,Try.func114.trans (congrArg some (by kernel_rfl))⟩
 f25:=⟨Try.f115.name,by decide,Try.func115.trans (congrArg some (by kernel_rfl))⟩
 f26:=⟨Try.f116.name,by decide,Try.func116.trans (congrArg some (by kernel_rfl))⟩
 f27:=⟨Try.f117.name,by decide,Try.func117.trans (congrArg some (by kernel_rfl))⟩
 f28:=Try.func90.trans (congrArg some (by kernel_rfl))
 f29:=Try.func91.trans (congrArg some (by kernel_rfl))
 f46:=⟨Try.f118.name,by decide,Try.func118.trans (congrArg some (by kernel_rfl))⟩
 f47:=Try.func103.trans (congrArg some (by kernel_rfl))
 f48:=Try.func104.trans (congrArg some (by kernel_rfl))
 f49:=⟨Try.f119.name,by decide,Try.func119.trans (congrArg some (by kernel_rfl))⟩
 f50:=⟨Try.f120.name,by decide,Try.func120.trans (congrArg some (by kernel_rfl))⟩
 f57:=⟨Try.f121.name,by decide,Try.func121.trans (congrArg some (by kernel_rfl))⟩
 t0:=Try.underlying0
 a0:=Try.isAgg0
 z0:=Try.sizeOf0
 v0:=Try.zeroValue0
 t3:=Try.underlying3
 a3:=Try.isAgg3
 z3:=Try.sizeOf3
 v3:=Try.zeroValue3
 t4:=Try.underlying4
 a4:=Try.isAgg4
 z4:=Try.sizeOf4
 v4:=Try.zeroValue4
 t5:=Try.underlying5
 a5:=Try.isAgg5
 z5:=Try.sizeOf5
 v5:=Try.zeroValue5
 t9:=Try.underlying9
 a9:=Try.isAgg9
 z9:=Try.sizeOf9
 v9:=Try.zeroValue9
 t22:=Try.underlying63
 a22:=Try.isAgg63
 z22:=Try.sizeOf63
 v22:=Try.zeroValue63
 t25:=Try.underlying141
 a25:=Try.isAgg141
 z25:=Try.sizeOf141
 v25:=Try.zeroValue141
 t39:=Try.underlying95
 a39:=Try.isAgg95
 z39:=Try.sizeOf95
 v39:=Try.zeroValue95
 t45:=Try.underlying123
 a45:=Try.isAgg123
 z45:=Try.sizeOf123
 v45:=Try.zeroValue123
 t46:=Try.underlying124
 a46:=Try.isAgg124
 z46:=Try.sizeOf124
 v46:=Try.zeroValue124
 t50:=Try.underlying129
 a50:=Try.isAgg129
 z50:=Try.sizeOf129
 v50:=Try.zeroValue129
 t53:=Try.underlying132
 a53:=Try.isAgg132
 z53:=Try.sizeOf132
 v53:=Try.zeroValue132
 t55:=Try.underlying134
 a55:=Try.isAgg134
 z55:=Try.sizeOf134
 v55:=Try.zeroValue134
 t66:=Try.underlying142
 a66:=Try.isAgg142
 z66:=Try.sizeOf142
 v66:=Try.zeroValue142
 t70:=Try.underlying146
 a70:=Try.isAgg146
 z70:=Try.sizeOf146
 v70:=Try.zeroValue146
 t76:=Try.underlying149
 a76:=Try.isAgg149
 z76:=Try.sizeOf149
 v76:=Try.zeroValue149
 t77:=Try.underlying103
 a77:=Try.isAgg103
 z77:=Try.sizeOf103
 v77:=Try.zeroValue103 }
open Go.RowKit Go.Lib Go.Sort in
theorem Try.slices_SortFunc_none {α:Type} [Inhabited α] (p:Option Addr) (cap:Nat) (fv:Value) (w:World) :
 Calls Try.prog 100 #[.slice p 0 cap,fv] w fun e w'=>e= .returned (.tuple #[])∧w'=w:=AnyF.slices_SortFunc_none Try.zCj p cap fv w
open Go.RowKit Go.Lib Go.Sort in
theorem Try.slices_SortFunc_total {α:Type} [Inhabited α] (k:Nat) (aE : ∀ w,(isAgg 64).run Try.prog w= .ok true w) (zE : ∀ w,(Go.sizeOf 64).run Try.prog w= .ok k w) (enc:α→List Value) (hk : ∀ x,(enc x).length=k) (h1 : ∀ x,∀ v ∈ enc x,v.oneCell'=true) (cf:α→α→Int) (hO:SWO (ltOf cf)) (g:Nat) (cb:Array Value) (blk off cap:Nat) (d:Array α) (w:World) (eg : ∀ args w,(callFunc g args).run Try.prog w= .ok (.enter g args) w) (hcmp:CmpLays Try.prog g cb enc k cf blk off d.size w) (hH:HoldsK enc k w blk off d) (hblk:blk < w.heap.size) (hsz:d.size < 4611686018427387904) (hT : ∀ x y,(ltOf cf) x y=false→(ltOf cf) y x=false→x=y) :
 Calls Try.prog 100 #[.slice (some ⟨blk,off,none⟩) d.size cap,.func (.func g) #[] cb] w fun e w' =>
  e= .returned (.tuple #[])∧∃ n os,w'=sortWorldK enc k w blk off n (d.toList.mergeSort fun x y=>!(ltOf cf) y x).toArray os:=AnyQ.slices_SortFunc_total Try.zCj k aE zE enc hk h1 cf hO g cb blk off cap d w eg hcmp hH hblk hsz hT
end Go.Proofs
