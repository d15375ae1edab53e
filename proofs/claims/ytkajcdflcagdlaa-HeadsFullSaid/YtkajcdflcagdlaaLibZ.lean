/- The library's contracts of strings.Repeat, slices.ContainsFunc and slices.Clone at this program: laid by names, by a program of this session. -/
import Derived.Shelf.Strings.Builder1
import Derived.Shelf.Strings.BuilderK
import Derived.Shelf.Strings.Repeat
import Derived.Shelf.Strings.OnBuilder
import Derived.Shelf.SlicesE.IndexFunc
import Derived.Shelf.SlicesE.Clone
import Derived.Shelf.SlicesQ.IndexFunc
import Derived.Test.YtkajcdflcagdlaaProg
namespace Go.Proofs.Ytkajcdflcagdlaa.Build
open Go.Shelf Go.RowKit
def renB : Go.Shelf.Ren := ⟨fun | 99 => 83 | 105 => 69 | 165 => 84 | 166 => 68 | 169 => 71 | 170 => 85 | 206 => 91 | 212 => 82 | 240 => 81 | 241 => 92 | 263 => 89 | 264 => 90 | 276 => 88 | 277 => 93 | n => n, fun | 0 => 0 | 3 => 3 | 4 => 4 | 5 => 5 | 9 => 9 | 20 => 20 | 37 => 43 | 46 => 128 | 51 => 139 | 53 => 71 | 70 => 106 | 72 => 108 | 75 => 116 | 76 => 117 | 80 => 121 | 109 => 129 | 127 => 134 | 146 => 140 | 148 => 142 | 164 => 137 | n => n, fun | n => n⟩

theorem extraB : Builder.Extra Try.prog renB := {
  sizeBuilder := by kernel_rfl
  liesBuilder := by kernel_rfl
  t5 := Try.underlying5
  a5 := Try.isAgg5
  z5 := Try.sizeOf5
  v5 := Try.zeroValue5
  infoByte := by kernel_rfl
  cellsByte := by kernel_rfl
  sizeByte := by kernel_rfl
  neB5 := by decide }

theorem laysR : Go.Proofs.Lays.n105 Try.prog renB := {
  mixed := by kernel_rfl
  f99 := Try.func83.trans (congrArg some (by kernel_rfl))
  f105 := Try.func69.trans (congrArg some (by kernel_rfl))
  f165 := Try.func84.trans (congrArg some (by kernel_rfl))
  f166 := Try.func68.trans (congrArg some (by kernel_rfl))
  f169 := Try.func71.trans (congrArg some (by kernel_rfl))
  f170 := Try.func85.trans (congrArg some (by kernel_rfl))
  f206 := Try.func91.trans (congrArg some (by kernel_rfl))
  f212 := Try.func82.trans (congrArg some (by kernel_rfl))
  f240 := Try.func81.trans (congrArg some (by kernel_rfl))
  f241 := Try.func92.trans (congrArg some (by kernel_rfl))
  f263 := Try.func89.trans (congrArg some (by kernel_rfl))
  f264 := Try.func90.trans (congrArg some (by kernel_rfl))
  f276 := Try.func88.trans (congrArg some (by kernel_rfl))
  f277 := Try.func93.trans (congrArg some (by kernel_rfl))
  t0 := Try.underlying0
  a0 := Try.isAgg0
  z0 := Try.sizeOf0
  v0 := Try.zeroValue0
  t3 := Try.underlying3
  a3 := Try.isAgg3
  z3 := Try.sizeOf3
  v3 := Try.zeroValue3
  t4 := Try.underlying4
  a4 := Try.isAgg4
  z4 := Try.sizeOf4
  v4 := Try.zeroValue4
  t5 := Try.underlying5
  a5 := Try.isAgg5
  z5 := Try.sizeOf5
  v5 := Try.zeroValue5
  t9 := Try.underlying9
  a9 := Try.isAgg9
  z9 := Try.sizeOf9
  v9 := Try.zeroValue9
  t20 := Try.underlying20
  a20 := Try.isAgg20
  z20 := Try.sizeOf20
  v20 := Try.zeroValue20
  t37 := Try.underlying43
  a37 := Try.isAgg43
  z37 := Try.sizeOf43
  v37 := Try.zeroValue43
  t46 := Try.underlying128
  a46 := Try.isAgg128
  z46 := Try.sizeOf128
  v46 := Try.zeroValue128
  t51 := Try.underlying139
  a51 := Try.isAgg139
  z51 := Try.sizeOf139
  v51 := Try.zeroValue139
  t53 := Try.underlying71
  a53 := Try.isAgg71
  z53 := Try.sizeOf71
  v53 := Try.zeroValue71
  t70 := Try.underlying106
  a70 := Try.isAgg106
  z70 := Try.sizeOf106
  v70 := Try.zeroValue106
  t72 := Try.underlying108
  a72 := Try.isAgg108
  z72 := Try.sizeOf108
  v72 := Try.zeroValue108
  t75 := Try.underlying116
  a75 := Try.isAgg116
  z75 := Try.sizeOf116
  v75 := Try.zeroValue116
  t76 := Try.underlying117
  a76 := Try.isAgg117
  z76 := Try.sizeOf117
  v76 := Try.zeroValue117
  t109 := Try.underlying129
  a109 := Try.isAgg129
  z109 := Try.sizeOf129
  v109 := Try.zeroValue129
  t127 := Try.underlying134
  a127 := Try.isAgg134
  z127 := Try.sizeOf134
  v127 := Try.zeroValue134
  t146 := Try.underlying140
  a146 := Try.isAgg140
  z146 := Try.sizeOf140
  v146 := Try.zeroValue140
  t148 := Try.underlying142
  a148 := Try.isAgg142
  z148 := Try.sizeOf142
  v148 := Try.zeroValue142
  t164 := Try.underlying137
  a164 := Try.isAgg137
  z164 := Try.sizeOf137
  v164 := Try.zeroValue137 }

def renH : Go.Shelf.Ren := ⟨fun | 6 => 76 | 8 => 59 | n => n, fun | 0 => 0 | 3 => 3 | 4 => 4 | 22 => 36 | 23 => 9 | 25 => 99 | n => n, fun | n => n⟩

theorem laysH : Go.Proofs.SlLaysH.n8 Try.prog renH := {
  mixed := by kernel_rfl
  f6 := ⟨"slices.IndexFunc[[]string,string]", by decide, Try.func76.trans (congrArg some (by kernel_rfl))⟩
  f8 := ⟨"slices.ContainsFunc[[]string,string]", by decide, Try.func59.trans (congrArg some (by kernel_rfl))⟩
  t0 := Try.underlying0
  a0 := Try.isAgg0
  z0 := Try.sizeOf0
  v0 := Try.zeroValue0
  t3 := Try.underlying3
  a3 := Try.isAgg3
  z3 := Try.sizeOf3
  v3 := Try.zeroValue3
  t4 := Try.underlying4
  a4 := Try.isAgg4
  z4 := Try.sizeOf4
  v4 := Try.zeroValue4
  t22 := Try.underlying36
  a22 := Try.isAgg36
  z22 := Try.sizeOf36
  v22 := Try.zeroValue36
  a23 := Try.isAgg9
  z23 := Try.sizeOf9
  t25 := Try.underlying99
  a25 := Try.isAgg99
  z25 := Try.sizeOf99
  v25 := Try.zeroValue99 }

def renZ : Go.Shelf.Ren := ⟨fun | 6 => 27 | 8 => 45 | n => n, fun | 0 => 0 | 3 => 3 | 4 => 4 | 22 => 22 | 23 => 38 | 25 => 58 | n => n, fun | n => n⟩

theorem laysZ : Go.Proofs.SlLaysH0.n8 Try.prog renZ := {
  mixed := by kernel_rfl
  f6 := ⟨"slices.IndexFunc[[]cellarer/api.Zone,cellarer/api.Zone]", by decide, Try.func27.trans (congrArg some (by kernel_rfl))⟩
  f8 := ⟨"slices.ContainsFunc[[]cellarer/api.Zone,cellarer/api.Zone]", by decide, Try.func45.trans (congrArg some (by kernel_rfl))⟩
  t0 := Try.underlying0
  a0 := Try.isAgg0
  z0 := Try.sizeOf0
  v0 := Try.zeroValue0
  t3 := Try.underlying3
  a3 := Try.isAgg3
  z3 := Try.sizeOf3
  v3 := Try.zeroValue3
  t4 := Try.underlying4
  a4 := Try.isAgg4
  z4 := Try.sizeOf4
  v4 := Try.zeroValue4
  t22 := Try.underlying22
  a22 := Try.isAgg22
  z22 := Try.sizeOf22
  v22 := Try.zeroValue22
  t25 := Try.underlying58
  a25 := Try.isAgg58
  z25 := Try.sizeOf58
  v25 := Try.zeroValue58 }

def renC : Go.Shelf.Ren := ⟨fun | 41 => 37 | n => n, fun | 4 => 4 | 22 => 36 | 23 => 9 | n => n, fun | n => n⟩

theorem laysC : Go.Proofs.SlLaysE0.n41 Try.prog renC := {
  mixed := by kernel_rfl
  f41 := ⟨"slices.Clone[[]string,string]", by decide, Try.func37.trans (congrArg some (by kernel_rfl))⟩
  t4 := Try.underlying4
  a4 := Try.isAgg4
  z4 := Try.sizeOf4
  v4 := Try.zeroValue4
  t22 := Try.underlying36
  a22 := Try.isAgg36
  z22 := Try.sizeOf36
  v22 := Try.zeroValue36 }

end Go.Proofs.Ytkajcdflcagdlaa.Build
