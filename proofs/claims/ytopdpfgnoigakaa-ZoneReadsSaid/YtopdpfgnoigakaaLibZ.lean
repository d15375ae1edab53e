/- The library's contracts of strings.Repeat, slices.ContainsFunc and slices.Clone at this program: laid by names, by a program of this session. -/
import Derived.Shelf.Strings.Builder1
import Derived.Shelf.Strings.BuilderK
import Derived.Shelf.Strings.Repeat
import Derived.Shelf.Strings.OnBuilder
import Derived.Shelf.SlicesE.IndexFunc
import Derived.Shelf.SlicesE.Clone
import Derived.Shelf.SlicesQ.IndexFunc
import Derived.Test.YtopdpfgnoigakaaProg
namespace Go.Proofs.Ytopdpfgnoigakaa.Build
open Go.Shelf Go.RowKit
def renB : Go.Shelf.Ren := ⟨fun | 99 => 41 | 105 => 32 | 165 => 42 | 166 => 43 | 169 => 45 | 170 => 44 | 206 => 55 | 212 => 40 | 240 => 56 | 241 => 57 | 263 => 53 | 264 => 54 | 276 => 59 | 277 => 60 | n => n, fun | 0 => 0 | 3 => 3 | 4 => 4 | 5 => 5 | 9 => 9 | 20 => 20 | 37 => 70 | 46 => 76 | 51 => 95 | 53 => 98 | 70 => 80 | 72 => 82 | 75 => 85 | 76 => 86 | 80 => 89 | 109 => 77 | 127 => 101 | 146 => 96 | 148 => 99 | 164 => 103 | n => n, fun | n => n⟩

theorem extraB : Builder.Extra Try.prog renB := {
  sizeBuilder := by kernel_rfl
  liesBuilder := by kernel_rfl
  t5 := Try.underlying5
  a5 := Try.isAgg5
  z5 := Try.sizeOf5
  v5 := Try.zeroValue5
  infoByte := by kernel_rfl
  cellsByte := by kernel_rfl
  sizeByte := by kernel_rfl
  neB5 := by decide }

theorem laysR : Go.Proofs.Lays.n105 Try.prog renB := {
  mixed := by kernel_rfl
  f99 := Try.func41.trans (congrArg some (by kernel_rfl))
  f105 := Try.func32.trans (congrArg some (by kernel_rfl))
  f165 := Try.func42.trans (congrArg some (by kernel_rfl))
  f166 := Try.func43.trans (congrArg some (by kernel_rfl))
  f169 := Try.func45.trans (congrArg some (by kernel_rfl))
  f170 := Try.func44.trans (congrArg some (by kernel_rfl))
  f206 := Try.func55.trans (congrArg some (by kernel_rfl))
  f212 := Try.func40.trans (congrArg some (by kernel_rfl))
  f240 := Try.func56.trans (congrArg some (by kernel_rfl))
  f241 := Try.func57.trans (congrArg some (by kernel_rfl))
  f263 := Try.func53.trans (congrArg some (by kernel_rfl))
  f264 := Try.func54.trans (congrArg some (by kernel_rfl))
  f276 := Try.func59.trans (congrArg some (by kernel_rfl))
  f277 := Try.func60.trans (congrArg some (by kernel_rfl))
  t0 := Try.underlying0
  a0 := Try.isAgg0
  z0 := Try.sizeOf0
  v0 := Try.zeroValue0
  t3 := Try.underlying3
  a3 := Try.isAgg3
  z3 := Try.sizeOf3
  v3 := Try.zeroValue3
  t4 := Try.underlying4
  a4 := Try.isAgg4
  z4 := Try.sizeOf4
  v4 := Try.zeroValue4
  t5 := Try.underlying5
  a5 := Try.isAgg5
  z5 := Try.sizeOf5
  v5 := Try.zeroValue5
  t9 := Try.underlying9
  a9 := Try.isAgg9
  z9 := Try.sizeOf9
  v9 := Try.zeroValue9
  t20 := Try.underlying20
  a20 := Try.isAgg20
  z20 := Try.sizeOf20
  v20 := Try.zeroValue20
  t37 := Try.underlying70
  a37 := Try.isAgg70
  z37 := Try.sizeOf70
  v37 := Try.zeroValue70
  t46 := Try.underlying76
  a46 := Try.isAgg76
  z46 := Try.sizeOf76
  v46 := Try.zeroValue76
  t51 := Try.underlying95
  a51 := Try.isAgg95
  z51 := Try.sizeOf95
  v51 := Try.zeroValue95
  t53 := Try.underlying98
  a53 := Try.isAgg98
  z53 := Try.sizeOf98
  v53 := Try.zeroValue98
  t70 := Try.underlying80
  a70 := Try.isAgg80
  z70 := Try.sizeOf80
  v70 := Try.zeroValue80
  t72 := Try.underlying82
  a72 := Try.isAgg82
  z72 := Try.sizeOf82
  v72 := Try.zeroValue82
  t75 := Try.underlying85
  a75 := Try.isAgg85
  z75 := Try.sizeOf85
  v75 := Try.zeroValue85
  t76 := Try.underlying86
  a76 := Try.isAgg86
  z76 := Try.sizeOf86
  v76 := Try.zeroValue86
  t109 := Try.underlying77
  a109 := Try.isAgg77
  z109 := Try.sizeOf77
  v109 := Try.zeroValue77
  t127 := Try.underlying101
  a127 := Try.isAgg101
  z127 := Try.sizeOf101
  v127 := Try.zeroValue101
  t146 := Try.underlying96
  a146 := Try.isAgg96
  z146 := Try.sizeOf96
  v146 := Try.zeroValue96
  t148 := Try.underlying99
  a148 := Try.isAgg99
  z148 := Try.sizeOf99
  v148 := Try.zeroValue99
  t164 := Try.underlying103
  a164 := Try.isAgg103
  z164 := Try.sizeOf103
  v164 := Try.zeroValue103 }

def renH : Go.Shelf.Ren := ⟨fun | 6 => 58 | 8 => 52 | n => n, fun | 0 => 0 | 3 => 3 | 4 => 4 | 22 => 36 | 23 => 9 | 25 => 93 | n => n, fun | n => n⟩

theorem laysH : Go.Proofs.SlLaysH.n8 Try.prog renH := {
  mixed := by kernel_rfl
  f6 := ⟨"slices.IndexFunc[[]string,string]", by decide, Try.func58.trans (congrArg some (by kernel_rfl))⟩
  f8 := ⟨"slices.ContainsFunc[[]string,string]", by decide, Try.func52.trans (congrArg some (by kernel_rfl))⟩
  t0 := Try.underlying0
  a0 := Try.isAgg0
  z0 := Try.sizeOf0
  v0 := Try.zeroValue0
  t3 := Try.underlying3
  a3 := Try.isAgg3
  z3 := Try.sizeOf3
  v3 := Try.zeroValue3
  t4 := Try.underlying4
  a4 := Try.isAgg4
  z4 := Try.sizeOf4
  v4 := Try.zeroValue4
  t22 := Try.underlying36
  a22 := Try.isAgg36
  z22 := Try.sizeOf36
  v22 := Try.zeroValue36
  a23 := Try.isAgg9
  z23 := Try.sizeOf9
  t25 := Try.underlying93
  a25 := Try.isAgg93
  z25 := Try.sizeOf93
  v25 := Try.zeroValue93 }

def renZ : Go.Shelf.Ren := ⟨fun | 6 => 50 | 8 => 36 | n => n, fun | 0 => 0 | 3 => 3 | 4 => 4 | 22 => 24 | 23 => 38 | 25 => 68 | n => n, fun | n => n⟩

theorem laysZ : Go.Proofs.SlLaysH0.n8 Try.prog renZ := {
  mixed := by kernel_rfl
  f6 := ⟨"slices.IndexFunc[[]cellarer/api.Zone,cellarer/api.Zone]", by decide, Try.func50.trans (congrArg some (by kernel_rfl))⟩
  f8 := ⟨"slices.ContainsFunc[[]cellarer/api.Zone,cellarer/api.Zone]", by decide, Try.func36.trans (congrArg some (by kernel_rfl))⟩
  t0 := Try.underlying0
  a0 := Try.isAgg0
  z0 := Try.sizeOf0
  v0 := Try.zeroValue0
  t3 := Try.underlying3
  a3 := Try.isAgg3
  z3 := Try.sizeOf3
  v3 := Try.zeroValue3
  t4 := Try.underlying4
  a4 := Try.isAgg4
  z4 := Try.sizeOf4
  v4 := Try.zeroValue4
  t22 := Try.underlying24
  a22 := Try.isAgg24
  z22 := Try.sizeOf24
  v22 := Try.zeroValue24
  t25 := Try.underlying68
  a25 := Try.isAgg68
  z25 := Try.sizeOf68
  v25 := Try.zeroValue68 }

def renC : Go.Shelf.Ren := ⟨fun | 41 => 29 | n => n, fun | 4 => 4 | 22 => 36 | 23 => 9 | n => n, fun | n => n⟩

theorem laysC : Go.Proofs.SlLaysE0.n41 Try.prog renC := {
  mixed := by kernel_rfl
  f41 := ⟨"slices.Clone[[]string,string]", by decide, Try.func29.trans (congrArg some (by kernel_rfl))⟩
  t4 := Try.underlying4
  a4 := Try.isAgg4
  z4 := Try.sizeOf4
  v4 := Try.zeroValue4
  t22 := Try.underlying36
  a22 := Try.isAgg36
  z22 := Try.sizeOf36
  v22 := Try.zeroValue36 }

end Go.Proofs.Ytopdpfgnoigakaa.Build
