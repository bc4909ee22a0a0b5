/-
  DERIVED: THE SHELF's CONTRACTS AT THIS DUMP, IN PLAIN WORDS (tools/lay-plain.mjs out of 'YtgfkodanekfekaaShelf.lean', which tools/lay-shelf.mjs wrote): THE SAME DECLARATIONS UNDER THE SAME NAMES: 'import', 'namespace', 'open', 'def', 'theorem' AND NOTHING ELSE: no command of the shelf's: FOR A HAND-IN. Each laying: the table of numbers ('.._ren') and one theorem, a field a fact of the dump's own or the kernel's comparison; each contract: ONE APPLICATION.
-/
import Derived.Test.YtgfkodanekfekaaProg
import Derived.Shelf.SlSortCmp.NoneTotal
import Derived.Shelf.SlGeneric
import Derived.Ground.SlsfProg
namespace Go.Proofs
open Go.Shelf
def Try.sortSpot_ren : Go.Shelf.Ren := ⟨fun | 6 => 88 | 15 => 98 | 14 => 97 | 28 => 111 | 29 => 112 | 20 => 103 | 21 => 104 | 22 => 105 | 23 => 106 | 24 => 107 | 25 => 108 | 26 => 109 | 27 => 110 | 46 => 113 | 47 => 114 | 48 => 115 | 49 => 116 | 50 => 117 | 57 => 118 | n => n, fun | 22 => 22 | 24 => 30 | 25 => 112 | 3 => 3 | 39 => 118 | 0 => 0 | 53 => 129 | 55 => 131 | 4 => 4 | 46 => 122 | 45 => 121 | 50 => 126 | 5 => 5 | 9 => 9 | 66 => 132 | 70 => 136 | 76 => 138 | 77 => 139 | n => n, fun | n => n⟩
theorem Try.sortSpot : Go.Proofs.SlLaysF0.n6 Try.prog Try.sortSpot_ren := {
  mixed := by kernel_rfl
  f6 := ⟨Try.f88.name, by decide, Try.func88.trans (congrArg some (by kernel_rfl))⟩
  f14 := ⟨Try.f97.name, by decide, Try.func97.trans (congrArg some (by kernel_rfl))⟩
  f15 := Try.func98.trans (congrArg some (by kernel_rfl))
  f20 := ⟨Try.f103.name, by decide, Try.func103.trans (congrArg some (by kernel_rfl))⟩
  f21 := ⟨Try.f104.name, by decide, Try.func104.trans (congrArg some (by kernel_rfl))⟩
  f22 := ⟨Try.f105.name, by decide, Try.func105.trans (congrArg some (by kernel_rfl))⟩
  f23 := ⟨Try.f106.name, by decide, Try.func106.trans (congrArg some (by kernel_rfl))⟩
  f24 := ⟨Try.f107.name, by decide, Try.func107.trans (congrArg some (by kernel_rfl))⟩
  f25 := ⟨Try.f108.name, by decide, Try.func108.trans (congrArg some (by kernel_rfl))⟩
  f26 := ⟨Try.f109.name, by decide, Try.func109.trans (congrArg some (by kernel_rfl))⟩
  f27 := ⟨Try.f110.name, by decide, Try.func110.trans (congrArg some (by kernel_rfl))⟩
  f28 := Try.func111.trans (congrArg some (by kernel_rfl))
  f29 := Try.func112.trans (congrArg some (by kernel_rfl))
  f46 := ⟨Try.f113.name, by decide, Try.func113.trans (congrArg some (by kernel_rfl))⟩
  f47 := Try.func114.trans (congrArg some (by kernel_rfl))
  f48 := Try.func115.trans (congrArg some (by kernel_rfl))
  f49 := ⟨Try.f116.name, by decide, Try.func116.trans (congrArg some (by kernel_rfl))⟩
  f50 := ⟨Try.f117.name, by decide, Try.func117.trans (congrArg some (by kernel_rfl))⟩
  f57 := ⟨Try.f118.name, by decide, Try.func118.trans (congrArg some (by kernel_rfl))⟩
  t0 := Try.underlying0
  a0 := Try.isAgg0
  z0 := Try.sizeOf0
  v0 := Try.zeroValue0
  t3 := Try.underlying3
  a3 := Try.isAgg3
  z3 := Try.sizeOf3
  v3 := Try.zeroValue3
  t4 := Try.underlying4
  a4 := Try.isAgg4
  z4 := Try.sizeOf4
  v4 := Try.zeroValue4
  t5 := Try.underlying5
  a5 := Try.isAgg5
  z5 := Try.sizeOf5
  v5 := Try.zeroValue5
  t9 := Try.underlying9
  a9 := Try.isAgg9
  z9 := Try.sizeOf9
  v9 := Try.zeroValue9
  t22 := Try.underlying22
  a22 := Try.isAgg22
  z22 := Try.sizeOf22
  v22 := Try.zeroValue22
  t25 := Try.underlying112
  a25 := Try.isAgg112
  z25 := Try.sizeOf112
  v25 := Try.zeroValue112
  t39 := Try.underlying118
  a39 := Try.isAgg118
  z39 := Try.sizeOf118
  v39 := Try.zeroValue118
  t45 := Try.underlying121
  a45 := Try.isAgg121
  z45 := Try.sizeOf121
  v45 := Try.zeroValue121
  t46 := Try.underlying122
  a46 := Try.isAgg122
  z46 := Try.sizeOf122
  v46 := Try.zeroValue122
  t50 := Try.underlying126
  a50 := Try.isAgg126
  z50 := Try.sizeOf126
  v50 := Try.zeroValue126
  t53 := Try.underlying129
  a53 := Try.isAgg129
  z53 := Try.sizeOf129
  v53 := Try.zeroValue129
  t55 := Try.underlying131
  a55 := Try.isAgg131
  z55 := Try.sizeOf131
  v55 := Try.zeroValue131
  t66 := Try.underlying132
  a66 := Try.isAgg132
  z66 := Try.sizeOf132
  v66 := Try.zeroValue132
  t70 := Try.underlying136
  a70 := Try.isAgg136
  z70 := Try.sizeOf136
  v70 := Try.zeroValue136
  t76 := Try.underlying138
  a76 := Try.isAgg138
  z76 := Try.sizeOf138
  v76 := Try.zeroValue138
  t77 := Try.underlying139
  a77 := Try.isAgg139
  z77 := Try.sizeOf139
  v77 := Try.zeroValue139 }
end Go.Proofs
