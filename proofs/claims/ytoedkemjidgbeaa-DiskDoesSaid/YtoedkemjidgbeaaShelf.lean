/-
  DERIVED: THE SHELF's CONTRACTS AT THIS DUMP, IN PLAIN WORDS (tools/lay-plain.mjs out of 'TryIter.lean', which tools/lay-shelf.mjs wrote): THE SAME DECLARATIONS UNDER THE SAME NAMES: 'import', 'namespace', 'open', 'def', 'theorem' AND NOTHING ELSE: no command of the shelf's: FOR A HAND-IN. Each laying: the table of numbers ('.._ren') and one theorem, a field a fact of the dump's own or the kernel's comparison; each contract: ONE APPLICATION.
-/
import Derived.Shelf.SlGeneric
import Derived.Shelf.SlIter.Nil
import Derived.Shelf.SortM.Plain
import Derived.Shelf.SortM.SortNone
import Derived.Ground.GgzProg
import Derived.Ground.SlgmProg
import Derived.Test.YtoedkemjidgbeaaProg
namespace Go.Proofs
open Go.Shelf
def Try.keys42_ren : Go.Shelf.Ren := ⟨fun | 7 => 42 | 10 => 54 | n => n, fun | 23 => 59 | 26 => 9 | 3 => 62 | 28 => 72 | 0 => 0 | 27 => 71 | 33 => 68 | 4 => 4 | n => n, fun | n => n⟩
theorem Try.keys42 : Go.Proofs.SlLaysZ.n7 Try.prog Try.keys42_ren := {
  mixed := by kernel_rfl
  f7 := ⟨Try.f42.name, by decide, Try.func42.trans (congrArg some (by kernel_rfl))⟩
  f10 := ⟨Try.f54.name, by decide, Try.func54.trans (congrArg some (by kernel_rfl))⟩
  t0 := Try.underlying0
  a0 := Try.isAgg0
  z0 := Try.sizeOf0
  v0 := Try.zeroValue0
  t4 := Try.underlying4
  a4 := Try.isAgg4
  z4 := Try.sizeOf4
  v4 := Try.zeroValue4
  t23 := Try.underlying59
  a23 := Try.isAgg59
  z23 := Try.sizeOf59
  v23 := Try.zeroValue59
  t26 := Try.underlying9
  a26 := Try.isAgg9
  z26 := Try.sizeOf9
  v26 := Try.zeroValue9
  t27 := Try.underlying71
  a27 := Try.isAgg71
  z27 := Try.sizeOf71
  v27 := Try.zeroValue71
  t28 := Try.underlying72
  a28 := Try.isAgg72
  z28 := Try.sizeOf72
  v28 := Try.zeroValue72
  t33 := Try.underlying68
  a33 := Try.isAgg68
  z33 := Try.sizeOf68
  v33 := Try.zeroValue68 }
def Try.sorted41_ren : Go.Shelf.Ren := ⟨fun | 6 => 41 | 8 => 52 | 9 => 53 | 11 => 61 | 13 => 63 | 12 => 62 | 23 => 73 | 24 => 74 | 14 => 64 | 15 => 65 | 16 => 66 | 17 => 67 | 18 => 68 | 19 => 69 | 20 => 70 | 21 => 71 | 22 => 72 | 25 => 75 | 26 => 76 | 27 => 77 | 28 => 78 | 29 => 79 | 30 => 80 | 31 => 81 | n => n, fun | 26 => 9 | 28 => 72 | 24 => 41 | 0 => 0 | 3 => 3 | 37 => 87 | 48 => 98 | 50 => 100 | 4 => 4 | 40 => 90 | 39 => 89 | 45 => 95 | 5 => 5 | 9 => 9 | 51 => 101 | 55 => 105 | 57 => 107 | 58 => 108 | 33 => 68 | n => n, fun | n => n⟩
theorem Try.sorted41 : Go.Proofs.SlLaysZ.n6 Try.prog Try.sorted41_ren := {
  mixed := by kernel_rfl
  f6 := ⟨Try.f41.name, by decide, Try.func41.trans (congrArg some (by kernel_rfl))⟩
  f8 := ⟨Try.f52.name, by decide, Try.func52.trans (congrArg some (by kernel_rfl))⟩
  f11 := ⟨Try.f61.name, by decide, Try.func61.trans (congrArg some (by kernel_rfl))⟩
  t0 := Try.underlying0
  a0 := Try.isAgg0
  z0 := Try.sizeOf0
  v0 := Try.zeroValue0
  t24 := Try.underlying41
  a24 := Try.isAgg41
  z24 := Try.sizeOf41
  v24 := Try.zeroValue41
  t26 := Try.underlying9
  a26 := Try.isAgg9
  z26 := Try.sizeOf9
  v26 := Try.zeroValue9
  t28 := Try.underlying72
  a28 := Try.isAgg72
  z28 := Try.sizeOf72
  v28 := Try.zeroValue72
  i26 := by kernel_rfl }
def Try.sort53_ren : Go.Shelf.Ren := ⟨fun | 6 => 53 | 8 => 63 | 9 => 62 | 19 => 73 | 20 => 74 | 21 => 64 | 22 => 65 | 23 => 66 | 24 => 67 | 25 => 68 | 26 => 69 | 27 => 70 | 28 => 71 | 29 => 72 | 36 => 75 | 31 => 76 | 32 => 77 | 37 => 78 | 38 => 79 | 39 => 80 | 41 => 81 | n => n, fun | 27 => 41 | 29 => 9 | 3 => 3 | 32 => 87 | 26 => 41 | 0 => 0 | 44 => 98 | 46 => 100 | 4 => 4 | 36 => 90 | 35 => 89 | 41 => 95 | 5 => 5 | 9 => 9 | 53 => 101 | 57 => 105 | 63 => 107 | 64 => 108 | n => n, fun | n => n⟩
theorem Try.sort53 : Go.Proofs.SlLaysM.n6 Try.prog Try.sort53_ren := {
  mixed := by kernel_rfl
  f6 := ⟨Try.f53.name, by decide, Try.func53.trans (congrArg some (by kernel_rfl))⟩
  f8 := Try.func63.trans (congrArg some (by kernel_rfl))
  f9 := ⟨Try.f62.name, by decide, Try.func62.trans (congrArg some (by kernel_rfl))⟩
  f19 := Try.func73.trans (congrArg some (by kernel_rfl))
  f20 := Try.func74.trans (congrArg some (by kernel_rfl))
  f21 := ⟨Try.f64.name, by decide, Try.func64.trans (congrArg some (by kernel_rfl))⟩
  f22 := ⟨Try.f65.name, by decide, Try.func65.trans (congrArg some (by kernel_rfl))⟩
  f23 := ⟨Try.f66.name, by decide, Try.func66.trans (congrArg some (by kernel_rfl))⟩
  f24 := ⟨Try.f67.name, by decide, Try.func67.trans (congrArg some (by kernel_rfl))⟩
  f25 := ⟨Try.f68.name, by decide, Try.func68.trans (congrArg some (by kernel_rfl))⟩
  f26 := ⟨Try.f69.name, by decide, Try.func69.trans (congrArg some (by kernel_rfl))⟩
  f27 := ⟨Try.f70.name, by decide, Try.func70.trans (congrArg some (by kernel_rfl))⟩
  f28 := ⟨Try.f71.name, by decide, Try.func71.trans (congrArg some (by kernel_rfl))⟩
  f29 := ⟨Try.f72.name, by decide, Try.func72.trans (congrArg some (by kernel_rfl))⟩
  f31 := Try.func76.trans (congrArg some (by kernel_rfl))
  f32 := Try.func77.trans (congrArg some (by kernel_rfl))
  f36 := ⟨Try.f75.name, by decide, Try.func75.trans (congrArg some (by kernel_rfl))⟩
  f37 := ⟨Try.f78.name, by decide, Try.func78.trans (congrArg some (by kernel_rfl))⟩
  f38 := ⟨Try.f79.name, by decide, Try.func79.trans (congrArg some (by kernel_rfl))⟩
  f39 := ⟨Try.f80.name, by decide, Try.func80.trans (congrArg some (by kernel_rfl))⟩
  f41 := ⟨Try.f81.name, by decide, Try.func81.trans (congrArg some (by kernel_rfl))⟩
  t0 := Try.underlying0
  a0 := Try.isAgg0
  z0 := Try.sizeOf0
  v0 := Try.zeroValue0
  t3 := Try.underlying3
  a3 := Try.isAgg3
  z3 := Try.sizeOf3
  v3 := Try.zeroValue3
  t4 := Try.underlying4
  a4 := Try.isAgg4
  z4 := Try.sizeOf4
  v4 := Try.zeroValue4
  t5 := Try.underlying5
  a5 := Try.isAgg5
  z5 := Try.sizeOf5
  v5 := Try.zeroValue5
  t9 := Try.underlying9
  a9 := Try.isAgg9
  z9 := Try.sizeOf9
  v9 := Try.zeroValue9
  t26 := Try.underlying41
  a26 := Try.isAgg41
  z26 := Try.sizeOf41
  v26 := Try.zeroValue41
  t27 := Try.underlying41
  a27 := Try.isAgg41
  z27 := Try.sizeOf41
  v27 := Try.zeroValue41
  t29 := Try.underlying9
  a29 := Try.isAgg9
  z29 := Try.sizeOf9
  v29 := Try.zeroValue9
  t32 := Try.underlying87
  a32 := Try.isAgg87
  z32 := Try.sizeOf87
  v32 := Try.zeroValue87
  t35 := Try.underlying89
  a35 := Try.isAgg89
  z35 := Try.sizeOf89
  v35 := Try.zeroValue89
  t36 := Try.underlying90
  a36 := Try.isAgg90
  z36 := Try.sizeOf90
  v36 := Try.zeroValue90
  t41 := Try.underlying95
  a41 := Try.isAgg95
  z41 := Try.sizeOf95
  v41 := Try.zeroValue95
  t44 := Try.underlying98
  a44 := Try.isAgg98
  z44 := Try.sizeOf98
  v44 := Try.zeroValue98
  t46 := Try.underlying100
  a46 := Try.isAgg100
  z46 := Try.sizeOf100
  v46 := Try.zeroValue100
  t53 := Try.underlying101
  a53 := Try.isAgg101
  z53 := Try.sizeOf101
  v53 := Try.zeroValue101
  t57 := Try.underlying105
  a57 := Try.isAgg105
  z57 := Try.sizeOf105
  v57 := Try.zeroValue105
  t63 := Try.underlying107
  a63 := Try.isAgg107
  z63 := Try.sizeOf107
  v63 := Try.zeroValue107
  t64 := Try.underlying108
  a64 := Try.isAgg108
  z64 := Try.sizeOf108
  v64 := Try.zeroValue108 }
end Go.Proofs
