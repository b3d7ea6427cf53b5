import Derived.Test.YtkncekndhklmhaaP03
import Derived.Test.YtkncekndhklmhaaProg
import Derived.DeepKeys
/- A part of the proof of a law: steps of the program on plain data, and plain facts about them; no condition. -/
set_option linter.unusedVariables false
set_option linter.unusedSimpArgs false
section
open Go Go.Ax
namespace Go.Proofs.S
def T : Nat → Option TI
  | 2 => some ⟨.int .i64, 1, 8, [.lit (.int .i64 0)], []⟩
  | 3 => some ⟨.int .i64, 1, 8, [.lit (.int .i64 0)], []⟩
  | 4 => some ⟨.bool, 1, 1, [.bool false], []⟩
  | 21 => some ⟨.int .i32, 1, 4, [.lit (.int .i32 0)], []⟩
  | 22 => some ⟨.slice 33, 1, 24, [.lit (.slice none 0 0)], [7]⟩
  | 24 => some ⟨.slice 31, 1, 24, [.lit (.slice none 0 0)], [6]⟩
  | 25 => some ⟨.struct [(3, 0), (3, 1), (3, 2)], 3, 24, [.lit (.int .i64 0), .lit (.int .i64 0), .lit (.int .i64 0)], []⟩
  | 26 => some ⟨.struct [(3, 0), (3, 1), (3, 2)], 3, 24, [.lit (.int .i64 0), .lit (.int .i64 0), .lit (.int .i64 0)], []⟩
  | 27 => some ⟨.slice 3, 1, 24, [.lit (.slice none 0 0)], [1]⟩
  | 28 => some ⟨.struct [(3, 0), (3, 1), (27, 2)], 3, 40, [.lit (.int .i64 0), .lit (.int .i64 0), .lit (.slice none 0 0)], [0, 0, 1]⟩
  | 29 => some ⟨.struct [(3, 0), (3, 1), (27, 2)], 3, 40, [.lit (.int .i64 0), .lit (.int .i64 0), .lit (.slice none 0 0)], [0, 0, 1]⟩
  | 30 => some ⟨.struct [(26, 0), (29, 3)], 6, 64, [.lit (.int .i64 0), .lit (.int .i64 0), .lit (.int .i64 0), .lit (.int .i64 0), .lit (.int .i64 0), .lit (.slice none 0 0)], [0, 0, 0, 0, 0, 1]⟩
  | 31 => some ⟨.struct [(26, 0), (29, 3)], 6, 64, [.lit (.int .i64 0), .lit (.int .i64 0), .lit (.int .i64 0), .lit (.int .i64 0), .lit (.int .i64 0), .lit (.slice none 0 0)], [0, 0, 0, 0, 0, 1]⟩
  | 32 => some ⟨.struct [(3, 0), (31, 1)], 7, 72, [.lit (.int .i64 0), .lit (.int .i64 0), .lit (.int .i64 0), .lit (.int .i64 0), .lit (.int .i64 0), .lit (.int .i64 0), .lit (.slice none 0 0)], [0, 0, 0, 0, 0, 0, 1]⟩
  | 33 => some ⟨.struct [(3, 0), (31, 1)], 7, 72, [.lit (.int .i64 0), .lit (.int .i64 0), .lit (.int .i64 0), .lit (.int .i64 0), .lit (.int .i64 0), .lit (.int .i64 0), .lit (.slice none 0 0)], [0, 0, 0, 0, 0, 0, 1]⟩
  | 36 => some ⟨.int .i64, 1, 8, [.lit (.int .i64 0)], []⟩
  | 44 => some ⟨.slice 4, 1, 24, [.lit (.slice none 0 0)], [1]⟩
  | 49 => some ⟨.slice 74, 1, 24, [.lit (.slice none 0 0)], [2]⟩
  | 50 => some ⟨.slice 76, 1, 24, [.lit (.slice none 0 0)], [4]⟩
  | 51 => some ⟨.slice 29, 1, 24, [.lit (.slice none 0 0)], [3]⟩
  | 52 => some ⟨.struct [(49, 0), (50, 1), (51, 2), (3, 3)], 4, 80, [.lit (.slice none 0 0), .lit (.slice none 0 0), .lit (.slice none 0 0), .lit (.int .i64 0)], [2, 4, 3]⟩
  | 53 => some ⟨.struct [(49, 0), (50, 1), (51, 2), (3, 3)], 4, 80, [.lit (.slice none 0 0), .lit (.slice none 0 0), .lit (.slice none 0 0), .lit (.int .i64 0)], [2, 4, 3]⟩
  | 55 => some ⟨.slice 68, 1, 24, [.lit (.slice none 0 0)], [5]⟩
  | 56 => some ⟨.struct [(3, 0), (3, 1), (3, 2), (3, 3)], 4, 32, [.lit (.int .i64 0), .lit (.int .i64 0), .lit (.int .i64 0), .lit (.int .i64 0)], []⟩
  | 57 => some ⟨.struct [(3, 0), (3, 1), (3, 2), (3, 3)], 4, 32, [.lit (.int .i64 0), .lit (.int .i64 0), .lit (.int .i64 0), .lit (.int .i64 0)], []⟩
  | 58 => some ⟨.struct [(55, 0), (24, 1), (57, 2)], 6, 80, [.lit (.slice none 0 0), .lit (.slice none 0 0), .lit (.int .i64 0), .lit (.int .i64 0), .lit (.int .i64 0), .lit (.int .i64 0)], [5, 6]⟩
  | 59 => some ⟨.struct [(55, 0), (24, 1), (57, 2)], 6, 80, [.lit (.slice none 0 0), .lit (.slice none 0 0), .lit (.int .i64 0), .lit (.int .i64 0), .lit (.int .i64 0), .lit (.int .i64 0)], [5, 6]⟩
  | 62 => some ⟨.array 2 3, 2, 16, [.lit (.int .i64 0), .lit (.int .i64 0)], []⟩
  | 63 => some ⟨.struct [(3, 0), (26, 1), (3, 4)], 5, 40, [.lit (.int .i64 0), .lit (.int .i64 0), .lit (.int .i64 0), .lit (.int .i64 0), .lit (.int .i64 0)], []⟩
  | 64 => some ⟨.struct [(3, 0), (26, 1), (3, 4)], 5, 40, [.lit (.int .i64 0), .lit (.int .i64 0), .lit (.int .i64 0), .lit (.int .i64 0), .lit (.int .i64 0)], []⟩
  | 67 => some ⟨.struct [(27, 0), (4, 1), (3, 2), (3, 3), (3, 4)], 5, 56, [.lit (.slice none 0 0), .bool false, .lit (.int .i64 0), .lit (.int .i64 0), .lit (.int .i64 0)], [1]⟩
  | 68 => some ⟨.struct [(27, 0), (4, 1), (3, 2), (3, 3), (3, 4)], 5, 56, [.lit (.slice none 0 0), .bool false, .lit (.int .i64 0), .lit (.int .i64 0), .lit (.int .i64 0)], [1]⟩
  | 70 => some ⟨.struct [(3, 0), (3, 1)], 2, 16, [.lit (.int .i64 0), .lit (.int .i64 0)], []⟩
  | 71 => some ⟨.struct [(3, 0), (3, 1)], 2, 16, [.lit (.int .i64 0), .lit (.int .i64 0)], []⟩
  | 72 => some ⟨.slice 71, 1, 24, [.lit (.slice none 0 0)], [2]⟩
  | 73 => some ⟨.struct [(3, 0), (72, 1)], 2, 32, [.lit (.int .i64 0), .lit (.slice none 0 0)], [0, 2]⟩
  | 74 => some ⟨.struct [(3, 0), (72, 1)], 2, 32, [.lit (.int .i64 0), .lit (.slice none 0 0)], [0, 2]⟩
  | 75 => some ⟨.struct [(27, 0), (3, 1), (3, 2), (4, 3)], 4, 48, [.lit (.slice none 0 0), .lit (.int .i64 0), .lit (.int .i64 0), .bool false], [1]⟩
  | 76 => some ⟨.struct [(27, 0), (3, 1), (3, 2), (4, 3)], 4, 48, [.lit (.slice none 0 0), .lit (.int .i64 0), .lit (.int .i64 0), .bool false], [1]⟩
  | 78 => some ⟨.slice 71, 1, 24, [.lit (.slice none 0 0)], [2]⟩
  | 79 => some ⟨.slice 78, 1, 24, [.lit (.slice none 0 0)], [1]⟩
  | 80 => some ⟨.slice 89, 1, 24, [.lit (.slice none 0 0)], [2]⟩
  | 81 => some ⟨.struct [(4, 0), (3, 1), (3, 2), (80, 3)], 4, 48, [.bool false, .lit (.int .i64 0), .lit (.int .i64 0), .lit (.slice none 0 0)], [0, 0, 0, 2]⟩
  | 82 => some ⟨.struct [(4, 0), (3, 1), (3, 2), (80, 3)], 4, 48, [.bool false, .lit (.int .i64 0), .lit (.int .i64 0), .lit (.slice none 0 0)], [0, 0, 0, 2]⟩
  | 85 => some ⟨.struct [(3, 0), (3, 1)], 2, 16, [.lit (.int .i64 0), .lit (.int .i64 0)], []⟩
  | 86 => some ⟨.struct [(3, 0), (3, 1)], 2, 16, [.lit (.int .i64 0), .lit (.int .i64 0)], []⟩
  | 87 => some ⟨.slice 64, 1, 24, [.lit (.slice none 0 0)], [5]⟩
  | 88 => some ⟨.struct [(3, 0), (87, 1)], 2, 32, [.lit (.int .i64 0), .lit (.slice none 0 0)], [0, 5]⟩
  | 89 => some ⟨.struct [(3, 0), (87, 1)], 2, 32, [.lit (.int .i64 0), .lit (.slice none 0 0)], [0, 5]⟩
  | 91 => some ⟨.slice 125, 1, 24, [.lit (.slice none 0 0)], [2]⟩
  | 125 => some ⟨.struct [(3, 0), (87, 1)], 2, 32, [.lit (.int .i64 0), .lit (.slice none 0 0)], [0, 5]⟩
  | 143 => some ⟨.struct [(82, 0), (53, 4), (57, 8), (86, 12), (87, 14), (79, 15), (4, 16)], 17, 232, [.bool false, .lit (.int .i64 0), .lit (.int .i64 0), .lit (.slice none 0 0), .lit (.slice none 0 0), .lit (.slice none 0 0), .lit (.slice none 0 0), .lit (.int .i64 0), .lit (.int .i64 0), .lit (.int .i64 0), .lit (.int .i64 0), .lit (.int .i64 0), .lit (.int .i64 0), .lit (.int .i64 0), .lit (.slice none 0 0), .lit (.slice none 0 0), .bool false], [0, 0, 0, 2, 2, 4, 3, 0, 0, 0, 0, 0, 0, 0, 5, 1]⟩
  | 144 => some ⟨.struct [(82, 0), (53, 4), (57, 8), (86, 12), (87, 14), (79, 15), (4, 16)], 17, 232, [.bool false, .lit (.int .i64 0), .lit (.int .i64 0), .lit (.slice none 0 0), .lit (.slice none 0 0), .lit (.slice none 0 0), .lit (.slice none 0 0), .lit (.int .i64 0), .lit (.int .i64 0), .lit (.int .i64 0), .lit (.int .i64 0), .lit (.int .i64 0), .lit (.int .i64 0), .lit (.int .i64 0), .lit (.slice none 0 0), .lit (.slice none 0 0), .bool false], [0, 0, 0, 2, 2, 4, 3, 0, 0, 0, 0, 0, 0, 0, 5, 1]⟩
  | 152 => some ⟨.struct [(68, 0), (51, 5), (3, 6)], 7, 88, [.lit (.slice none 0 0), .bool false, .lit (.int .i64 0), .lit (.int .i64 0), .lit (.int .i64 0), .lit (.slice none 0 0), .lit (.int .i64 0)], [1, 0, 0, 0, 0, 3]⟩
  | 153 => some ⟨.struct [(68, 0), (51, 5), (3, 6)], 7, 88, [.lit (.slice none 0 0), .bool false, .lit (.int .i64 0), .lit (.int .i64 0), .lit (.int .i64 0), .lit (.slice none 0 0), .lit (.int .i64 0)], [1, 0, 0, 0, 0, 3]⟩
  | 175 => some ⟨.int .i64, 1, 8, [.lit (.int .i64 0)], []⟩
  | 189 => some ⟨.struct [(53, 0), (3, 4), (27, 5), (68, 6), (27, 11), (51, 12), (3, 13)], 14, 224, [.lit (.slice none 0 0), .lit (.slice none 0 0), .lit (.slice none 0 0), .lit (.int .i64 0), .lit (.int .i64 0), .lit (.slice none 0 0), .lit (.slice none 0 0), .bool false, .lit (.int .i64 0), .lit (.int .i64 0), .lit (.int .i64 0), .lit (.slice none 0 0), .lit (.slice none 0 0), .lit (.int .i64 0)], [2, 4, 3, 0, 0, 1, 1, 0, 0, 0, 0, 1, 3]⟩
  | 190 => some ⟨.struct [(53, 0), (3, 4), (27, 5), (68, 6), (27, 11), (51, 12), (3, 13)], 14, 224, [.lit (.slice none 0 0), .lit (.slice none 0 0), .lit (.slice none 0 0), .lit (.int .i64 0), .lit (.int .i64 0), .lit (.slice none 0 0), .lit (.slice none 0 0), .bool false, .lit (.int .i64 0), .lit (.int .i64 0), .lit (.int .i64 0), .lit (.slice none 0 0), .lit (.slice none 0 0), .lit (.int .i64 0)], [2, 4, 3, 0, 0, 1, 1, 0, 0, 0, 0, 1, 3]⟩
  | 229 => some ⟨.int .i32, 1, 4, [.lit (.int .i32 0)], []⟩
  | 230 => some ⟨.int .i32, 1, 4, [.lit (.int .i32 0)], []⟩
  | _ => none
theorem tok2 : TOk Try.prog 2 ⟨.int .i64, 1, 8, [.lit (.int .i64 0)], []⟩ :=
  tok_of (z := (.int .i64 0)) (zs := [(.int .i64 0)]) (by kernel_rfl) rfl rfl rfl rfl ⟨_, Try.underlying2, rfl⟩
theorem tok3 : TOk Try.prog 3 ⟨.int .i64, 1, 8, [.lit (.int .i64 0)], []⟩ :=
  tok_of (z := (.int .i64 0)) (zs := [(.int .i64 0)]) (by kernel_rfl) rfl rfl rfl rfl ⟨_, Try.underlying3, rfl⟩
theorem tok4 : TOk Try.prog 4 ⟨.bool, 1, 1, [.bool false], []⟩ :=
  tok_of (z := .bool false) (zs := [.bool false]) (by kernel_rfl) rfl rfl rfl rfl ⟨_, Try.underlying4, rfl⟩
theorem tok21 : TOk Try.prog 21 ⟨.int .i32, 1, 4, [.lit (.int .i32 0)], []⟩ :=
  tok_of (z := (.int .i32 0)) (zs := [(.int .i32 0)]) (by kernel_rfl) rfl rfl rfl rfl ⟨_, Try.underlying21, rfl⟩
theorem tok22 : TOk Try.prog 22 ⟨.slice 33, 1, 24, [.lit (.slice none 0 0)], [7]⟩ :=
  tok_of (z := (.slice none 0 0)) (zs := [(.slice none 0 0)]) (by kernel_rfl) rfl rfl rfl rfl ⟨_, Try.underlying22, rfl⟩
theorem tok24 : TOk Try.prog 24 ⟨.slice 31, 1, 24, [.lit (.slice none 0 0)], [6]⟩ :=
  tok_of (z := (.slice none 0 0)) (zs := [(.slice none 0 0)]) (by kernel_rfl) rfl rfl rfl rfl ⟨_, Try.underlying24, rfl⟩
theorem tok25 : TOk Try.prog 25 ⟨.struct [(3, 0), (3, 1), (3, 2)], 3, 24, [.lit (.int .i64 0), .lit (.int .i64 0), .lit (.int .i64 0)], []⟩ :=
  tok_of (z := .agg [(.int .i64 0), (.int .i64 0), (.int .i64 0)].toArray) (zs := [(.int .i64 0), (.int .i64 0), (.int .i64 0)]) (by kernel_rfl) rfl rfl rfl rfl ⟨_, Try.underlying25, ⟨_, rfl, rfl⟩⟩
theorem tok26 : TOk Try.prog 26 ⟨.struct [(3, 0), (3, 1), (3, 2)], 3, 24, [.lit (.int .i64 0), .lit (.int .i64 0), .lit (.int .i64 0)], []⟩ :=
  tok_of (z := .agg [(.int .i64 0), (.int .i64 0), (.int .i64 0)].toArray) (zs := [(.int .i64 0), (.int .i64 0), (.int .i64 0)]) (by kernel_rfl) rfl rfl rfl rfl ⟨_, Try.underlying26, ⟨_, rfl, rfl⟩⟩
theorem tok27 : TOk Try.prog 27 ⟨.slice 3, 1, 24, [.lit (.slice none 0 0)], [1]⟩ :=
  tok_of (z := (.slice none 0 0)) (zs := [(.slice none 0 0)]) (by kernel_rfl) rfl rfl rfl rfl ⟨_, Try.underlying27, rfl⟩
theorem tok28 : TOk Try.prog 28 ⟨.struct [(3, 0), (3, 1), (27, 2)], 3, 40, [.lit (.int .i64 0), .lit (.int .i64 0), .lit (.slice none 0 0)], [0, 0, 1]⟩ :=
  tok_of (z := .agg [(.int .i64 0), (.int .i64 0), (.slice none 0 0)].toArray) (zs := [(.int .i64 0), (.int .i64 0), (.slice none 0 0)]) (by kernel_rfl) rfl rfl rfl rfl ⟨_, Try.underlying28, ⟨_, rfl, rfl⟩⟩
theorem tok29 : TOk Try.prog 29 ⟨.struct [(3, 0), (3, 1), (27, 2)], 3, 40, [.lit (.int .i64 0), .lit (.int .i64 0), .lit (.slice none 0 0)], [0, 0, 1]⟩ :=
  tok_of (z := .agg [(.int .i64 0), (.int .i64 0), (.slice none 0 0)].toArray) (zs := [(.int .i64 0), (.int .i64 0), (.slice none 0 0)]) (by kernel_rfl) rfl rfl rfl rfl ⟨_, Try.underlying29, ⟨_, rfl, rfl⟩⟩
theorem tok30 : TOk Try.prog 30 ⟨.struct [(26, 0), (29, 3)], 6, 64, [.lit (.int .i64 0), .lit (.int .i64 0), .lit (.int .i64 0), .lit (.int .i64 0), .lit (.int .i64 0), .lit (.slice none 0 0)], [0, 0, 0, 0, 0, 1]⟩ :=
  tok_of (z := .agg [(.int .i64 0), (.int .i64 0), (.int .i64 0), (.int .i64 0), (.int .i64 0), (.slice none 0 0)].toArray) (zs := [(.int .i64 0), (.int .i64 0), (.int .i64 0), (.int .i64 0), (.int .i64 0), (.slice none 0 0)]) (by kernel_rfl) rfl rfl rfl rfl ⟨_, Try.underlying30, ⟨_, rfl, rfl⟩⟩
theorem tok31 : TOk Try.prog 31 ⟨.struct [(26, 0), (29, 3)], 6, 64, [.lit (.int .i64 0), .lit (.int .i64 0), .lit (.int .i64 0), .lit (.int .i64 0), .lit (.int .i64 0), .lit (.slice none 0 0)], [0, 0, 0, 0, 0, 1]⟩ :=
  tok_of (z := .agg [(.int .i64 0), (.int .i64 0), (.int .i64 0), (.int .i64 0), (.int .i64 0), (.slice none 0 0)].toArray) (zs := [(.int .i64 0), (.int .i64 0), (.int .i64 0), (.int .i64 0), (.int .i64 0), (.slice none 0 0)]) (by kernel_rfl) rfl rfl rfl rfl ⟨_, Try.underlying31, ⟨_, rfl, rfl⟩⟩
theorem tok32 : TOk Try.prog 32 ⟨.struct [(3, 0), (31, 1)], 7, 72, [.lit (.int .i64 0), .lit (.int .i64 0), .lit (.int .i64 0), .lit (.int .i64 0), .lit (.int .i64 0), .lit (.int .i64 0), .lit (.slice none 0 0)], [0, 0, 0, 0, 0, 0, 1]⟩ :=
  tok_of (z := .agg [(.int .i64 0), (.int .i64 0), (.int .i64 0), (.int .i64 0), (.int .i64 0), (.int .i64 0), (.slice none 0 0)].toArray) (zs := [(.int .i64 0), (.int .i64 0), (.int .i64 0), (.int .i64 0), (.int .i64 0), (.int .i64 0), (.slice none 0 0)]) (by kernel_rfl) rfl rfl rfl rfl ⟨_, Try.underlying32, ⟨_, rfl, rfl⟩⟩
theorem tok33 : TOk Try.prog 33 ⟨.struct [(3, 0), (31, 1)], 7, 72, [.lit (.int .i64 0), .lit (.int .i64 0), .lit (.int .i64 0), .lit (.int .i64 0), .lit (.int .i64 0), .lit (.int .i64 0), .lit (.slice none 0 0)], [0, 0, 0, 0, 0, 0, 1]⟩ :=
  tok_of (z := .agg [(.int .i64 0), (.int .i64 0), (.int .i64 0), (.int .i64 0), (.int .i64 0), (.int .i64 0), (.slice none 0 0)].toArray) (zs := [(.int .i64 0), (.int .i64 0), (.int .i64 0), (.int .i64 0), (.int .i64 0), (.int .i64 0), (.slice none 0 0)]) (by kernel_rfl) rfl rfl rfl rfl ⟨_, Try.underlying33, ⟨_, rfl, rfl⟩⟩
theorem tok36 : TOk Try.prog 36 ⟨.int .i64, 1, 8, [.lit (.int .i64 0)], []⟩ :=
  tok_of (z := (.int .i64 0)) (zs := [(.int .i64 0)]) (by kernel_rfl) rfl rfl rfl rfl ⟨_, Try.underlying36, rfl⟩
theorem tok44 : TOk Try.prog 44 ⟨.slice 4, 1, 24, [.lit (.slice none 0 0)], [1]⟩ :=
  tok_of (z := (.slice none 0 0)) (zs := [(.slice none 0 0)]) (by kernel_rfl) rfl rfl rfl rfl ⟨_, Try.underlying44, rfl⟩
theorem tok49 : TOk Try.prog 49 ⟨.slice 74, 1, 24, [.lit (.slice none 0 0)], [2]⟩ :=
  tok_of (z := (.slice none 0 0)) (zs := [(.slice none 0 0)]) (by kernel_rfl) rfl rfl rfl rfl ⟨_, Try.underlying49, rfl⟩
theorem tok50 : TOk Try.prog 50 ⟨.slice 76, 1, 24, [.lit (.slice none 0 0)], [4]⟩ :=
  tok_of (z := (.slice none 0 0)) (zs := [(.slice none 0 0)]) (by kernel_rfl) rfl rfl rfl rfl ⟨_, Try.underlying50, rfl⟩
theorem tok51 : TOk Try.prog 51 ⟨.slice 29, 1, 24, [.lit (.slice none 0 0)], [3]⟩ :=
  tok_of (z := (.slice none 0 0)) (zs := [(.slice none 0 0)]) (by kernel_rfl) rfl rfl rfl rfl ⟨_, Try.underlying51, rfl⟩
theorem tok52 : TOk Try.prog 52 ⟨.struct [(49, 0), (50, 1), (51, 2), (3, 3)], 4, 80, [.lit (.slice none 0 0), .lit (.slice none 0 0), .lit (.slice none 0 0), .lit (.int .i64 0)], [2, 4, 3]⟩ :=
  tok_of (z := .agg [(.slice none 0 0), (.slice none 0 0), (.slice none 0 0), (.int .i64 0)].toArray) (zs := [(.slice none 0 0), (.slice none 0 0), (.slice none 0 0), (.int .i64 0)]) (by kernel_rfl) rfl rfl rfl rfl ⟨_, Try.underlying52, ⟨_, rfl, rfl⟩⟩
theorem tok53 : TOk Try.prog 53 ⟨.struct [(49, 0), (50, 1), (51, 2), (3, 3)], 4, 80, [.lit (.slice none 0 0), .lit (.slice none 0 0), .lit (.slice none 0 0), .lit (.int .i64 0)], [2, 4, 3]⟩ :=
  tok_of (z := .agg [(.slice none 0 0), (.slice none 0 0), (.slice none 0 0), (.int .i64 0)].toArray) (zs := [(.slice none 0 0), (.slice none 0 0), (.slice none 0 0), (.int .i64 0)]) (by kernel_rfl) rfl rfl rfl rfl ⟨_, Try.underlying53, ⟨_, rfl, rfl⟩⟩
theorem tok55 : TOk Try.prog 55 ⟨.slice 68, 1, 24, [.lit (.slice none 0 0)], [5]⟩ :=
  tok_of (z := (.slice none 0 0)) (zs := [(.slice none 0 0)]) (by kernel_rfl) rfl rfl rfl rfl ⟨_, Try.underlying55, rfl⟩
theorem tok56 : TOk Try.prog 56 ⟨.struct [(3, 0), (3, 1), (3, 2), (3, 3)], 4, 32, [.lit (.int .i64 0), .lit (.int .i64 0), .lit (.int .i64 0), .lit (.int .i64 0)], []⟩ :=
  tok_of (z := .agg [(.int .i64 0), (.int .i64 0), (.int .i64 0), (.int .i64 0)].toArray) (zs := [(.int .i64 0), (.int .i64 0), (.int .i64 0), (.int .i64 0)]) (by kernel_rfl) rfl rfl rfl rfl ⟨_, Try.underlying56, ⟨_, rfl, rfl⟩⟩
theorem tok57 : TOk Try.prog 57 ⟨.struct [(3, 0), (3, 1), (3, 2), (3, 3)], 4, 32, [.lit (.int .i64 0), .lit (.int .i64 0), .lit (.int .i64 0), .lit (.int .i64 0)], []⟩ :=
  tok_of (z := .agg [(.int .i64 0), (.int .i64 0), (.int .i64 0), (.int .i64 0)].toArray) (zs := [(.int .i64 0), (.int .i64 0), (.int .i64 0), (.int .i64 0)]) (by kernel_rfl) rfl rfl rfl rfl ⟨_, Try.underlying57, ⟨_, rfl, rfl⟩⟩
theorem tok58 : TOk Try.prog 58 ⟨.struct [(55, 0), (24, 1), (57, 2)], 6, 80, [.lit (.slice none 0 0), .lit (.slice none 0 0), .lit (.int .i64 0), .lit (.int .i64 0), .lit (.int .i64 0), .lit (.int .i64 0)], [5, 6]⟩ :=
  tok_of (z := .agg [(.slice none 0 0), (.slice none 0 0), (.int .i64 0), (.int .i64 0), (.int .i64 0), (.int .i64 0)].toArray) (zs := [(.slice none 0 0), (.slice none 0 0), (.int .i64 0), (.int .i64 0), (.int .i64 0), (.int .i64 0)]) (by kernel_rfl) rfl rfl rfl rfl ⟨_, Try.underlying58, ⟨_, rfl, rfl⟩⟩
theorem tok59 : TOk Try.prog 59 ⟨.struct [(55, 0), (24, 1), (57, 2)], 6, 80, [.lit (.slice none 0 0), .lit (.slice none 0 0), .lit (.int .i64 0), .lit (.int .i64 0), .lit (.int .i64 0), .lit (.int .i64 0)], [5, 6]⟩ :=
  tok_of (z := .agg [(.slice none 0 0), (.slice none 0 0), (.int .i64 0), (.int .i64 0), (.int .i64 0), (.int .i64 0)].toArray) (zs := [(.slice none 0 0), (.slice none 0 0), (.int .i64 0), (.int .i64 0), (.int .i64 0), (.int .i64 0)]) (by kernel_rfl) rfl rfl rfl rfl ⟨_, Try.underlying59, ⟨_, rfl, rfl⟩⟩
theorem tok62 : TOk Try.prog 62 ⟨.array 2 3, 2, 16, [.lit (.int .i64 0), .lit (.int .i64 0)], []⟩ :=
  tok_of (z := .agg [(.int .i64 0), (.int .i64 0)].toArray) (zs := [(.int .i64 0), (.int .i64 0)]) (by kernel_rfl) rfl rfl rfl rfl ⟨_, Try.underlying62, rfl⟩
theorem tok63 : TOk Try.prog 63 ⟨.struct [(3, 0), (26, 1), (3, 4)], 5, 40, [.lit (.int .i64 0), .lit (.int .i64 0), .lit (.int .i64 0), .lit (.int .i64 0), .lit (.int .i64 0)], []⟩ :=
  tok_of (z := .agg [(.int .i64 0), (.int .i64 0), (.int .i64 0), (.int .i64 0), (.int .i64 0)].toArray) (zs := [(.int .i64 0), (.int .i64 0), (.int .i64 0), (.int .i64 0), (.int .i64 0)]) (by kernel_rfl) rfl rfl rfl rfl ⟨_, Try.underlying63, ⟨_, rfl, rfl⟩⟩
theorem tok64 : TOk Try.prog 64 ⟨.struct [(3, 0), (26, 1), (3, 4)], 5, 40, [.lit (.int .i64 0), .lit (.int .i64 0), .lit (.int .i64 0), .lit (.int .i64 0), .lit (.int .i64 0)], []⟩ :=
  tok_of (z := .agg [(.int .i64 0), (.int .i64 0), (.int .i64 0), (.int .i64 0), (.int .i64 0)].toArray) (zs := [(.int .i64 0), (.int .i64 0), (.int .i64 0), (.int .i64 0), (.int .i64 0)]) (by kernel_rfl) rfl rfl rfl rfl ⟨_, Try.underlying64, ⟨_, rfl, rfl⟩⟩
theorem tok67 : TOk Try.prog 67 ⟨.struct [(27, 0), (4, 1), (3, 2), (3, 3), (3, 4)], 5, 56, [.lit (.slice none 0 0), .bool false, .lit (.int .i64 0), .lit (.int .i64 0), .lit (.int .i64 0)], [1]⟩ :=
  tok_of (z := .agg [(.slice none 0 0), .bool false, (.int .i64 0), (.int .i64 0), (.int .i64 0)].toArray) (zs := [(.slice none 0 0), .bool false, (.int .i64 0), (.int .i64 0), (.int .i64 0)]) (by kernel_rfl) rfl rfl rfl rfl ⟨_, Try.underlying67, ⟨_, rfl, rfl⟩⟩
theorem tok68 : TOk Try.prog 68 ⟨.struct [(27, 0), (4, 1), (3, 2), (3, 3), (3, 4)], 5, 56, [.lit (.slice none 0 0), .bool false, .lit (.int .i64 0), .lit (.int .i64 0), .lit (.int .i64 0)], [1]⟩ :=
  tok_of (z := .agg [(.slice none 0 0), .bool false, (.int .i64 0), (.int .i64 0), (.int .i64 0)].toArray) (zs := [(.slice none 0 0), .bool false, (.int .i64 0), (.int .i64 0), (.int .i64 0)]) (by kernel_rfl) rfl rfl rfl rfl ⟨_, Try.underlying68, ⟨_, rfl, rfl⟩⟩
theorem tok70 : TOk Try.prog 70 ⟨.struct [(3, 0), (3, 1)], 2, 16, [.lit (.int .i64 0), .lit (.int .i64 0)], []⟩ :=
  tok_of (z := .agg [(.int .i64 0), (.int .i64 0)].toArray) (zs := [(.int .i64 0), (.int .i64 0)]) (by kernel_rfl) rfl rfl rfl rfl ⟨_, Try.underlying70, ⟨_, rfl, rfl⟩⟩
theorem tok71 : TOk Try.prog 71 ⟨.struct [(3, 0), (3, 1)], 2, 16, [.lit (.int .i64 0), .lit (.int .i64 0)], []⟩ :=
  tok_of (z := .agg [(.int .i64 0), (.int .i64 0)].toArray) (zs := [(.int .i64 0), (.int .i64 0)]) (by kernel_rfl) rfl rfl rfl rfl ⟨_, Try.underlying71, ⟨_, rfl, rfl⟩⟩
theorem tok72 : TOk Try.prog 72 ⟨.slice 71, 1, 24, [.lit (.slice none 0 0)], [2]⟩ :=
  tok_of (z := (.slice none 0 0)) (zs := [(.slice none 0 0)]) (by kernel_rfl) rfl rfl rfl rfl ⟨_, Try.underlying72, rfl⟩
theorem tok73 : TOk Try.prog 73 ⟨.struct [(3, 0), (72, 1)], 2, 32, [.lit (.int .i64 0), .lit (.slice none 0 0)], [0, 2]⟩ :=
  tok_of (z := .agg [(.int .i64 0), (.slice none 0 0)].toArray) (zs := [(.int .i64 0), (.slice none 0 0)]) (by kernel_rfl) rfl rfl rfl rfl ⟨_, Try.underlying73, ⟨_, rfl, rfl⟩⟩
theorem tok74 : TOk Try.prog 74 ⟨.struct [(3, 0), (72, 1)], 2, 32, [.lit (.int .i64 0), .lit (.slice none 0 0)], [0, 2]⟩ :=
  tok_of (z := .agg [(.int .i64 0), (.slice none 0 0)].toArray) (zs := [(.int .i64 0), (.slice none 0 0)]) (by kernel_rfl) rfl rfl rfl rfl ⟨_, Try.underlying74, ⟨_, rfl, rfl⟩⟩
theorem tok75 : TOk Try.prog 75 ⟨.struct [(27, 0), (3, 1), (3, 2), (4, 3)], 4, 48, [.lit (.slice none 0 0), .lit (.int .i64 0), .lit (.int .i64 0), .bool false], [1]⟩ :=
  tok_of (z := .agg [(.slice none 0 0), (.int .i64 0), (.int .i64 0), .bool false].toArray) (zs := [(.slice none 0 0), (.int .i64 0), (.int .i64 0), .bool false]) (by kernel_rfl) rfl rfl rfl rfl ⟨_, Try.underlying75, ⟨_, rfl, rfl⟩⟩
theorem tok76 : TOk Try.prog 76 ⟨.struct [(27, 0), (3, 1), (3, 2), (4, 3)], 4, 48, [.lit (.slice none 0 0), .lit (.int .i64 0), .lit (.int .i64 0), .bool false], [1]⟩ :=
  tok_of (z := .agg [(.slice none 0 0), (.int .i64 0), (.int .i64 0), .bool false].toArray) (zs := [(.slice none 0 0), (.int .i64 0), (.int .i64 0), .bool false]) (by kernel_rfl) rfl rfl rfl rfl ⟨_, Try.underlying76, ⟨_, rfl, rfl⟩⟩
theorem tok78 : TOk Try.prog 78 ⟨.slice 71, 1, 24, [.lit (.slice none 0 0)], [2]⟩ :=
  tok_of (z := (.slice none 0 0)) (zs := [(.slice none 0 0)]) (by kernel_rfl) rfl rfl rfl rfl ⟨_, Try.underlying78, rfl⟩
theorem tok79 : TOk Try.prog 79 ⟨.slice 78, 1, 24, [.lit (.slice none 0 0)], [1]⟩ :=
  tok_of (z := (.slice none 0 0)) (zs := [(.slice none 0 0)]) (by kernel_rfl) rfl rfl rfl rfl ⟨_, Try.underlying79, rfl⟩
theorem tok80 : TOk Try.prog 80 ⟨.slice 89, 1, 24, [.lit (.slice none 0 0)], [2]⟩ :=
  tok_of (z := (.slice none 0 0)) (zs := [(.slice none 0 0)]) (by kernel_rfl) rfl rfl rfl rfl ⟨_, Try.underlying80, rfl⟩
theorem tok81 : TOk Try.prog 81 ⟨.struct [(4, 0), (3, 1), (3, 2), (80, 3)], 4, 48, [.bool false, .lit (.int .i64 0), .lit (.int .i64 0), .lit (.slice none 0 0)], [0, 0, 0, 2]⟩ :=
  tok_of (z := .agg [.bool false, (.int .i64 0), (.int .i64 0), (.slice none 0 0)].toArray) (zs := [.bool false, (.int .i64 0), (.int .i64 0), (.slice none 0 0)]) (by kernel_rfl) rfl rfl rfl rfl ⟨_, Try.underlying81, ⟨_, rfl, rfl⟩⟩
theorem tok82 : TOk Try.prog 82 ⟨.struct [(4, 0), (3, 1), (3, 2), (80, 3)], 4, 48, [.bool false, .lit (.int .i64 0), .lit (.int .i64 0), .lit (.slice none 0 0)], [0, 0, 0, 2]⟩ :=
  tok_of (z := .agg [.bool false, (.int .i64 0), (.int .i64 0), (.slice none 0 0)].toArray) (zs := [.bool false, (.int .i64 0), (.int .i64 0), (.slice none 0 0)]) (by kernel_rfl) rfl rfl rfl rfl ⟨_, Try.underlying82, ⟨_, rfl, rfl⟩⟩
theorem tok85 : TOk Try.prog 85 ⟨.struct [(3, 0), (3, 1)], 2, 16, [.lit (.int .i64 0), .lit (.int .i64 0)], []⟩ :=
  tok_of (z := .agg [(.int .i64 0), (.int .i64 0)].toArray) (zs := [(.int .i64 0), (.int .i64 0)]) (by kernel_rfl) rfl rfl rfl rfl ⟨_, Try.underlying85, ⟨_, rfl, rfl⟩⟩
theorem tok86 : TOk Try.prog 86 ⟨.struct [(3, 0), (3, 1)], 2, 16, [.lit (.int .i64 0), .lit (.int .i64 0)], []⟩ :=
  tok_of (z := .agg [(.int .i64 0), (.int .i64 0)].toArray) (zs := [(.int .i64 0), (.int .i64 0)]) (by kernel_rfl) rfl rfl rfl rfl ⟨_, Try.underlying86, ⟨_, rfl, rfl⟩⟩
theorem tok87 : TOk Try.prog 87 ⟨.slice 64, 1, 24, [.lit (.slice none 0 0)], [5]⟩ :=
  tok_of (z := (.slice none 0 0)) (zs := [(.slice none 0 0)]) (by kernel_rfl) rfl rfl rfl rfl ⟨_, Try.underlying87, rfl⟩
theorem tok88 : TOk Try.prog 88 ⟨.struct [(3, 0), (87, 1)], 2, 32, [.lit (.int .i64 0), .lit (.slice none 0 0)], [0, 5]⟩ :=
  tok_of (z := .agg [(.int .i64 0), (.slice none 0 0)].toArray) (zs := [(.int .i64 0), (.slice none 0 0)]) (by kernel_rfl) rfl rfl rfl rfl ⟨_, Try.underlying88, ⟨_, rfl, rfl⟩⟩
theorem tok89 : TOk Try.prog 89 ⟨.struct [(3, 0), (87, 1)], 2, 32, [.lit (.int .i64 0), .lit (.slice none 0 0)], [0, 5]⟩ :=
  tok_of (z := .agg [(.int .i64 0), (.slice none 0 0)].toArray) (zs := [(.int .i64 0), (.slice none 0 0)]) (by kernel_rfl) rfl rfl rfl rfl ⟨_, Try.underlying89, ⟨_, rfl, rfl⟩⟩
theorem tok91 : TOk Try.prog 91 ⟨.slice 125, 1, 24, [.lit (.slice none 0 0)], [2]⟩ :=
  tok_of (z := (.slice none 0 0)) (zs := [(.slice none 0 0)]) (by kernel_rfl) rfl rfl rfl rfl ⟨_, Try.underlying91, rfl⟩
theorem tok125 : TOk Try.prog 125 ⟨.struct [(3, 0), (87, 1)], 2, 32, [.lit (.int .i64 0), .lit (.slice none 0 0)], [0, 5]⟩ :=
  tok_of (z := .agg [(.int .i64 0), (.slice none 0 0)].toArray) (zs := [(.int .i64 0), (.slice none 0 0)]) (by kernel_rfl) rfl rfl rfl rfl ⟨_, Try.underlying125, ⟨_, rfl, rfl⟩⟩
theorem tok143 : TOk Try.prog 143 ⟨.struct [(82, 0), (53, 4), (57, 8), (86, 12), (87, 14), (79, 15), (4, 16)], 17, 232, [.bool false, .lit (.int .i64 0), .lit (.int .i64 0), .lit (.slice none 0 0), .lit (.slice none 0 0), .lit (.slice none 0 0), .lit (.slice none 0 0), .lit (.int .i64 0), .lit (.int .i64 0), .lit (.int .i64 0), .lit (.int .i64 0), .lit (.int .i64 0), .lit (.int .i64 0), .lit (.int .i64 0), .lit (.slice none 0 0), .lit (.slice none 0 0), .bool false], [0, 0, 0, 2, 2, 4, 3, 0, 0, 0, 0, 0, 0, 0, 5, 1]⟩ :=
  tok_of (z := .agg [.bool false, (.int .i64 0), (.int .i64 0), (.slice none 0 0), (.slice none 0 0), (.slice none 0 0), (.slice none 0 0), (.int .i64 0), (.int .i64 0), (.int .i64 0), (.int .i64 0), (.int .i64 0), (.int .i64 0), (.int .i64 0), (.slice none 0 0), (.slice none 0 0), .bool false].toArray) (zs := [.bool false, (.int .i64 0), (.int .i64 0), (.slice none 0 0), (.slice none 0 0), (.slice none 0 0), (.slice none 0 0), (.int .i64 0), (.int .i64 0), (.int .i64 0), (.int .i64 0), (.int .i64 0), (.int .i64 0), (.int .i64 0), (.slice none 0 0), (.slice none 0 0), .bool false]) (by kernel_rfl) rfl rfl rfl rfl ⟨_, Try.underlying143, ⟨_, rfl, rfl⟩⟩
theorem tok144 : TOk Try.prog 144 ⟨.struct [(82, 0), (53, 4), (57, 8), (86, 12), (87, 14), (79, 15), (4, 16)], 17, 232, [.bool false, .lit (.int .i64 0), .lit (.int .i64 0), .lit (.slice none 0 0), .lit (.slice none 0 0), .lit (.slice none 0 0), .lit (.slice none 0 0), .lit (.int .i64 0), .lit (.int .i64 0), .lit (.int .i64 0), .lit (.int .i64 0), .lit (.int .i64 0), .lit (.int .i64 0), .lit (.int .i64 0), .lit (.slice none 0 0), .lit (.slice none 0 0), .bool false], [0, 0, 0, 2, 2, 4, 3, 0, 0, 0, 0, 0, 0, 0, 5, 1]⟩ :=
  tok_of (z := .agg [.bool false, (.int .i64 0), (.int .i64 0), (.slice none 0 0), (.slice none 0 0), (.slice none 0 0), (.slice none 0 0), (.int .i64 0), (.int .i64 0), (.int .i64 0), (.int .i64 0), (.int .i64 0), (.int .i64 0), (.int .i64 0), (.slice none 0 0), (.slice none 0 0), .bool false].toArray) (zs := [.bool false, (.int .i64 0), (.int .i64 0), (.slice none 0 0), (.slice none 0 0), (.slice none 0 0), (.slice none 0 0), (.int .i64 0), (.int .i64 0), (.int .i64 0), (.int .i64 0), (.int .i64 0), (.int .i64 0), (.int .i64 0), (.slice none 0 0), (.slice none 0 0), .bool false]) (by kernel_rfl) rfl rfl rfl rfl ⟨_, Try.underlying144, ⟨_, rfl, rfl⟩⟩
theorem tok152 : TOk Try.prog 152 ⟨.struct [(68, 0), (51, 5), (3, 6)], 7, 88, [.lit (.slice none 0 0), .bool false, .lit (.int .i64 0), .lit (.int .i64 0), .lit (.int .i64 0), .lit (.slice none 0 0), .lit (.int .i64 0)], [1, 0, 0, 0, 0, 3]⟩ :=
  tok_of (z := .agg [(.slice none 0 0), .bool false, (.int .i64 0), (.int .i64 0), (.int .i64 0), (.slice none 0 0), (.int .i64 0)].toArray) (zs := [(.slice none 0 0), .bool false, (.int .i64 0), (.int .i64 0), (.int .i64 0), (.slice none 0 0), (.int .i64 0)]) (by kernel_rfl) rfl rfl rfl rfl ⟨_, Try.underlying152, ⟨_, rfl, rfl⟩⟩
theorem tok153 : TOk Try.prog 153 ⟨.struct [(68, 0), (51, 5), (3, 6)], 7, 88, [.lit (.slice none 0 0), .bool false, .lit (.int .i64 0), .lit (.int .i64 0), .lit (.int .i64 0), .lit (.slice none 0 0), .lit (.int .i64 0)], [1, 0, 0, 0, 0, 3]⟩ :=
  tok_of (z := .agg [(.slice none 0 0), .bool false, (.int .i64 0), (.int .i64 0), (.int .i64 0), (.slice none 0 0), (.int .i64 0)].toArray) (zs := [(.slice none 0 0), .bool false, (.int .i64 0), (.int .i64 0), (.int .i64 0), (.slice none 0 0), (.int .i64 0)]) (by kernel_rfl) rfl rfl rfl rfl ⟨_, Try.underlying153, ⟨_, rfl, rfl⟩⟩
theorem tok175 : TOk Try.prog 175 ⟨.int .i64, 1, 8, [.lit (.int .i64 0)], []⟩ :=
  tok_of (z := (.int .i64 0)) (zs := [(.int .i64 0)]) (by kernel_rfl) rfl rfl rfl rfl ⟨_, Try.underlying175, rfl⟩
theorem tok189 : TOk Try.prog 189 ⟨.struct [(53, 0), (3, 4), (27, 5), (68, 6), (27, 11), (51, 12), (3, 13)], 14, 224, [.lit (.slice none 0 0), .lit (.slice none 0 0), .lit (.slice none 0 0), .lit (.int .i64 0), .lit (.int .i64 0), .lit (.slice none 0 0), .lit (.slice none 0 0), .bool false, .lit (.int .i64 0), .lit (.int .i64 0), .lit (.int .i64 0), .lit (.slice none 0 0), .lit (.slice none 0 0), .lit (.int .i64 0)], [2, 4, 3, 0, 0, 1, 1, 0, 0, 0, 0, 1, 3]⟩ :=
  tok_of (z := .agg [(.slice none 0 0), (.slice none 0 0), (.slice none 0 0), (.int .i64 0), (.int .i64 0), (.slice none 0 0), (.slice none 0 0), .bool false, (.int .i64 0), (.int .i64 0), (.int .i64 0), (.slice none 0 0), (.slice none 0 0), (.int .i64 0)].toArray) (zs := [(.slice none 0 0), (.slice none 0 0), (.slice none 0 0), (.int .i64 0), (.int .i64 0), (.slice none 0 0), (.slice none 0 0), .bool false, (.int .i64 0), (.int .i64 0), (.int .i64 0), (.slice none 0 0), (.slice none 0 0), (.int .i64 0)]) (by kernel_rfl) rfl rfl rfl rfl ⟨_, Try.underlying189, ⟨_, rfl, rfl⟩⟩
theorem tok190 : TOk Try.prog 190 ⟨.struct [(53, 0), (3, 4), (27, 5), (68, 6), (27, 11), (51, 12), (3, 13)], 14, 224, [.lit (.slice none 0 0), .lit (.slice none 0 0), .lit (.slice none 0 0), .lit (.int .i64 0), .lit (.int .i64 0), .lit (.slice none 0 0), .lit (.slice none 0 0), .bool false, .lit (.int .i64 0), .lit (.int .i64 0), .lit (.int .i64 0), .lit (.slice none 0 0), .lit (.slice none 0 0), .lit (.int .i64 0)], [2, 4, 3, 0, 0, 1, 1, 0, 0, 0, 0, 1, 3]⟩ :=
  tok_of (z := .agg [(.slice none 0 0), (.slice none 0 0), (.slice none 0 0), (.int .i64 0), (.int .i64 0), (.slice none 0 0), (.slice none 0 0), .bool false, (.int .i64 0), (.int .i64 0), (.int .i64 0), (.slice none 0 0), (.slice none 0 0), (.int .i64 0)].toArray) (zs := [(.slice none 0 0), (.slice none 0 0), (.slice none 0 0), (.int .i64 0), (.int .i64 0), (.slice none 0 0), (.slice none 0 0), .bool false, (.int .i64 0), (.int .i64 0), (.int .i64 0), (.slice none 0 0), (.slice none 0 0), (.int .i64 0)]) (by kernel_rfl) rfl rfl rfl rfl ⟨_, Try.underlying190, ⟨_, rfl, rfl⟩⟩
theorem tok229 : TOk Try.prog 229 ⟨.int .i32, 1, 4, [.lit (.int .i32 0)], []⟩ :=
  tok_of (z := (.int .i32 0)) (zs := [(.int .i32 0)]) (by kernel_rfl) rfl rfl rfl rfl ⟨_, Try.underlying229, rfl⟩
theorem tok230 : TOk Try.prog 230 ⟨.int .i32, 1, 4, [.lit (.int .i32 0)], []⟩ :=
  tok_of (z := (.int .i32 0)) (zs := [(.int .i32 0)]) (by kernel_rfl) rfl rfl rfl rfl ⟨_, Try.underlying230, rfl⟩
theorem tok : ∀ t ti, T t = some ti → TOk Try.prog t ti := by
  intro t ti h
  unfold T at h
  split at h
  · cases h; exact tok2
  · cases h; exact tok3
  · cases h; exact tok4
  · cases h; exact tok21
  · cases h; exact tok22
  · cases h; exact tok24
  · cases h; exact tok25
  · cases h; exact tok26
  · cases h; exact tok27
  · cases h; exact tok28
  · cases h; exact tok29
  · cases h; exact tok30
  · cases h; exact tok31
  · cases h; exact tok32
  · cases h; exact tok33
  · cases h; exact tok36
  · cases h; exact tok44
  · cases h; exact tok49
  · cases h; exact tok50
  · cases h; exact tok51
  · cases h; exact tok52
  · cases h; exact tok53
  · cases h; exact tok55
  · cases h; exact tok56
  · cases h; exact tok57
  · cases h; exact tok58
  · cases h; exact tok59
  · cases h; exact tok62
  · cases h; exact tok63
  · cases h; exact tok64
  · cases h; exact tok67
  · cases h; exact tok68
  · cases h; exact tok70
  · cases h; exact tok71
  · cases h; exact tok72
  · cases h; exact tok73
  · cases h; exact tok74
  · cases h; exact tok75
  · cases h; exact tok76
  · cases h; exact tok78
  · cases h; exact tok79
  · cases h; exact tok80
  · cases h; exact tok81
  · cases h; exact tok82
  · cases h; exact tok85
  · cases h; exact tok86
  · cases h; exact tok87
  · cases h; exact tok88
  · cases h; exact tok89
  · cases h; exact tok91
  · cases h; exact tok125
  · cases h; exact tok143
  · cases h; exact tok144
  · cases h; exact tok152
  · cases h; exact tok153
  · cases h; exact tok175
  · cases h; exact tok189
  · cases h; exact tok190
  · cases h; exact tok229
  · cases h; exact tok230
  · simp at h
end Go.Proofs.S
end
section
open Go Go.Ax
namespace Go.Proofs.S
theorem part_int {t : Nat} (hu : Try.prog.underlying t = some (.int .i64)) {xs : Array Value} {off : Nat} {v : Value} {w : World} (h : xs[off]? = some v) :
    (part t xs off).run Try.prog w = .ok v w := run_part_plain w (by simp [Program.plainKey, hu]) h
theorem eq_int (t : Nat) (d : Nat) (hu : Try.prog.underlying t = some (.int .i64)) (a b : Int) (w : World) :
    (Op.equalIn (d + 1) t (.int .i64 a) (.int .i64 b)).run Try.prog w = .ok (a == b) w := by
  simp [Op.equalIn, run_underlying hu]
theorem Try.fields26 : Try.prog.fieldsOf 26 = #[{ name := "From", type := 3, offset := 0, embedded := false, tag := "", pkgPath := "", byteOffset := 0 }, { name := "N", type := 3, offset := 1, embedded := false, tag := "", pkgPath := "", byteOffset := 8 }, { name := "Copy", type := 3, offset := 2, embedded := false, tag := "", pkgPath := "", byteOffset := 16 }] := by simp [Program.fieldsOf, Try.underlying26]
theorem eqIn26 (d : Nat) (a b c a' b' c' : Int) (w : World) : (Op.equalIn (d + 2) 26 (.agg #[.int .i64 a, .int .i64 b, .int .i64 c]) (.agg #[.int .i64 a', .int .i64 b', .int .i64 c'])).run Try.prog w = .ok (decide (a = a' ∧ b = b' ∧ c = c')) w := by
  have hf := Try.fields26
  rw [run_equalIn_struct w (d + 1) 26 _ _ (by rw [hf]; exact Try.underlying26) (by kernel_rfl), hf]
  simp [Op.eqFields, part_int Try.underlying3, eq_int 3 d Try.underlying3]
  by_cases h1 : a = a' <;> by_cases h2 : b = b' <;> by_cases h3 : c = c' <;> simp [h1, h2, h3]
theorem eq26 : EqOk Try.prog 26 3 where
  guard := by kernel_rfl
  eq := by
    intro xs ys w hx hy
    match xs, ys, hx, hy with
    | [a, b, c], [d, e, f], _, _ =>
      have := eqIn26 9998 a b c d e f w
      simp only [Op.equal, Op.maxDepth]
      simpa using this
end Go.Proofs.S
end
section
namespace Go.Ax
set_option linter.unusedSimpArgs false
set_option linter.unusedVariables false

abbrev Fun := List AV → List AObj → Option (AV × List (Nat × AObj))

open Classical in
noncomputable def mkF {X : Type} (J : X → Prop) (inp : X → List AV × List AObj) (out : X → AV × List (Nat × AObj)) : Fun := fun args objs =>
  if h : ∃ x, J x ∧ inp x = (args, objs) then some (out h.choose) else none

theorem mkF_inv {X : Type} {J : X → Prop} {inp : X → List AV × List AObj} {out : X → AV × List (Nat × AObj)} {args : List AV} {objs : List AObj} {r}
    (h : mkF J inp out args objs = some r) : ∃ x, J x ∧ inp x = (args, objs) ∧ out x = r := by
  unfold mkF at h
  split at h
  · rename_i hx
    exact ⟨hx.choose, hx.choose_spec.1, hx.choose_spec.2, by simpa using h⟩
  · simp at h

theorem mkF_at {X : Type} {J : X → Prop} {inp : X → List AV × List AObj} {out : X → AV × List (Nat × AObj)} (hinj : ∀ x y, inp x = inp y → out x = out y) (x : X) (hJ : J x) :
    mkF J inp out (inp x).1 (inp x).2 = some (out x) := by
  have hx : ∃ y, J y ∧ inp y = ((inp x).1, (inp x).2) := ⟨x, hJ, rfl⟩
  unfold mkF
  rw [dif_pos hx]
  exact congrArg some (hinj _ _ hx.choose_spec.2)

def orF (f g : Fun) : Fun := fun args objs => match f args objs with | some r => some r | none => g args objs

theorem Spec.or {P : Program} {id : FuncId} {f g : Fun} (hf : Spec P id f) (hg : Spec P id g) : Spec P id (orF f g) := by
  intro args objs r objs' h
  unfold orF at h
  split at h
  · rename_i r' e
    cases h
    exact hf _ _ _ _ e
  · exact hg _ _ _ _ h

variable {P : Program} {E : Env} {en : Ent}

def Done (E : Env) (res : List ResultVar) (n : Nat) (r : AV × List (Nat × AObj)) (st : ASt) : Prop :=
  ∃ cv own rn, cv.length = n ∧ fin E res cv own rn st = some r

theorem done {res : List ResultVar} {n : Nat} {r : AV × List (Nat × AObj)} {st : ASt} (cv : List Nat) (own : List Bool) (rn : List (List Nat)) (hn : cv.length = n)
    (h : fin E res cv own rn st = some r) : Stp P E en (Done E res n r) .ret st := ⟨cv, own, rn, hn, h⟩

theorem spec_mk (hE : ∀ en, EOkM P E en) {f : FuncId} {g : Func} {c : Code} (hf : P.funcs[f]? = some g) (hb : g.body = some c) (hN : g.ntmps = E.N)
    {X : Type} {J : X → Prop} {inp : X → List AV × List AObj} {out : X → AV × List (Nat × AObj)}
    (H : ∀ x, J x → ∀ en, Small en (inp x).2.length → (inp x).1.length ≤ E.N ∧
      Ex P E en [.code c] (initSt (inp x).1 (inp x).2) (Done E g.results.toList (inp x).2.length (out x))) :
    Spec P f (mkF J inp out) := by
  refine spec_of hE hf hb hN (fun args objs r objs' h en hs => ?_)
  obtain ⟨x, hJ, h1, h2⟩ := mkF_inv h
  have e1 : args = (inp x).1 := by rw [h1]
  have e2 : objs = (inp x).2 := by rw [h1]
  subst e1
  subst e2
  rw [← h2]
  exact H x hJ en hs

theorem Ex.loop {c : Code} {k : List AItem} {Q : ASt → Prop} {X : Type} (J : X → Prop) (I : X → ASt) (μ : X → Nat)
    (h : ∀ x, J x → (∀ y, J y → μ y < μ x → Ex P E en (.lop c :: k) (I y) Q) → Ex P E en (.code c :: .lop c :: k) (I x) Q) : ∀ x, J x → Ex P E en (.lop c :: k) (I x) Q := by
  have H : ∀ n x, μ x = n → J x → Ex P E en (.lop c :: k) (I x) Q := by
    intro n
    induction n using Nat.strongRecOn with
    | ind n ih =>
      intro x hx hJ
      exact Ex.round (h x hJ (fun y hy hlt => ih (μ y) (by omega) y rfl hy))
  exact fun x hJ => H _ x rfl hJ

theorem Ex.erase_to {k : List AItem} {st st' : ASt} {Q : ASt → Prop} {m : Nat} (hm : Small en m) (keep : List Nat) (nx : Nat) (hnx : m ≤ nx) (h : Ex P E en k st' Q) (he : st.erase keep nx = st') : Ex P E en k st Q :=
  Ex.erase hm keep nx hnx (by rw [he]; exact h)

theorem wrap64 {n : Int} (h1 : -9223372036854775808 ≤ n) (h2 : n < 9223372036854775808) : IntKind.wrap .i64 n = n := by
  simp only [IntKind.wrap, IntKind.bits, IntKind.signed]
  first
  | (simp; omega)
  | skip

def Env.withN (E : Env) (n : Nat) : Env := { E with N := n }
theorem EOkM.withN (h : EOkM P E en) (n : Nat) : EOkM P (E.withN n) en := ⟨⟨⟨h.ty, h.eq⟩, h.fn, h.cap, h.ovl⟩, h.mixed⟩

end Go.Ax
end
section
namespace Go.Ax
set_option linter.unusedSimpArgs false
set_option linter.unusedVariables false
variable {P : Program} {E : Env} {en : Ent}

theorem norm_sl (n sz : Nat) (rows : List (List D)) : (D.sl sz rows).norm n = .sl sz rows := rfl
theorem norm_int (n : Nat) (k : IntKind) (m : Int) : (D.lit (.int k m)).norm n = .lit (.int k m) := rfl
theorem norm_bool (n : Nat) (b : Bool) : (D.lit (.bool b)).norm n = .lit (.bool b) := rfl
theorem norm_nil0 : (D.lit (.slice none 0 0)).norm 0 = .lit (.slice none 0 0) := rfl
theorem norm_nil (n : Nat) : (D.lit (.slice none 0 0)).norm (n + 1) = .sl (n + 1) [] := rfl
theorem norm_nilp (n : Nat) (h : 0 < n) : (D.lit (.slice none 0 0)).norm n = .sl n [] := by
  cases n with
  | zero => omega
  | succ n => rfl
theorem norm_some (n m c : Nat) (a : Addr) : (D.lit (.slice (some a) m c)).norm n = .lit (.slice (some a) m c) := rfl

/-- a slice without elements is nil or it is not -/
theorem Ex.nilsplit {k : List AItem} {tm : Tm} {hp : Heap} {nxt : Nat} {Q : ASt → Prop} (t sz : Nat) (ht : tget tm t = some (.d (.sl sz [])))
    (h1 : Ex P E en k ⟨tset t (.d (.lit (.slice none 0 0))) tm, hp, nxt⟩ Q)
    (h2 : ∀ (a : Addr) (cap : Nat), Ex P E en k ⟨tset t (.d (.lit (.slice (some a) 0 cap))) tm, hp, nxt⟩ Q) : Ex P E en k ⟨tm, hp, nxt⟩ Q := by
  intro β S a w hi
  have hv := hi.tm t _ ht
  have put : ∀ v : Value, a.tmps.getD t undef = v → Ax.one v = true → Inv en E.N β S ⟨tset t (.d (.lit v)) tm, hp, nxt⟩ a w := by
    intro v he ho
    refine ⟨fun s u hs => ?_, hi.hr, hi.fr, hi.size, hi.defers⟩
    have hs' : tget (tset t (.d (.lit v)) tm) s = some u := hs
    by_cases e : s = t
    · subst e
      rw [tget_tset_same] at hs'
      cases hs'
      rw [he]
      exact AR.lit ho
    · rw [tget_tset_ne _ _ _ _ e] at hs'
      exact hi.tm s u hs'
  generalize hval : a.tmps.getD t undef = v at hv
  cases hv with
  | d _ _ hx =>
  cases hx with
  | nil => exact h1 β S a w (put _ hval rfl)
  | sl ad len cap _ _ _ hl hc =>
    simp at hl
    subst hl
    exact h2 ad cap β S a w (put _ hval rfl)
end Go.Ax
end
section
open Go Go.Ax
namespace Go.Proofs.S
set_option linter.unusedSimpArgs false
set_option linter.unusedVariables false
def ints (l : List Int) : D := .sl 1 (l.map fun n => [.int n])
def bools (l : List Bool) : D := .sl 1 (l.map fun n => [.bool n])
theorem map_inj {α β : Type} {f : α → β} (hf : ∀ a b, f a = f b → a = b) {x y : List α} (h : x.map f = y.map f) : x = y := (List.map_inj_right (f := f) hf).1 h
theorem ints_iff {x y : List Int} : ints x = ints y ↔ x = y := ⟨fun h => by simp only [ints, D.sl.injEq, true_and] at h; exact map_inj (by intro a b h; simpa using h) h, fun h => by rw [h]⟩
theorem bools_iff {x y : List Bool} : bools x = bools y ↔ x = y := ⟨fun h => by simp only [bools, D.sl.injEq, true_and] at h; exact map_inj (by intro a b h; simpa using h) h, fun h => by rw [h]⟩
theorem ints_norm (n : Nat) (l : List Int) : (ints l).norm n = ints l := rfl
theorem bools_norm (n : Nat) (l : List Bool) : (bools l).norm n = bools l := rfl
def intss (l : List (List Int)) : D := .sl 1 (l.map fun n => [ints n])
theorem intss_iff {x y : List (List Int)} : intss x = intss y ↔ x = y := ⟨fun h => by simp only [intss, D.sl.injEq, true_and] at h; exact map_inj (by intro a b h; simpa [ints_iff] using h) h, fun h => by rw [h]⟩
theorem intss_norm (n : Nat) (l : List (List Int)) : (intss l).norm n = intss l := rfl
theorem take_len_map {α β : Type} (f : α → β) (l : List α) : List.take l.length (l.map f) = l.map f := List.take_of_length_le (by simp)
theorem lenA_sl (sz : Nat) (rows : List (List D)) : lenA (.d (.sl sz rows)) = some (rows.length : Int) := rfl
theorem lenA_lit (a : Option Addr) (n c : Nat) : lenA (.d (.lit (.slice a n c))) = some (n : Int) := rfl
theorem lenA_sv (id ver sz off len : Nat) : lenA (.sv id ver sz off len) = some (len : Int) := rfl
theorem indexS_sv (size id ver sz off len : Nat) (i : Int) : indexS size (.sv id ver sz off len) i = match decide (sz = size ∧ 0 ≤ i ∧ i < len) with | true => some (.ptr id ver (off + i.toNat) 0) | false => none := rfl
theorem indexS_sl (size sz : Nat) (rows : List (List D)) (i : Int) : indexS size (.d (.sl sz rows)) i = match decide (sz = size ∧ 0 ≤ i) with | false => none | true => match rows[i.toNat]? with | some r => some (.fp r) | none => none := rfl
theorem sliceA_sv (size id ver sz off len : Nat) (lo hi : Option Int) : sliceA size (.sv id ver sz off len) lo hi = match decide (sz = size) with | false => none | true => match bounds len lo hi with | some (l, h) => some (.sv id ver sz (off + l) (h - l)) | none => none := rfl
theorem sliceA_sl (size sz : Nat) (rows : List (List D)) (lo hi : Option Int) : sliceA size (.d (.sl sz rows)) lo hi = match decide (sz = size) with | false => none | true => match bounds rows.length lo hi with | some (l, h) => some (.d (.sl sz ((rows.drop l).take (h - l)))) | none => none := rfl
theorem sliceA_nil (size : Nat) (lo hi : Option Int) : sliceA size (.d (.lit (.slice none 0 0))) lo hi = match bounds 0 lo hi with | some _ => some (.d (.lit (.slice none 0 0))) | none => none := rfl
theorem rowsOf_sl (sz sz' : Nat) (rows : List (List D)) : rowsOf sz (.d (.sl sz' rows)) = (do M.need (decide (sz' = sz)); pure rows) := rfl
theorem rowsOf_nil (sz : Nat) : rowsOf sz (.d (.lit (.slice none 0 0))) = pure [] := rfl
theorem rowsOf_sv (sz id ver sz' off len : Nat) : rowsOf sz (.sv id ver sz' off len) = (do
    M.need (decide (sz' = sz))
    let (v, o) ← Ax.look id
    M.need (decide (v = ver))
    match o with
    | .arr _ rows => do
      M.need (decide (off + len ≤ rows.length))
      pure ((rows.drop off).take len)
    | .fro _ rows => do
      M.need (decide (off + len ≤ rows.length))
      pure ((rows.drop off).take len)
    | _ => M.fail) := rfl
theorem ints_len (l : List Int) : lenA (.d (ints l)) = some (l.length : Int) := by simp [lenA, ints]
theorem bools_len (l : List Bool) : lenA (.d (bools l)) = some (l.length : Int) := by simp [lenA, bools]
theorem intss_len (l : List (List Int)) : lenA (.d (intss l)) = some (l.length : Int) := by simp [lenA, intss]
def boolss (l : List (List Bool)) : D := .sl 1 (l.map fun n => [bools n])
theorem boolss_iff {x y : List (List Bool)} : boolss x = boolss y ↔ x = y := ⟨fun h => by simp only [boolss, D.sl.injEq, true_and] at h; exact map_inj (by intro a b h; simpa [bools_iff] using h) h, fun h => by rw [h]⟩
theorem boolss_norm (n : Nat) (l : List (List Bool)) : (boolss l).norm n = boolss l := rfl
theorem boolss_len (l : List (List Bool)) : lenA (.d (boolss l)) = some (l.length : Int) := by simp [lenA, boolss]
theorem ints_idx (l : List Int) (i : Int) : indexS 1 (.d (ints l)) i = match decide (0 ≤ i) with | false => none | true => match l[i.toNat]? with | some r => some (.fp [.int r]) | none => none := by
  by_cases h : 0 ≤ i
  · simp [ints, indexS, h]
    cases l[i.toNat]? <;> simp
  · simp [indexS, ints, h]
theorem ints_sli (l : List Int) (lo hi : Option Int) : sliceA 1 (.d (ints l)) lo hi = match bounds l.length lo hi with | some (a, b) => some (.d (ints ((l.drop a).take (b - a)))) | none => none := by
  simp only [sliceA, ints, List.length_map, decide_true]
  cases bounds l.length lo hi <;> simp [ints, List.map_take, List.map_drop]
theorem ints_rows (l : List Int) : rowsOf 1 (.d (ints l)) = pure (l.map fun r => [.int r]) := rfl
theorem bools_idx (l : List Bool) (i : Int) : indexS 1 (.d (bools l)) i = match decide (0 ≤ i) with | false => none | true => match l[i.toNat]? with | some r => some (.fp [.bool r]) | none => none := by
  by_cases h : 0 ≤ i
  · simp [bools, indexS, h]
    cases l[i.toNat]? <;> simp
  · simp [indexS, bools, h]
theorem bools_sli (l : List Bool) (lo hi : Option Int) : sliceA 1 (.d (bools l)) lo hi = match bounds l.length lo hi with | some (a, b) => some (.d (bools ((l.drop a).take (b - a)))) | none => none := by
  simp only [sliceA, bools, List.length_map, decide_true]
  cases bounds l.length lo hi <;> simp [bools, List.map_take, List.map_drop]
theorem bools_rows (l : List Bool) : rowsOf 1 (.d (bools l)) = pure (l.map fun r => [.bool r]) := rfl
theorem intss_idx (l : List (List Int)) (i : Int) : indexS 1 (.d (intss l)) i = match decide (0 ≤ i) with | false => none | true => match l[i.toNat]? with | some r => some (.fp [ints r]) | none => none := by
  by_cases h : 0 ≤ i
  · simp [intss, indexS, h]
    cases l[i.toNat]? <;> simp
  · simp [indexS, intss, h]
theorem intss_sli (l : List (List Int)) (lo hi : Option Int) : sliceA 1 (.d (intss l)) lo hi = match bounds l.length lo hi with | some (a, b) => some (.d (intss ((l.drop a).take (b - a)))) | none => none := by
  simp only [sliceA, intss, List.length_map, decide_true]
  cases bounds l.length lo hi <;> simp [intss, List.map_take, List.map_drop]
theorem intss_rows (l : List (List Int)) : rowsOf 1 (.d (intss l)) = pure (l.map fun r => [ints r]) := rfl
theorem boolss_idx (l : List (List Bool)) (i : Int) : indexS 1 (.d (boolss l)) i = match decide (0 ≤ i) with | false => none | true => match l[i.toNat]? with | some r => some (.fp [bools r]) | none => none := by
  by_cases h : 0 ≤ i
  · simp [boolss, indexS, h]
    cases l[i.toNat]? <;> simp
  · simp [indexS, boolss, h]
theorem boolss_sli (l : List (List Bool)) (lo hi : Option Int) : sliceA 1 (.d (boolss l)) lo hi = match bounds l.length lo hi with | some (a, b) => some (.d (boolss ((l.drop a).take (b - a)))) | none => none := by
  simp only [sliceA, boolss, List.length_map, decide_true]
  cases bounds l.length lo hi <;> simp [boolss, List.map_take, List.map_drop]
theorem boolss_rows (l : List (List Bool)) : rowsOf 1 (.d (boolss l)) = pure (l.map fun r => [bools r]) := rfl
structure ID where
  a : Int
  b : Int
  c : Int
deriving DecidableEq
def ID.enc (x : ID) : List D := [.int x.a, .int x.b, .int x.c]
abbrev ID.cells (x : ID) : List AV := [.int x.a, .int x.b, .int x.c]
abbrev ID.av (x : ID) : AV := .agg [.int x.a, .int x.b, .int x.c]
theorem ID.enc_iff {x y : ID} : x.enc = y.enc ↔ x = y := by
  obtain ⟨x_a, x_b, x_c⟩ := x
  obtain ⟨y_a, y_b, y_c⟩ := y
  simp [ID.enc, ints_iff, bools_iff, intss_iff, boolss_iff, Int.natCast_inj, and_assoc]
theorem ID.enc_len (x : ID) : x.enc.length = 3 := rfl
theorem ID.eta (x : ID) : (⟨x.a, x.b, x.c⟩ : ID) = x := rfl
def ids (l : List ID) : D := .sl 3 (l.map ID.enc)
theorem ids_iff {x y : List ID} : ids x = ids y ↔ x = y := ⟨fun h => by simp only [ids, D.sl.injEq, true_and] at h; exact map_inj (fun a b h => ID.enc_iff.1 h) h, fun h => by rw [h]⟩
theorem ids_map {x y : List ID} : x.map ID.enc = y.map ID.enc ↔ x = y := ⟨fun h => map_inj (fun a b h => ID.enc_iff.1 h) h, fun h => by rw [h]⟩
theorem ids_len (l : List ID) : lenA (.d (ids l)) = some (l.length : Int) := by simp [lenA, ids]
theorem ids_idx (l : List ID) (i : Int) : indexS 3 (.d (ids l)) i = match decide (0 ≤ i) with | false => none | true => match l[i.toNat]? with | some r => some (.fp r.enc) | none => none := by
  by_cases h : 0 ≤ i
  · simp [ids, indexS, h]
    cases l[i.toNat]? <;> simp
  · simp [indexS, ids, h]
theorem ids_sli (l : List ID) (lo hi : Option Int) : sliceA 3 (.d (ids l)) lo hi = match bounds l.length lo hi with | some (a, b) => some (.d (ids ((l.drop a).take (b - a)))) | none => none := by
  simp only [sliceA, ids, List.length_map, decide_true]
  cases bounds l.length lo hi <;> simp [ids, List.map_take, List.map_drop]
theorem ids_rows (l : List ID) : rowsOf 3 (.d (ids l)) = pure (l.map fun r => r.enc) := rfl
theorem ids_norm (n : Nat) (l : List ID) : (ids l).norm n = ids l := rfl
structure Note where
  to : Int
  h : Int
  args : List Int
deriving DecidableEq
def Note.enc (x : Note) : List D := [.int x.to, .int x.h, ints x.args]
abbrev Note.cells (x : Note) : List AV := [.int x.to, .int x.h, .d (ints x.args)]
abbrev Note.av (x : Note) : AV := .agg [.int x.to, .int x.h, .d (ints x.args)]
theorem Note.enc_iff {x y : Note} : x.enc = y.enc ↔ x = y := by
  obtain ⟨x_to, x_h, x_args⟩ := x
  obtain ⟨y_to, y_h, y_args⟩ := y
  simp [Note.enc, ints_iff, bools_iff, intss_iff, boolss_iff, Int.natCast_inj, ids_map, ids_iff, and_assoc]
theorem Note.enc_len (x : Note) : x.enc.length = 3 := rfl
theorem Note.eta (x : Note) : (⟨x.to, x.h, x.args⟩ : Note) = x := rfl
def noteL (l : List Note) : D := .sl 3 (l.map Note.enc)
theorem noteL_iff {x y : List Note} : noteL x = noteL y ↔ x = y := ⟨fun h => by simp only [noteL, D.sl.injEq, true_and] at h; exact map_inj (fun a b h => Note.enc_iff.1 h) h, fun h => by rw [h]⟩
theorem noteL_map {x y : List Note} : x.map Note.enc = y.map Note.enc ↔ x = y := ⟨fun h => map_inj (fun a b h => Note.enc_iff.1 h) h, fun h => by rw [h]⟩
theorem noteL_len (l : List Note) : lenA (.d (noteL l)) = some (l.length : Int) := by simp [lenA, noteL]
theorem noteL_idx (l : List Note) (i : Int) : indexS 3 (.d (noteL l)) i = match decide (0 ≤ i) with | false => none | true => match l[i.toNat]? with | some r => some (.fp r.enc) | none => none := by
  by_cases h : 0 ≤ i
  · simp [noteL, indexS, h]
    cases l[i.toNat]? <;> simp
  · simp [indexS, noteL, h]
theorem noteL_sli (l : List Note) (lo hi : Option Int) : sliceA 3 (.d (noteL l)) lo hi = match bounds l.length lo hi with | some (a, b) => some (.d (noteL ((l.drop a).take (b - a)))) | none => none := by
  simp only [sliceA, noteL, List.length_map, decide_true]
  cases bounds l.length lo hi <;> simp [noteL, List.map_take, List.map_drop]
theorem noteL_rows (l : List Note) : rowsOf 3 (.d (noteL l)) = pure (l.map fun r => r.enc) := rfl
theorem noteL_norm (n : Nat) (l : List Note) : (noteL l).norm n = noteL l := rfl
structure Msg where
  id : ID
  note : Note
deriving DecidableEq
def Msg.enc (x : Msg) : List D := [.int x.id.a, .int x.id.b, .int x.id.c, .int x.note.to, .int x.note.h, ints x.note.args]
abbrev Msg.cells (x : Msg) : List AV := [.int x.id.a, .int x.id.b, .int x.id.c, .int x.note.to, .int x.note.h, .d (ints x.note.args)]
abbrev Msg.av (x : Msg) : AV := .agg [.int x.id.a, .int x.id.b, .int x.id.c, .int x.note.to, .int x.note.h, .d (ints x.note.args)]
theorem Msg.enc_iff {x y : Msg} : x.enc = y.enc ↔ x = y := by
  obtain ⟨⟨x_id_a, x_id_b, x_id_c⟩, ⟨x_note_to, x_note_h, x_note_args⟩⟩ := x
  obtain ⟨⟨y_id_a, y_id_b, y_id_c⟩, ⟨y_note_to, y_note_h, y_note_args⟩⟩ := y
  simp [Msg.enc, ints_iff, bools_iff, intss_iff, boolss_iff, Int.natCast_inj, ids_map, ids_iff, noteL_map, noteL_iff, and_assoc]
theorem Msg.enc_len (x : Msg) : x.enc.length = 6 := rfl
theorem Msg.eta (x : Msg) : (⟨x.id, x.note⟩ : Msg) = x := rfl
def msgs (l : List Msg) : D := .sl 6 (l.map Msg.enc)
theorem msgs_iff {x y : List Msg} : msgs x = msgs y ↔ x = y := ⟨fun h => by simp only [msgs, D.sl.injEq, true_and] at h; exact map_inj (fun a b h => Msg.enc_iff.1 h) h, fun h => by rw [h]⟩
theorem msgs_map {x y : List Msg} : x.map Msg.enc = y.map Msg.enc ↔ x = y := ⟨fun h => map_inj (fun a b h => Msg.enc_iff.1 h) h, fun h => by rw [h]⟩
theorem msgs_len (l : List Msg) : lenA (.d (msgs l)) = some (l.length : Int) := by simp [lenA, msgs]
theorem msgs_idx (l : List Msg) (i : Int) : indexS 6 (.d (msgs l)) i = match decide (0 ≤ i) with | false => none | true => match l[i.toNat]? with | some r => some (.fp r.enc) | none => none := by
  by_cases h : 0 ≤ i
  · simp [msgs, indexS, h]
    cases l[i.toNat]? <;> simp
  · simp [indexS, msgs, h]
theorem msgs_sli (l : List Msg) (lo hi : Option Int) : sliceA 6 (.d (msgs l)) lo hi = match bounds l.length lo hi with | some (a, b) => some (.d (msgs ((l.drop a).take (b - a)))) | none => none := by
  simp only [sliceA, msgs, List.length_map, decide_true]
  cases bounds l.length lo hi <;> simp [msgs, List.map_take, List.map_drop]
theorem msgs_rows (l : List Msg) : rowsOf 6 (.d (msgs l)) = pure (l.map fun r => r.enc) := rfl
theorem msgs_norm (n : Nat) (l : List Msg) : (msgs l).norm n = msgs l := rfl
structure Instr where
  op : Int
  x : Int
deriving DecidableEq
def Instr.enc (x : Instr) : List D := [.int x.op, .int x.x]
abbrev Instr.cells (x : Instr) : List AV := [.int x.op, .int x.x]
abbrev Instr.av (x : Instr) : AV := .agg [.int x.op, .int x.x]
theorem Instr.enc_iff {x y : Instr} : x.enc = y.enc ↔ x = y := by
  obtain ⟨x_op, x_x⟩ := x
  obtain ⟨y_op, y_x⟩ := y
  simp [Instr.enc, ints_iff, bools_iff, intss_iff, boolss_iff, Int.natCast_inj, ids_map, ids_iff, noteL_map, noteL_iff, msgs_map, msgs_iff, and_assoc]
theorem Instr.enc_len (x : Instr) : x.enc.length = 2 := rfl
theorem Instr.eta (x : Instr) : (⟨x.op, x.x⟩ : Instr) = x := rfl
def instrs (l : List Instr) : D := .sl 2 (l.map Instr.enc)
theorem instrs_iff {x y : List Instr} : instrs x = instrs y ↔ x = y := ⟨fun h => by simp only [instrs, D.sl.injEq, true_and] at h; exact map_inj (fun a b h => Instr.enc_iff.1 h) h, fun h => by rw [h]⟩
theorem instrs_map {x y : List Instr} : x.map Instr.enc = y.map Instr.enc ↔ x = y := ⟨fun h => map_inj (fun a b h => Instr.enc_iff.1 h) h, fun h => by rw [h]⟩
theorem instrs_len (l : List Instr) : lenA (.d (instrs l)) = some (l.length : Int) := by simp [lenA, instrs]
theorem instrs_idx (l : List Instr) (i : Int) : indexS 2 (.d (instrs l)) i = match decide (0 ≤ i) with | false => none | true => match l[i.toNat]? with | some r => some (.fp r.enc) | none => none := by
  by_cases h : 0 ≤ i
  · simp [instrs, indexS, h]
    cases l[i.toNat]? <;> simp
  · simp [indexS, instrs, h]
theorem instrs_sli (l : List Instr) (lo hi : Option Int) : sliceA 2 (.d (instrs l)) lo hi = match bounds l.length lo hi with | some (a, b) => some (.d (instrs ((l.drop a).take (b - a)))) | none => none := by
  simp only [sliceA, instrs, List.length_map, decide_true]
  cases bounds l.length lo hi <;> simp [instrs, List.map_take, List.map_drop]
theorem instrs_rows (l : List Instr) : rowsOf 2 (.d (instrs l)) = pure (l.map fun r => r.enc) := rfl
theorem instrs_norm (n : Nat) (l : List Instr) : (instrs l).norm n = instrs l := rfl
def watches (l : List (List Instr)) : D := .sl 1 (l.map fun n => [instrs n])
theorem watches_iff {x y : List (List Instr)} : watches x = watches y ↔ x = y := ⟨fun h => by simp only [watches, D.sl.injEq, true_and] at h; exact map_inj (by intro a b h; simpa [instrs_iff] using h) h, fun h => by rw [h]⟩
theorem watches_norm (n : Nat) (l : List (List Instr)) : (watches l).norm n = watches l := rfl
theorem watches_len (l : List (List Instr)) : lenA (.d (watches l)) = some (l.length : Int) := by simp [lenA, watches]
theorem watches_idx (l : List (List Instr)) (i : Int) : indexS 1 (.d (watches l)) i = match decide (0 ≤ i) with | false => none | true => match l[i.toNat]? with | some r => some (.fp [instrs r]) | none => none := by
  by_cases h : 0 ≤ i
  · simp [watches, indexS, h]
    cases l[i.toNat]? <;> simp
  · simp [indexS, watches, h]
theorem watches_sli (l : List (List Instr)) (lo hi : Option Int) : sliceA 1 (.d (watches l)) lo hi = match bounds l.length lo hi with | some (a, b) => some (.d (watches ((l.drop a).take (b - a)))) | none => none := by
  simp only [sliceA, watches, List.length_map, decide_true]
  cases bounds l.length lo hi <;> simp [watches, List.map_take, List.map_drop]
theorem watches_rows (l : List (List Instr)) : rowsOf 1 (.d (watches l)) = pure (l.map fun r => [instrs r]) := rfl
structure Handler where
  args : Int
  code : List Instr
deriving DecidableEq
def Handler.enc (x : Handler) : List D := [.int x.args, instrs x.code]
abbrev Handler.cells (x : Handler) : List AV := [.int x.args, .d (instrs x.code)]
abbrev Handler.av (x : Handler) : AV := .agg [.int x.args, .d (instrs x.code)]
theorem Handler.enc_iff {x y : Handler} : x.enc = y.enc ↔ x = y := by
  obtain ⟨x_args, x_code⟩ := x
  obtain ⟨y_args, y_code⟩ := y
  simp [Handler.enc, ints_iff, bools_iff, intss_iff, boolss_iff, Int.natCast_inj, ids_map, ids_iff, noteL_map, noteL_iff, msgs_map, msgs_iff, instrs_map, instrs_iff, watches_iff, and_assoc]
theorem Handler.enc_len (x : Handler) : x.enc.length = 2 := rfl
theorem Handler.eta (x : Handler) : (⟨x.args, x.code⟩ : Handler) = x := rfl
def handlers (l : List Handler) : D := .sl 2 (l.map Handler.enc)
theorem handlers_iff {x y : List Handler} : handlers x = handlers y ↔ x = y := ⟨fun h => by simp only [handlers, D.sl.injEq, true_and] at h; exact map_inj (fun a b h => Handler.enc_iff.1 h) h, fun h => by rw [h]⟩
theorem handlers_map {x y : List Handler} : x.map Handler.enc = y.map Handler.enc ↔ x = y := ⟨fun h => map_inj (fun a b h => Handler.enc_iff.1 h) h, fun h => by rw [h]⟩
theorem handlers_len (l : List Handler) : lenA (.d (handlers l)) = some (l.length : Int) := by simp [lenA, handlers]
theorem handlers_idx (l : List Handler) (i : Int) : indexS 2 (.d (handlers l)) i = match decide (0 ≤ i) with | false => none | true => match l[i.toNat]? with | some r => some (.fp r.enc) | none => none := by
  by_cases h : 0 ≤ i
  · simp [handlers, indexS, h]
    cases l[i.toNat]? <;> simp
  · simp [indexS, handlers, h]
theorem handlers_sli (l : List Handler) (lo hi : Option Int) : sliceA 2 (.d (handlers l)) lo hi = match bounds l.length lo hi with | some (a, b) => some (.d (handlers ((l.drop a).take (b - a)))) | none => none := by
  simp only [sliceA, handlers, List.length_map, decide_true]
  cases bounds l.length lo hi <;> simp [handlers, List.map_take, List.map_drop]
theorem handlers_rows (l : List Handler) : rowsOf 2 (.d (handlers l)) = pure (l.map fun r => r.enc) := rfl
theorem handlers_norm (n : Nat) (l : List Handler) : (handlers l).norm n = handlers l := rfl
structure Actor where
  regs : List Int
  cap : Int
  timer : Int
  armed : Bool
deriving DecidableEq
def Actor.enc (x : Actor) : List D := [ints x.regs, .int x.cap, .int x.timer, .bool x.armed]
abbrev Actor.cells (x : Actor) : List AV := [.d (ints x.regs), .int x.cap, .int x.timer, .bool x.armed]
abbrev Actor.av (x : Actor) : AV := .agg [.d (ints x.regs), .int x.cap, .int x.timer, .bool x.armed]
theorem Actor.enc_iff {x y : Actor} : x.enc = y.enc ↔ x = y := by
  obtain ⟨x_regs, x_cap, x_timer, x_armed⟩ := x
  obtain ⟨y_regs, y_cap, y_timer, y_armed⟩ := y
  simp [Actor.enc, ints_iff, bools_iff, intss_iff, boolss_iff, Int.natCast_inj, ids_map, ids_iff, noteL_map, noteL_iff, msgs_map, msgs_iff, instrs_map, instrs_iff, watches_iff, handlers_map, handlers_iff, and_assoc]
theorem Actor.enc_len (x : Actor) : x.enc.length = 4 := rfl
theorem Actor.eta (x : Actor) : (⟨x.regs, x.cap, x.timer, x.armed⟩ : Actor) = x := rfl
def actorL (l : List Actor) : D := .sl 4 (l.map Actor.enc)
theorem actorL_iff {x y : List Actor} : actorL x = actorL y ↔ x = y := ⟨fun h => by simp only [actorL, D.sl.injEq, true_and] at h; exact map_inj (fun a b h => Actor.enc_iff.1 h) h, fun h => by rw [h]⟩
theorem actorL_map {x y : List Actor} : x.map Actor.enc = y.map Actor.enc ↔ x = y := ⟨fun h => map_inj (fun a b h => Actor.enc_iff.1 h) h, fun h => by rw [h]⟩
theorem actorL_len (l : List Actor) : lenA (.d (actorL l)) = some (l.length : Int) := by simp [lenA, actorL]
theorem actorL_idx (l : List Actor) (i : Int) : indexS 4 (.d (actorL l)) i = match decide (0 ≤ i) with | false => none | true => match l[i.toNat]? with | some r => some (.fp r.enc) | none => none := by
  by_cases h : 0 ≤ i
  · simp [actorL, indexS, h]
    cases l[i.toNat]? <;> simp
  · simp [indexS, actorL, h]
theorem actorL_sli (l : List Actor) (lo hi : Option Int) : sliceA 4 (.d (actorL l)) lo hi = match bounds l.length lo hi with | some (a, b) => some (.d (actorL ((l.drop a).take (b - a)))) | none => none := by
  simp only [sliceA, actorL, List.length_map, decide_true]
  cases bounds l.length lo hi <;> simp [actorL, List.map_take, List.map_drop]
theorem actorL_rows (l : List Actor) : rowsOf 4 (.d (actorL l)) = pure (l.map fun r => r.enc) := rfl
theorem actorL_norm (n : Nat) (l : List Actor) : (actorL l).norm n = actorL l := rfl
structure Prg where
  hs : List Handler
  actors : List Actor
  boot : List Note
  fuel : Int
deriving DecidableEq
def Prg.enc (x : Prg) : List D := [handlers x.hs, actorL x.actors, noteL x.boot, .int x.fuel]
abbrev Prg.cells (x : Prg) : List AV := [.d (handlers x.hs), .d (actorL x.actors), .d (noteL x.boot), .int x.fuel]
abbrev Prg.av (x : Prg) : AV := .agg [.d (handlers x.hs), .d (actorL x.actors), .d (noteL x.boot), .int x.fuel]
theorem Prg.enc_iff {x y : Prg} : x.enc = y.enc ↔ x = y := by
  obtain ⟨x_hs, x_actors, x_boot, x_fuel⟩ := x
  obtain ⟨y_hs, y_actors, y_boot, y_fuel⟩ := y
  simp [Prg.enc, ints_iff, bools_iff, intss_iff, boolss_iff, Int.natCast_inj, ids_map, ids_iff, noteL_map, noteL_iff, msgs_map, msgs_iff, instrs_map, instrs_iff, watches_iff, handlers_map, handlers_iff, actorL_map, actorL_iff, and_assoc]
theorem Prg.enc_len (x : Prg) : x.enc.length = 4 := rfl
theorem Prg.eta (x : Prg) : (⟨x.hs, x.actors, x.boot, x.fuel⟩ : Prg) = x := rfl
structure Loc where
  regs : List Int
  armed : Bool
  down : Int
  sent : Int
  over : Int
deriving DecidableEq
def Loc.enc (x : Loc) : List D := [ints x.regs, .bool x.armed, .int x.down, .int x.sent, .int x.over]
abbrev Loc.cells (x : Loc) : List AV := [.d (ints x.regs), .bool x.armed, .int x.down, .int x.sent, .int x.over]
abbrev Loc.av (x : Loc) : AV := .agg [.d (ints x.regs), .bool x.armed, .int x.down, .int x.sent, .int x.over]
theorem Loc.enc_iff {x y : Loc} : x.enc = y.enc ↔ x = y := by
  obtain ⟨x_regs, x_armed, x_down, x_sent, x_over⟩ := x
  obtain ⟨y_regs, y_armed, y_down, y_sent, y_over⟩ := y
  simp [Loc.enc, ints_iff, bools_iff, intss_iff, boolss_iff, Int.natCast_inj, ids_map, ids_iff, noteL_map, noteL_iff, msgs_map, msgs_iff, instrs_map, instrs_iff, watches_iff, handlers_map, handlers_iff, actorL_map, actorL_iff, and_assoc]
theorem Loc.enc_len (x : Loc) : x.enc.length = 5 := rfl
theorem Loc.eta (x : Loc) : (⟨x.regs, x.armed, x.down, x.sent, x.over⟩ : Loc) = x := rfl
def locs (l : List Loc) : D := .sl 5 (l.map Loc.enc)
theorem locs_iff {x y : List Loc} : locs x = locs y ↔ x = y := ⟨fun h => by simp only [locs, D.sl.injEq, true_and] at h; exact map_inj (fun a b h => Loc.enc_iff.1 h) h, fun h => by rw [h]⟩
theorem locs_map {x y : List Loc} : x.map Loc.enc = y.map Loc.enc ↔ x = y := ⟨fun h => map_inj (fun a b h => Loc.enc_iff.1 h) h, fun h => by rw [h]⟩
theorem locs_len (l : List Loc) : lenA (.d (locs l)) = some (l.length : Int) := by simp [lenA, locs]
theorem locs_idx (l : List Loc) (i : Int) : indexS 5 (.d (locs l)) i = match decide (0 ≤ i) with | false => none | true => match l[i.toNat]? with | some r => some (.fp r.enc) | none => none := by
  by_cases h : 0 ≤ i
  · simp [locs, indexS, h]
    cases l[i.toNat]? <;> simp
  · simp [indexS, locs, h]
theorem locs_sli (l : List Loc) (lo hi : Option Int) : sliceA 5 (.d (locs l)) lo hi = match bounds l.length lo hi with | some (a, b) => some (.d (locs ((l.drop a).take (b - a)))) | none => none := by
  simp only [sliceA, locs, List.length_map, decide_true]
  cases bounds l.length lo hi <;> simp [locs, List.map_take, List.map_drop]
theorem locs_rows (l : List Loc) : rowsOf 5 (.d (locs l)) = pure (l.map fun r => r.enc) := rfl
theorem locs_norm (n : Nat) (l : List Loc) : (locs l).norm n = locs l := rfl
structure Bud where
  drop : Int
  dup : Int
  time : Int
  crash : Int
deriving DecidableEq
def Bud.enc (x : Bud) : List D := [.int x.drop, .int x.dup, .int x.time, .int x.crash]
abbrev Bud.cells (x : Bud) : List AV := [.int x.drop, .int x.dup, .int x.time, .int x.crash]
abbrev Bud.av (x : Bud) : AV := .agg [.int x.drop, .int x.dup, .int x.time, .int x.crash]
theorem Bud.enc_iff {x y : Bud} : x.enc = y.enc ↔ x = y := by
  obtain ⟨x_drop, x_dup, x_time, x_crash⟩ := x
  obtain ⟨y_drop, y_dup, y_time, y_crash⟩ := y
  simp [Bud.enc, ints_iff, bools_iff, intss_iff, boolss_iff, Int.natCast_inj, ids_map, ids_iff, noteL_map, noteL_iff, msgs_map, msgs_iff, instrs_map, instrs_iff, watches_iff, handlers_map, handlers_iff, actorL_map, actorL_iff, locs_map, locs_iff, and_assoc]
theorem Bud.enc_len (x : Bud) : x.enc.length = 4 := rfl
theorem Bud.eta (x : Bud) : (⟨x.drop, x.dup, x.time, x.crash⟩ : Bud) = x := rfl
structure Wld where
  actors : List Loc
  mail : List Msg
  used : Bud
deriving DecidableEq
def Wld.enc (x : Wld) : List D := [locs x.actors, msgs x.mail, .int x.used.drop, .int x.used.dup, .int x.used.time, .int x.used.crash]
abbrev Wld.cells (x : Wld) : List AV := [.d (locs x.actors), .d (msgs x.mail), .int x.used.drop, .int x.used.dup, .int x.used.time, .int x.used.crash]
abbrev Wld.av (x : Wld) : AV := .agg [.d (locs x.actors), .d (msgs x.mail), .int x.used.drop, .int x.used.dup, .int x.used.time, .int x.used.crash]
theorem Wld.enc_iff {x y : Wld} : x.enc = y.enc ↔ x = y := by
  obtain ⟨x_actors, x_mail, ⟨x_used_drop, x_used_dup, x_used_time, x_used_crash⟩⟩ := x
  obtain ⟨y_actors, y_mail, ⟨y_used_drop, y_used_dup, y_used_time, y_used_crash⟩⟩ := y
  simp [Wld.enc, ints_iff, bools_iff, intss_iff, boolss_iff, Int.natCast_inj, ids_map, ids_iff, noteL_map, noteL_iff, msgs_map, msgs_iff, instrs_map, instrs_iff, watches_iff, handlers_map, handlers_iff, actorL_map, actorL_iff, locs_map, locs_iff, and_assoc]
theorem Wld.enc_len (x : Wld) : x.enc.length = 6 := rfl
theorem Wld.eta (x : Wld) : (⟨x.actors, x.mail, x.used⟩ : Wld) = x := rfl
def wlds (l : List Wld) : D := .sl 6 (l.map Wld.enc)
theorem wlds_iff {x y : List Wld} : wlds x = wlds y ↔ x = y := ⟨fun h => by simp only [wlds, D.sl.injEq, true_and] at h; exact map_inj (fun a b h => Wld.enc_iff.1 h) h, fun h => by rw [h]⟩
theorem wlds_map {x y : List Wld} : x.map Wld.enc = y.map Wld.enc ↔ x = y := ⟨fun h => map_inj (fun a b h => Wld.enc_iff.1 h) h, fun h => by rw [h]⟩
theorem wlds_len (l : List Wld) : lenA (.d (wlds l)) = some (l.length : Int) := by simp [lenA, wlds]
theorem wlds_idx (l : List Wld) (i : Int) : indexS 6 (.d (wlds l)) i = match decide (0 ≤ i) with | false => none | true => match l[i.toNat]? with | some r => some (.fp r.enc) | none => none := by
  by_cases h : 0 ≤ i
  · simp [wlds, indexS, h]
    cases l[i.toNat]? <;> simp
  · simp [indexS, wlds, h]
theorem wlds_sli (l : List Wld) (lo hi : Option Int) : sliceA 6 (.d (wlds l)) lo hi = match bounds l.length lo hi with | some (a, b) => some (.d (wlds ((l.drop a).take (b - a)))) | none => none := by
  simp only [sliceA, wlds, List.length_map, decide_true]
  cases bounds l.length lo hi <;> simp [wlds, List.map_take, List.map_drop]
theorem wlds_rows (l : List Wld) : rowsOf 6 (.d (wlds l)) = pure (l.map fun r => r.enc) := rfl
theorem wlds_norm (n : Nat) (l : List Wld) : (wlds l).norm n = wlds l := rfl
structure Ev where
  kind : Int
  id : ID
  who : Int
deriving DecidableEq
def Ev.enc (x : Ev) : List D := [.int x.kind, .int x.id.a, .int x.id.b, .int x.id.c, .int x.who]
abbrev Ev.cells (x : Ev) : List AV := [.int x.kind, .int x.id.a, .int x.id.b, .int x.id.c, .int x.who]
abbrev Ev.av (x : Ev) : AV := .agg [.int x.kind, .int x.id.a, .int x.id.b, .int x.id.c, .int x.who]
theorem Ev.enc_iff {x y : Ev} : x.enc = y.enc ↔ x = y := by
  obtain ⟨x_kind, ⟨x_id_a, x_id_b, x_id_c⟩, x_who⟩ := x
  obtain ⟨y_kind, ⟨y_id_a, y_id_b, y_id_c⟩, y_who⟩ := y
  simp [Ev.enc, ints_iff, bools_iff, intss_iff, boolss_iff, Int.natCast_inj, ids_map, ids_iff, noteL_map, noteL_iff, msgs_map, msgs_iff, instrs_map, instrs_iff, watches_iff, handlers_map, handlers_iff, actorL_map, actorL_iff, locs_map, locs_iff, wlds_map, wlds_iff, and_assoc]
theorem Ev.enc_len (x : Ev) : x.enc.length = 5 := rfl
theorem Ev.eta (x : Ev) : (⟨x.kind, x.id, x.who⟩ : Ev) = x := rfl
def evs (l : List Ev) : D := .sl 5 (l.map Ev.enc)
theorem evs_iff {x y : List Ev} : evs x = evs y ↔ x = y := ⟨fun h => by simp only [evs, D.sl.injEq, true_and] at h; exact map_inj (fun a b h => Ev.enc_iff.1 h) h, fun h => by rw [h]⟩
theorem evs_map {x y : List Ev} : x.map Ev.enc = y.map Ev.enc ↔ x = y := ⟨fun h => map_inj (fun a b h => Ev.enc_iff.1 h) h, fun h => by rw [h]⟩
theorem evs_len (l : List Ev) : lenA (.d (evs l)) = some (l.length : Int) := by simp [lenA, evs]
theorem evs_idx (l : List Ev) (i : Int) : indexS 5 (.d (evs l)) i = match decide (0 ≤ i) with | false => none | true => match l[i.toNat]? with | some r => some (.fp r.enc) | none => none := by
  by_cases h : 0 ≤ i
  · simp [evs, indexS, h]
    cases l[i.toNat]? <;> simp
  · simp [indexS, evs, h]
theorem evs_sli (l : List Ev) (lo hi : Option Int) : sliceA 5 (.d (evs l)) lo hi = match bounds l.length lo hi with | some (a, b) => some (.d (evs ((l.drop a).take (b - a)))) | none => none := by
  simp only [sliceA, evs, List.length_map, decide_true]
  cases bounds l.length lo hi <;> simp [evs, List.map_take, List.map_drop]
theorem evs_rows (l : List Ev) : rowsOf 5 (.d (evs l)) = pure (l.map fun r => r.enc) := rfl
theorem evs_norm (n : Nat) (l : List Ev) : (evs l).norm n = evs l := rfl
structure Lim where
  depth : Int
  runs : Int
deriving DecidableEq
def Lim.enc (x : Lim) : List D := [.int x.depth, .int x.runs]
abbrev Lim.cells (x : Lim) : List AV := [.int x.depth, .int x.runs]
abbrev Lim.av (x : Lim) : AV := .agg [.int x.depth, .int x.runs]
theorem Lim.enc_iff {x y : Lim} : x.enc = y.enc ↔ x = y := by
  obtain ⟨x_depth, x_runs⟩ := x
  obtain ⟨y_depth, y_runs⟩ := y
  simp [Lim.enc, ints_iff, bools_iff, intss_iff, boolss_iff, Int.natCast_inj, ids_map, ids_iff, noteL_map, noteL_iff, msgs_map, msgs_iff, instrs_map, instrs_iff, watches_iff, handlers_map, handlers_iff, actorL_map, actorL_iff, locs_map, locs_iff, wlds_map, wlds_iff, evs_map, evs_iff, and_assoc]
theorem Lim.enc_len (x : Lim) : x.enc.length = 2 := rfl
theorem Lim.eta (x : Lim) : (⟨x.depth, x.runs⟩ : Lim) = x := rfl
structure Found where
  watch : Int
  path : List Ev
deriving DecidableEq
def Found.enc (x : Found) : List D := [.int x.watch, evs x.path]
abbrev Found.cells (x : Found) : List AV := [.int x.watch, .d (evs x.path)]
abbrev Found.av (x : Found) : AV := .agg [.int x.watch, .d (evs x.path)]
theorem Found.enc_iff {x y : Found} : x.enc = y.enc ↔ x = y := by
  obtain ⟨x_watch, x_path⟩ := x
  obtain ⟨y_watch, y_path⟩ := y
  simp [Found.enc, ints_iff, bools_iff, intss_iff, boolss_iff, Int.natCast_inj, ids_map, ids_iff, noteL_map, noteL_iff, msgs_map, msgs_iff, instrs_map, instrs_iff, watches_iff, handlers_map, handlers_iff, actorL_map, actorL_iff, locs_map, locs_iff, wlds_map, wlds_iff, evs_map, evs_iff, and_assoc]
theorem Found.enc_len (x : Found) : x.enc.length = 2 := rfl
theorem Found.eta (x : Found) : (⟨x.watch, x.path⟩ : Found) = x := rfl
def founds (l : List Found) : D := .sl 2 (l.map Found.enc)
theorem founds_iff {x y : List Found} : founds x = founds y ↔ x = y := ⟨fun h => by simp only [founds, D.sl.injEq, true_and] at h; exact map_inj (fun a b h => Found.enc_iff.1 h) h, fun h => by rw [h]⟩
theorem founds_map {x y : List Found} : x.map Found.enc = y.map Found.enc ↔ x = y := ⟨fun h => map_inj (fun a b h => Found.enc_iff.1 h) h, fun h => by rw [h]⟩
theorem founds_len (l : List Found) : lenA (.d (founds l)) = some (l.length : Int) := by simp [lenA, founds]
theorem founds_idx (l : List Found) (i : Int) : indexS 2 (.d (founds l)) i = match decide (0 ≤ i) with | false => none | true => match l[i.toNat]? with | some r => some (.fp r.enc) | none => none := by
  by_cases h : 0 ≤ i
  · simp [founds, indexS, h]
    cases l[i.toNat]? <;> simp
  · simp [indexS, founds, h]
theorem founds_sli (l : List Found) (lo hi : Option Int) : sliceA 2 (.d (founds l)) lo hi = match bounds l.length lo hi with | some (a, b) => some (.d (founds ((l.drop a).take (b - a)))) | none => none := by
  simp only [sliceA, founds, List.length_map, decide_true]
  cases bounds l.length lo hi <;> simp [founds, List.map_take, List.map_drop]
theorem founds_rows (l : List Found) : rowsOf 2 (.d (founds l)) = pure (l.map fun r => r.enc) := rfl
theorem founds_norm (n : Nat) (l : List Found) : (founds l).norm n = founds l := rfl
structure NRes where
  whole : Bool
  runs : Int
  worlds : Int
  found : List Found
deriving DecidableEq
def NRes.enc (x : NRes) : List D := [.bool x.whole, .int x.runs, .int x.worlds, founds x.found]
abbrev NRes.cells (x : NRes) : List AV := [.bool x.whole, .int x.runs, .int x.worlds, .d (founds x.found)]
abbrev NRes.av (x : NRes) : AV := .agg [.bool x.whole, .int x.runs, .int x.worlds, .d (founds x.found)]
theorem NRes.enc_iff {x y : NRes} : x.enc = y.enc ↔ x = y := by
  obtain ⟨x_whole, x_runs, x_worlds, x_found⟩ := x
  obtain ⟨y_whole, y_runs, y_worlds, y_found⟩ := y
  simp [NRes.enc, ints_iff, bools_iff, intss_iff, boolss_iff, Int.natCast_inj, ids_map, ids_iff, noteL_map, noteL_iff, msgs_map, msgs_iff, instrs_map, instrs_iff, watches_iff, handlers_map, handlers_iff, actorL_map, actorL_iff, locs_map, locs_iff, wlds_map, wlds_iff, evs_map, evs_iff, founds_map, founds_iff, and_assoc]
theorem NRes.enc_len (x : NRes) : x.enc.length = 4 := rfl
theorem NRes.eta (x : NRes) : (⟨x.whole, x.runs, x.worlds, x.found⟩ : NRes) = x := rfl
structure VRes where
  loc : Loc
  notes : List Note
  steps : Int
deriving DecidableEq
def VRes.enc (x : VRes) : List D := [ints x.loc.regs, .bool x.loc.armed, .int x.loc.down, .int x.loc.sent, .int x.loc.over, noteL x.notes, .int x.steps]
abbrev VRes.cells (x : VRes) : List AV := [.d (ints x.loc.regs), .bool x.loc.armed, .int x.loc.down, .int x.loc.sent, .int x.loc.over, .d (noteL x.notes), .int x.steps]
abbrev VRes.av (x : VRes) : AV := .agg [.d (ints x.loc.regs), .bool x.loc.armed, .int x.loc.down, .int x.loc.sent, .int x.loc.over, .d (noteL x.notes), .int x.steps]
theorem VRes.enc_iff {x y : VRes} : x.enc = y.enc ↔ x = y := by
  obtain ⟨⟨x_loc_regs, x_loc_armed, x_loc_down, x_loc_sent, x_loc_over⟩, x_notes, x_steps⟩ := x
  obtain ⟨⟨y_loc_regs, y_loc_armed, y_loc_down, y_loc_sent, y_loc_over⟩, y_notes, y_steps⟩ := y
  simp [VRes.enc, ints_iff, bools_iff, intss_iff, boolss_iff, Int.natCast_inj, ids_map, ids_iff, noteL_map, noteL_iff, msgs_map, msgs_iff, instrs_map, instrs_iff, watches_iff, handlers_map, handlers_iff, actorL_map, actorL_iff, locs_map, locs_iff, wlds_map, wlds_iff, evs_map, evs_iff, founds_map, founds_iff, and_assoc]
theorem VRes.enc_len (x : VRes) : x.enc.length = 7 := rfl
theorem VRes.eta (x : VRes) : (⟨x.loc, x.notes, x.steps⟩ : VRes) = x := rfl
structure Act where
  kind : Int
  m : Msg
deriving DecidableEq
def Act.enc (x : Act) : List D := [.int x.kind, .int x.m.id.a, .int x.m.id.b, .int x.m.id.c, .int x.m.note.to, .int x.m.note.h, ints x.m.note.args]
abbrev Act.cells (x : Act) : List AV := [.int x.kind, .int x.m.id.a, .int x.m.id.b, .int x.m.id.c, .int x.m.note.to, .int x.m.note.h, .d (ints x.m.note.args)]
abbrev Act.av (x : Act) : AV := .agg [.int x.kind, .int x.m.id.a, .int x.m.id.b, .int x.m.id.c, .int x.m.note.to, .int x.m.note.h, .d (ints x.m.note.args)]
theorem Act.enc_iff {x y : Act} : x.enc = y.enc ↔ x = y := by
  obtain ⟨x_kind, ⟨⟨x_m_id_a, x_m_id_b, x_m_id_c⟩, ⟨x_m_note_to, x_m_note_h, x_m_note_args⟩⟩⟩ := x
  obtain ⟨y_kind, ⟨⟨y_m_id_a, y_m_id_b, y_m_id_c⟩, ⟨y_m_note_to, y_m_note_h, y_m_note_args⟩⟩⟩ := y
  simp [Act.enc, ints_iff, bools_iff, intss_iff, boolss_iff, Int.natCast_inj, ids_map, ids_iff, noteL_map, noteL_iff, msgs_map, msgs_iff, instrs_map, instrs_iff, watches_iff, handlers_map, handlers_iff, actorL_map, actorL_iff, locs_map, locs_iff, wlds_map, wlds_iff, evs_map, evs_iff, founds_map, founds_iff, and_assoc]
theorem Act.enc_len (x : Act) : x.enc.length = 7 := rfl
theorem Act.eta (x : Act) : (⟨x.kind, x.m⟩ : Act) = x := rfl
def acts (l : List Act) : D := .sl 7 (l.map Act.enc)
theorem acts_iff {x y : List Act} : acts x = acts y ↔ x = y := ⟨fun h => by simp only [acts, D.sl.injEq, true_and] at h; exact map_inj (fun a b h => Act.enc_iff.1 h) h, fun h => by rw [h]⟩
theorem acts_map {x y : List Act} : x.map Act.enc = y.map Act.enc ↔ x = y := ⟨fun h => map_inj (fun a b h => Act.enc_iff.1 h) h, fun h => by rw [h]⟩
theorem acts_len (l : List Act) : lenA (.d (acts l)) = some (l.length : Int) := by simp [lenA, acts]
theorem acts_idx (l : List Act) (i : Int) : indexS 7 (.d (acts l)) i = match decide (0 ≤ i) with | false => none | true => match l[i.toNat]? with | some r => some (.fp r.enc) | none => none := by
  by_cases h : 0 ≤ i
  · simp [acts, indexS, h]
    cases l[i.toNat]? <;> simp
  · simp [indexS, acts, h]
theorem acts_sli (l : List Act) (lo hi : Option Int) : sliceA 7 (.d (acts l)) lo hi = match bounds l.length lo hi with | some (a, b) => some (.d (acts ((l.drop a).take (b - a)))) | none => none := by
  simp only [sliceA, acts, List.length_map, decide_true]
  cases bounds l.length lo hi <;> simp [acts, List.map_take, List.map_drop]
theorem acts_rows (l : List Act) : rowsOf 7 (.d (acts l)) = pure (l.map fun r => r.enc) := rfl
theorem acts_norm (n : Nat) (l : List Act) : (acts l).norm n = acts l := rfl
end Go.Proofs.S
end
section
open Go Go.Ax
namespace Go.Proofs.S
set_option linter.unusedVariables false

/-! ### what the program reckons, on plain data -/
abbrev w64 (n : Int) : Int := IntKind.wrap .i64 n

/-! ops, sums -/
def validOp (op : Int) : Bool := decide (1 ≤ op) && decide (op ≤ 25)
def operand (op : Int) : Int :=
  if op = 1 then 1 else if op = 5 then 2 else if op = 6 then 2 else if op = 7 then 3 else if op = 20 then 4 else if op = 21 then 4 else if op = 22 then 5 else 0
def pops (op : Int) : Int :=
  if op = 4 ∨ (9 ≤ op ∧ op ≤ 13) ∨ (15 ≤ op ∧ op ≤ 18) then 2
  else if op = 2 ∨ op = 3 ∨ op = 6 ∨ op = 14 ∨ op = 19 ∨ op = 21 ∨ op = 22 then 1 else 0
def puts (op : Int) : Int :=
  if op = 3 ∨ op = 4 then 2 else if op = 1 ∨ op = 5 ∨ op = 7 ∨ op = 8 ∨ (9 ≤ op ∧ op ≤ 19) then 1 else 0
def truth (b : Bool) : Int := if b then 1 else 0
def two (op a b : Int) : Int × Int :=
  if op = 9 then (w64 (a + b), 0)
  else if op = 10 then (w64 (a - b), 0)
  else if op = 11 then (w64 (a * b), 0)
  else if op = 15 then (truth (a == b), 0)
  else if op = 16 then (truth (decide (a < b)), 0)
  else if op = 17 then (truth (a != 0 && b != 0), 0)
  else if op = 18 then (truth (a != 0 || b != 0), 0)
  else if op = 12 ∨ op = 13 then (if b = 0 then (0, 3) else if op = 12 then (w64 (a.tdiv b), 0) else (a.tmod b, 0))
  else (0, 0)
def one1 (op a : Int) : Option Int :=
  if op = 14 then some (w64 (0 - a)) else if op = 19 then some (truth (a == 0)) else none

/-! prog -/
def instrE (p : Prg) (h : Handler) (i : Instr) : Int :=
  if validOp i.op = false ∨ (operand i.op = 0 ∧ i.x ≠ 0) then 1
  else if operand i.op = 4 ∧ (i.x < 0 ∨ (h.code.length : Int) < i.x) then 4
  else if (operand i.op = 2 ∧ (i.x < 0 ∨ 8 ≤ i.x)) ∨ (operand i.op = 3 ∧ (i.x < 0 ∨ h.args ≤ i.x)) then 6
  else if operand i.op = 5 ∧ (i.x < 0 ∨ (p.hs.length : Int) ≤ i.x) then 7
  else 0
def firstE {α : Type} (f : α → Int) : List α → Int
  | [] => 0
  | x :: r => if f x = 0 then firstE f r else f x
def handlerE (p : Prg) (h : Handler) : Int :=
  if h.args < 0 ∨ 4 < h.args then 1 else if 64 < h.code.length then 3 else firstE (instrE p h) h.code
def hArgs (p : Prg) (i : Int) : Int := ((p.hs[i.toNat]?).getD ⟨0, []⟩).args
def actorE (p : Prg) (a : Actor) : Int :=
  if 8 < a.regs.length then 3
  else if a.cap < 0 ∨ 16 < a.cap then 1
  else if a.timer ≠ -1 ∧ (a.timer < 0 ∨ (p.hs.length : Int) ≤ a.timer ∨ hArgs p a.timer ≠ 0) then 7
  else if a.armed = true ∧ a.timer = -1 then 1
  else 0
def noteE (p : Prg) (n : Note) : Int :=
  if n.to < 0 ∨ (p.actors.length : Int) ≤ n.to ∨ n.h < 0 ∨ (p.hs.length : Int) ≤ n.h then 7
  else if (n.args.length : Int) ≠ hArgs p n.h then 1
  else 0
def progE (p : Prg) : Int :=
  if 16 < p.hs.length ∨ 8 < p.actors.length ∨ 16 < p.boot.length then 3
  else if p.actors.length = 0 ∨ p.fuel < 1 ∨ 256 < p.fuel then 1
  else if firstE (handlerE p) p.hs ≠ 0 then firstE (handlerE p) p.hs
  else if firstE (actorE p) p.actors ≠ 0 then firstE (actorE p) p.actors
  else firstE (noteE p) p.boot

/-! flow -/
def takes (p : Prg) (i : Instr) : Int := if i.op = 22 then pops i.op + hArgs p i.x else pops i.op
def next (k : Nat) (i : Instr) : List Int :=
  if i.op = 20 then [i.x] else if i.op = 21 then [i.x, (k : Int) + 1] else if i.op = 25 then [] else [(k : Int) + 1]
/-- the places behind an instruction are marked -/
def mark (n : Int) : List Int → List Int → List Int → Option (List Int × List Int)
  | [], out, left => some (out, left)
  | k :: r, out, left =>
    if out[k.toNat]? = some (-1) then mark n r (out.set k.toNat n) (left ++ [k])
    else if out[k.toNat]? = some n then mark n r out left else none
def walkL (p : Prg) (code : List Instr) : Nat → List Int → List Int → Int → Option (List Int × Int)
  | 0, _, _, _ => none
  | _ + 1, out, [], most => some (out, most)
  | f + 1, out, k :: left, most =>
    match code[k.toNat]? with
    | none => walkL p code f out left most
    | some i =>
      let d := (out[k.toNat]?).getD 0
      let n := d - takes p i
      if n < 0 ∨ 8 < n + puts i.op then none
      else match mark (n + puts i.op) (next k.toNat i) out left with
        | none => none
        | some (out', left') => walkL p code f out' left' (max (max most d) (n + puts i.op))
def walk (p : Prg) (h : Handler) : Option (List Int × Int) :=
  walkL p h.code (2 * h.code.length + 4) ((List.replicate (h.code.length + 1) (-1 : Int)).set 0 0) [0] 0
def flowE (p : Prg) : Int :=
  if progE p ≠ 0 then progE p else if p.hs.all (fun h => (walk p h).isSome) then 0 else 5

/-! mail -/
def cmp (a b : Int) : Int := if a < b then -1 else if b < a then 1 else 0
def cmpOr : List Int → Int
  | [] => 0
  | a :: r => if a = 0 then cmpOr r else a
def order (x y : ID) : Int := cmpOr [cmp x.a y.a, cmp x.b y.b, cmp x.c y.c]
def less (x y : ID) : Bool := decide (order x y < 0)
def ID.is (x y : ID) : Bool := x.a == y.a && (x.b == y.b && x.c == y.c)
def idxFrom {α : Type} (p : α → Bool) : Nat → List α → Int
  | _, [] => -1
  | k, x :: r => if p x then k else idxFrom p (k + 1) r
def findM (l : List Msg) (id : ID) : Int := idxFrom (fun m : Msg => m.id.is id) 0 l
def toN (l : List Msg) (who : Int) : Nat := l.countP fun m => decide (m.note.to = who)
def sortedM : List Msg → Bool
  | a :: b :: r => less a.id b.id && sortedM (b :: r)
  | _ => true
def placeM (l : List Msg) (m : Msg) : Int := idxFrom (fun x : Msg => !less x.id m.id) 0 l
def insAt (l : List Msg) (i : Int) (m : Msg) : List Msg := if i < 0 then l ++ [m] else l.take i.toNat ++ m :: l.drop i.toNat
def putM (l : List Msg) (m : Msg) : Option (List Msg) := if findM l m.id ≥ 0 then none else some (insAt l (placeM l m) m)
def takeM (l : List Msg) (id : ID) : Option (List Msg × Msg) :=
  match l[(findM l id).toNat]? with
  | some m => if findM l id < 0 then none else some (l.take (findM l id).toNat ++ l.drop ((findM l id).toNat + 1), m)
  | none => none
def Note.is (x y : Note) : Bool := x.to == y.to && (x.h == y.h && decide (x.args = y.args))
def Msg.is (x y : Msg) : Bool := x.id.is y.id && x.note.is y.note

/-! vm -/
structure Mst where
  loc : Loc
  st : List Int          -- the upper number is the last
  notes : List Note
  pc : Int
deriving DecidableEq
inductive Out where
  | go (m : Mst)
  | down (n : Int)
  | bad
deriving DecidableEq
def popL (l : List Int) : Option (Int × List Int) := match l.getLast? with | some x => some (x, l.dropLast) | none => none
def stepI (p : Prg) (who : Int) (args : List Int) (m : Mst) (i : Instr) : Out :=
  let m := { m with pc := m.pc + 1 }
  if i.op = 1 then .go { m with st := m.st ++ [i.x] }
  else if i.op = 2 then (match popL m.st with | some (_, s) => .go { m with st := s } | none => .bad)
  else if i.op = 3 then (match popL m.st with | some (x, s) => .go { m with st := m.st ++ [x] } | none => .bad)
  else if i.op = 4 then (match popL m.st with
    | some (b, s) => (match popL s with | some (a, s) => .go { m with st := s ++ [b, a] } | none => .bad)
    | none => .bad)
  else if i.op = 5 then (if i.x < 0 then .bad else .go { m with st := m.st ++ [(m.loc.regs[i.x.toNat]?).getD 0] })
  else if i.op = 6 then (if i.x < 0 then .bad else match popL m.st with
    | some (x, s) => .go { m with st := s, loc := { m.loc with regs := m.loc.regs.set i.x.toNat x } }
    | none => .bad)
  else if i.op = 7 then (if i.x < 0 then .bad else match args[i.x.toNat]? with | some x => .go { m with st := m.st ++ [x] } | none => .bad)
  else if i.op = 8 then .go { m with st := m.st ++ [who] }
  else if i.op = 20 then (if i.x < 0 then .bad else .go { m with pc := i.x })
  else if i.op = 21 then (if i.x < 0 then .bad else match popL m.st with
    | some (x, s) => .go (if x = 0 then { m with st := s, pc := i.x } else { m with st := s })
    | none => .bad)
  else if i.op = 22 then (match popL m.st with
    | some (to, s) =>
      if to < 0 ∨ (p.actors.length : Int) ≤ to then .down 4
      else if i.x < 0 ∨ (p.hs.length : Int) ≤ i.x ∨ hArgs p i.x < 0 ∨ (s.length : Int) < hArgs p i.x then .bad
      else .go { m with st := s.take (s.length - (hArgs p i.x).toNat), notes := m.notes ++ [⟨to, i.x, s.drop (s.length - (hArgs p i.x).toNat)⟩] }
    | none => .bad)
  else if i.op = 23 then (match p.actors[who.toNat]? with
    | some a => .go { m with loc := { m.loc with armed := m.loc.armed || decide (a.timer ≠ -1) } }
    | none => .bad)
  else if i.op = 24 then .go { m with loc := { m.loc with armed := false } }
  else if i.op = 25 then .go { m with pc := -1 }
  else match popL m.st with
    | none => .bad
    | some (b, s) =>
      match one1 i.op b with
      | some n => .go { m with st := s ++ [n] }
      | none =>
        match popL s with
        | none => .bad
        | some (a, s) => if (two i.op a b).2 = 0 then .go { m with st := s ++ [(two i.op a b).1] } else .down (two i.op a b).2
/-- a handler's run: 'fuel' more instructions may be done, 'steps' were -/
def runV (p : Prg) (who : Int) (l : Loc) (args : List Int) (code : List Instr) : Nat → Int → Mst → Option VRes
  | f, steps, m =>
    if m.pc < 0 then some ⟨{ m.loc with sent := w64 (m.loc.sent + m.notes.length) }, m.notes, steps⟩
    else match code[m.pc.toNat]? with
    | none => some ⟨{ m.loc with sent := w64 (m.loc.sent + m.notes.length) }, m.notes, steps⟩
    | some i =>
      match f with
      | 0 => some ⟨{ l with down := 2 }, [], steps⟩
      | f + 1 =>
        match stepI p who args m i with
        | .bad => none
        | .down n => some ⟨{ l with down := n }, [], steps + 1⟩
        | .go m => runV p who l args code f (steps + 1) m
def goV (p : Prg) (who : Int) (l : Loc) (h : Int) (args : List Int) : Option VRes :=
  match p.hs[h.toNat]? with
  | none => none
  | some hh => runV p who l args hh.code p.fuel.toNat 0 ⟨l, [], [], 0⟩

/-! world -/
def actCap (p : Prg) (i : Int) : Int := ((p.actors[i.toNat]?).getD ⟨[], 0, 0, false⟩).cap
def over1 (l : Loc) : Loc := { l with over := w64 (l.over + 1) }
def modAt {α : Type} (l : List α) (i : Nat) (f : α → α) : List α := match l[i]? with | some x => l.set i (f x) | none => l
def postM (p : Prg) (w : Wld) (m : Msg) : Wld :=
  match (if (toN w.mail m.note.to : Int) < actCap p m.note.to then putM w.mail m else none) with
  | some l => { w with mail := l }
  | none => { w with actors := modAt w.actors m.note.to.toNat over1 }
def giveL (p : Prg) (who first : Int) : Int → List Note → Wld → Wld
  | _, [], w => w
  | i, n :: r, w => giveL p who first (i + 1) r (if 0 ≤ n.to ∧ n.to < min (p.actors.length : Int) w.actors.length then postM p w ⟨⟨who, w64 (first + i), 0⟩, n⟩ else w)
def locAt (w : Wld) (i : Int) : Loc := (w.actors[i.toNat]?).getD ⟨[], false, 0, 0, 0⟩
def giveM (p : Prg) (w : Wld) (who : Int) (ns : List Note) : Wld :=
  giveL p who (if 0 ≤ who then w64 ((locAt w who).sent - ns.length) else 0) 0 ns w
def startW (p : Prg) : Wld := giveM p ⟨p.actors.map fun a => ⟨a.regs, a.armed, 0, 0, 0⟩, [], ⟨0, 0, 0, 0⟩⟩ (-1) p.boot
def most : Int := 2199023255551
def localB (a : Actor) (l : Loc) : Bool :=
  decide (l.regs.length = a.regs.length ∧ 0 ≤ l.down ∧ l.down ≤ 4 ∧ 0 ≤ l.sent ∧ 0 ≤ l.over ∧ l.sent ≤ most ∧ l.over ≤ most ∧ ¬ (l.armed = true ∧ a.timer = -1))
def messageB (p : Prg) (w : Wld) (m : Msg) : Bool :=
  decide (noteE p m.note = 0 ∧ 0 ≤ m.id.b ∧ 0 ≤ m.id.c ∧ m.id.c ≤ w.used.dup ∧ -1 ≤ m.id.a ∧ m.id.a < w.actors.length ∧
    (if m.id.a = -1 then m.id.b < 16 else m.id.b < (locAt w m.id.a).sent))
def allZip {α β : Type} (f : α → β → Bool) : List α → List β → Bool
  | a :: r, b :: s => f a b && allZip f r s
  | _, _ => true
def fitsW (p : Prg) (w : Wld) : Bool :=
  decide (w.actors.length = p.actors.length) && sortedM w.mail && decide (0 ≤ w.used.drop ∧ 0 ≤ w.used.dup ∧ 0 ≤ w.used.time ∧ 0 ≤ w.used.crash) &&
  allZip localB p.actors w.actors && w.mail.all (messageB p w)
def checkW (p : Prg) (w : Wld) : Bool := decide (flowE p = 0) && fitsW p w
def Bud.is (x y : Bud) : Bool := x.drop == y.drop && (x.dup == y.dup && (x.time == y.time && x.crash == y.crash))

/-! event -/
def mayB (b : Bud) : Bool := decide (0 ≤ b.drop ∧ 0 ≤ b.dup ∧ 0 ≤ b.time ∧ 0 ≤ b.crash ∧ b.drop ≤ 1000 ∧ b.dup ≤ 1000 ∧ b.time ≤ 1000 ∧ b.crash ≤ 1000)
def subZ (have_ used : Int) : Int := max (w64 (have_ - used)) 0
def leftB (b : Bud) (w : Wld) : Bud := ⟨subZ b.drop w.used.drop, subZ b.dup w.used.dup, subZ b.time w.used.time, subZ b.crash w.used.crash⟩
def noID : ID := ⟨0, 0, 0⟩
def canE (w : Wld) (e : Ev) : Bool :=
  if e.kind = 1 ∨ e.kind = 2 ∨ e.kind = 3 then
    decide (e.who = 0) && decide (0 ≤ findM w.mail e.id) &&
      (decide (e.kind ≠ 1) || match w.mail[(findM w.mail e.id).toNat]? with | some m => decide ((locAt w m.note.to).down = 0) | none => false)
  else if e.kind = 4 ∨ e.kind = 5 then
    e.id.is noID && decide (0 ≤ e.who) && decide (e.who < w.actors.length) && decide ((locAt w e.who).down = 0) && (decide (e.kind ≠ 4) || (locAt w e.who).armed)
  else false
def paid (b : Bud) (kind : Int) : Bool :=
  if kind = 2 then decide (0 < b.drop) else if kind = 3 then decide (0 < b.dup) else if kind = 4 then decide (0 < b.time) else if kind = 5 then decide (0 < b.crash) else true
def isE (p : Prg) (b : Bud) (w : Wld) (e : Ev) : Bool := checkW p w && mayB b && canE w e && paid (leftB b w) e.kind
def okE (b : Bud) (w : Wld) (e : Ev) : Bool := paid (leftB b w) e.kind && canE w e
def cands (w : Wld) : List Ev :=
  w.mail.map (fun m => ⟨1, m.id, 0⟩) ++ w.mail.map (fun m => ⟨2, m.id, 0⟩) ++ w.mail.map (fun m => ⟨3, m.id, 0⟩) ++
  (List.range w.actors.length).map (fun k => ⟨4, noID, k⟩) ++ (List.range w.actors.length).map (fun k => ⟨5, noID, k⟩)
def allE (b : Bud) (w : Wld) : List Ev := (cands w).filter (okE b w)

/-! step -/
def ranW (p : Prg) (w : Wld) (who h : Int) (args : List Int) : Option (Wld × List Note) :=
  match goV p who (locAt w who) h args with
  | none => none
  | some r => some ({ w with actors := w.actors.set who.toNat r.loc }, r.notes)
def gaveW (p : Prg) (who : Int) : Option (Wld × List Note) → Option Wld
  | none => none
  | some (w, ns) => some (giveM p w who ns)
def timerOf (p : Prg) (i : Int) : Int := ((p.actors[i.toNat]?).getD ⟨[], 0, 0, false⟩).timer
def applyW (p : Prg) (w : Wld) (e : Ev) : Option Wld :=
  let k := (findM w.mail e.id).toNat
  if e.kind = 1 then
    match w.mail[k]? with
    | none => none
    | some m => gaveW p m.note.to (ranW p { w with mail := w.mail.take k ++ w.mail.drop (k + 1) } m.note.to m.note.h m.note.args)
  else if e.kind = 2 then
    match w.mail[k]? with
    | none => none
    | some m => some { w with mail := w.mail.take k ++ w.mail.drop (k + 1), used := { w.used with drop := w64 (w.used.drop + 1) } }
  else if e.kind = 3 then
    match w.mail[k]? with
    | none => none
    | some m => some (postM p { w with used := { w.used with dup := w64 (w.used.dup + 1) } } ⟨⟨m.id.a, m.id.b, w64 (w.used.dup + 1)⟩, m.note⟩)
  else if e.kind = 4 then
    match w.actors[e.who.toNat]? with
    | none => none
    | some l => gaveW p e.who (ranW p { w with used := { w.used with time := w64 (w.used.time + 1) }, actors := w.actors.set e.who.toNat { l with armed := false } } e.who (timerOf p e.who) [])
  else if e.kind = 5 then
    some { w with used := { w.used with crash := w64 (w.used.crash + 1) }, actors := modAt w.actors e.who.toNat (fun l => { l with down := 1 }) }
  else some w
end Go.Proofs.S
end
section
namespace Go.Ax
set_option linter.unusedSimpArgs false
set_option linter.unusedVariables false
variable {P : Program} {E : Env} {en : Ent}

theorem Weak.refl (N : Nat) (st : ASt) : Weak en N st st := fun β S a w hi => ⟨β, S, hi⟩
theorem Weak.trans {N : Nat} {a b c : ASt} (h : Weak en N a b) (k : Weak en N b c) : Weak en N a c := fun β S x w hi => by
  obtain ⟨β', S', hi'⟩ := h β S x w hi
  exact k β' S' x w hi'

/-- the end may be forgotten in part -/
theorem Ex.ofW {k : List AItem} {st : ASt} {Q : ASt → Prop} (h : Ex P E en k st (fun s => ∃ s', Weak en E.N s s' ∧ Q s')) : Ex P E en k st Q := by
  intro β S a w hi b cs
  obtain ⟨a', w', todo, ⟨β', S', st', ⟨s', hw, hq⟩, hi'⟩, hs⟩ := h β S a w hi b cs
  obtain ⟨β2, S2, hi2⟩ := hw β' S' a' w' hi'
  exact ⟨a', w', todo, ⟨β2, S2, s', hq, hi2⟩, hs⟩

theorem weak_obj {N : Nat} {tm : Tm} {hp : Heap} {nxt : Nat} (id ver : Nat) (o o' : AObj) (hg : hget hp id = some (ver, o))
    (hor : ∀ (β : Beta) (w : World) (S : CellSet), OR β w S id ver o → OR β w S id ver o') (how : o'.owned = true → o.owned = true) :
    Weak en N ⟨tm, hp, nxt⟩ ⟨tm, hset id ver o' hp, nxt⟩ := by
  intro β S a w hi
  have h : Hv en (fun id => nxt ≤ id) β S w hp := ⟨hi.hr, hi.fr⟩
  have ho := h.hr.obj _ _ _ hg
  have hne : ∀ i, nxt ≤ i → i ≠ id := by
    intro i hf e
    subst e
    rw [(h.hr.new i hf).1] at hg
    simp at hg
  obtain ⟨g1, _⟩ := h.put (Fr' := fun id => nxt ≤ id) id ver o' (BIncl.refl β) (fun _ _ _ => rfl) (h.hr.ver _ _ _ hg) (fun _ _ _ => rfl) (Nat.le_refl _) (Incl.refl S) (fun b k hs => .inl hs) (hor _ _ _ ho)
    (fun ho' p hp1 hp2 => ⟨.inl ⟨ver, o, p, hg, how ho', hp1, hp2, rfl⟩, h.hr.own _ _ _ _ hg (how ho') hp1 hp2⟩) ⟨rfl, rfl⟩ (fun i hf => ⟨hf, hne i hf⟩)
  exact ⟨β, S, ⟨hi.tm, g1.hr, g1.fr, hi.size, hi.defers⟩⟩

/-- the last rows of an array are forgotten -/
theorem weak_shrink {N : Nat} {tm : Tm} {hp : Heap} {nxt : Nat} (id ver sz : Nat) (rows : List (List D)) (n : Nat) (hg : hget hp id = some (ver, .arr sz rows)) :
    Weak en N ⟨tm, hp, nxt⟩ ⟨tm, hset id ver (.arr sz (rows.take n)) hp, nxt⟩ := by
  refine weak_obj id ver _ _ hg ?_ (fun _ => rfl)
  rintro β w S ⟨p, h1, h2, h3, h4, h5⟩
  refine ⟨p, h1, h2, fun r hr => h3 r (List.mem_of_mem_take hr), fun hv => by rw [h4 hv]; simp, fun hv => ?_⟩
  obtain ⟨c, t, g1, g2, g3, g4⟩ := h5 hv
  refine ⟨c, t, g1, g2, ?_, fun i j r d hr hd => ?_⟩
  · have : (rows.take n).length * sz ≤ rows.length * sz := Nat.mul_le_mul_right _ (by rw [List.length_take]; omega)
    omega
  · rw [List.getElem?_take] at hr
    split at hr
    · exact g4 i j r d hr hd
    · simp at hr

/-- an object is forgotten -/
theorem weak_kill {N : Nat} {tm : Tm} {hp : Heap} {nxt : Nat} (id ver : Nat) (o : AObj) (hg : hget hp id = some (ver, o)) :
    Weak en N ⟨tm, hp, nxt⟩ ⟨tm, hset id ver .dead hp, nxt⟩ :=
  weak_obj id ver _ _ hg (fun _ _ _ _ => trivial) (fun h => by simp [AObj.owned] at h)

theorem hget_inIds {hp : Heap} {id : Nat} : hget hp id = none → ∀ wr : Heap, inIds id wr = false → hget (hputs wr hp) id = none := by
  intro h wr
  induction wr generalizing hp with
  | nil => intro _; exact h
  | cons x r ih =>
    obtain ⟨j, v, o⟩ := x
    intro hi
    simp only [inIds] at hi
    split at hi
    · simp at hi
    · rename_i hj
      simp only [hputs]
      exact ih (by rw [hget_hset, if_neg (fun e => hj e.symm)]; exact h) hi

/-- a slice of one's own in a slot is frozen -/
theorem weak_freeze {N : Nat} {tm : Tm} {hp : Heap} {nxt : Nat} (t id ver sz off len : Nat) (x : D) (wr : Heap) (l : List Nat) (ht : tget tm t = some (.sv id ver sz off len))
    (hc : cellD (.sv id ver sz off len) (hget hp) = some ((x, wr), l)) : Weak en N ⟨tm, hp, nxt⟩ ⟨tset t (.d x) tm, hputs wr hp, nxt⟩ := by
  intro β S a w hi
  have h : Hv en (fun id => nxt ≤ id) β S w hp := ⟨hi.hr, hi.fr⟩
  obtain ⟨S', g1, g2, g3, _⟩ := cellD_sound h (Frz.refl hp) hc (hi.tm t _ ht)
  refine ⟨β, S', ⟨fun s u hs => ?_, g1.hr, g1.fr, hi.size, hi.defers⟩⟩
  have hs' : tget (tset t (.d x) tm) s = some u := hs
  by_cases e : s = t
  · subst e
    rw [tget_tset_same] at hs'
    cases hs'
    exact .d _ _ g3
  · rw [tget_tset_ne _ _ _ _ e] at hs'
    exact (hi.tm s u hs').up g2

/-- a slice of one's own in a cell of a box is frozen -/
theorem weak_freezeBox {N : Nat} {tm : Tm} {hp : Heap} {nxt : Nat} (b bv i : Nat) (cells : List AV) (id ver sz off len : Nat) (x : D) (wr : Heap) (l : List Nat) (hb : hget hp b = some (bv, .box cells))
    (hi0 : cells[i]? = some (.sv id ver sz off len)) (hc : cellD (.sv id ver sz off len) (hget hp) = some ((x, wr), l)) :
    Weak en N ⟨tm, hp, nxt⟩ ⟨tm, hset b bv (.box (cells.set i (.d x))) (hputs wr hp), nxt⟩ := by
  intro β S a w hi
  have h : Hv en (fun id => nxt ≤ id) β S w hp := ⟨hi.hr, hi.fr⟩
  obtain ⟨p, c, t, h1, h2, h3, h4, h5, h6, h7⟩ := h.hr.obj _ _ _ hb
  have hlt : i < cells.length := (List.getElem?_eq_some_iff.1 hi0).1
  have hv : c[i]? = some c[i] := Array.getElem?_eq_getElem (by omega)
  obtain ⟨S', g1, g2, g3, g4⟩ := cellD_sound h (Frz.refl hp) hc (h7 i _ _ hv hi0)
  have hb' : hget (hputs wr hp) b = some (bv, .box cells) := by
    rcases g4 _ _ _ hb with e | ⟨_, _, e, _⟩
    · exact e
    · cases e
  have hst : Inv en N β S' ⟨tm, hputs wr hp, nxt⟩ a w := ⟨fun s u hs => (hi.tm s u hs).up g2, g1.hr, g1.fr, hi.size, hi.defers⟩
  have ho := g1.hr.obj _ _ _ hb'
  have hne : ∀ i, nxt ≤ i → i ≠ b := by
    intro i hf e
    subst e
    rw [(g1.hr.new i hf).1] at hb'
    simp at hb'
  have hor : OR β w S' b bv (.box (cells.set i (.d x))) := by
    refine ⟨p, c, t, h1, h2, h3, by simpa using h4, h5, by simpa using h6, fun j v a hv' ha => ?_⟩
    rw [List.getElem?_set] at ha
    split at ha
    · rename_i e
      subst e
      cases ha
      rw [hv] at hv'
      cases hv'
      exact .d _ _ g3
    · exact (h7 j v a hv' ha).up g2
  obtain ⟨k1, _⟩ := g1.put (Fr' := fun id => nxt ≤ id) b bv (.box (cells.set i (.d x))) (BIncl.refl β) (fun _ _ _ => rfl) (g1.hr.ver _ _ _ hb') (fun _ _ _ => rfl) (Nat.le_refl _) (Incl.refl S') (fun b k hs => .inl hs) hor
    (fun _ p hp1 hp2 => ⟨.inl ⟨bv, .box cells, p, hb', rfl, hp1, hp2, rfl⟩, g1.hr.own _ _ _ _ hb' rfl hp1 hp2⟩) ⟨rfl, rfl⟩ (fun i hf => ⟨hf, hne i hf⟩)
  exact ⟨β, S', ⟨hst.tm, k1.hr, k1.fr, hi.size, hi.defers⟩⟩

theorem doneW {E : Env} {N : Nat} {res : List ResultVar} {n : Nat} {r : AV × List (Nat × AObj)} {st st' : ASt} (hw : Weak en N st st') (h : Done E res n r st') :
    ∃ s', Weak en N st s' ∧ Done E res n r s' := ⟨st', hw, h⟩
end Go.Ax
end
section
namespace Go.Ax
set_option linter.unusedSimpArgs false
set_option linter.unusedVariables false
variable {P : Program} {E : Env} {en : Ent}

/-- the capacity of a slice that came in, in rows -/
def CapIs (en : Ent) (c : Nat) : Prop := ∃ p, en.β0 0 = some p ∧ p.virt = false ∧ p.sz ≠ 0 ∧ p.base + c * p.sz = p.size

theorem cap_of {w : World} {S : CellSet} {β : Beta} {vals : List Value} {sz len : Nat} {rest : List AV} {o : AObj} {objs : List AObj}
    (h : ARs β w S vals (.sv 0 0 sz 0 len :: rest)) (hsz : sz ≠ 0) (hlen : len ≠ 0) : ∃ c, len ≤ c ∧ CapIs (entOf w S β (o :: objs)) c := by
  obtain ⟨v, vs, rfl, h1, _⟩ := h.inv_cons
  cases h1 with
  | sv _ _ _ _ _ cap a p hp hv hz hc hb ha =>
    refine ⟨cap, hc, p, ?_, hv, by rw [hz]; exact hsz, by rw [hz]; simpa using hb⟩
    show (if 0 < (o :: objs).length then β 0 0 else none) = some p
    simpa using hp
  | svn => exact absurd rfl hlen

theorem spec_mkC {f : FuncId} {g : Func} {c : Code} (hf : P.funcs[f]? = some g) (hb : g.body = some c)
    {X : Type} {J : X → Prop} {inp : X → List AV × List AObj} {out : X → AV × List (Nat × AObj)}
    (H : ∀ x, J x → ∀ en, Small en (inp x).2.length → (∀ sz len rest o os, (inp x).1 = .sv 0 0 sz 0 len :: rest → (inp x).2 = o :: os → sz ≠ 0 → len ≠ 0 → ∃ c, len ≤ c ∧ CapIs en c) →
      ∃ E : Env, EOkM P E en ∧ g.ntmps = E.N ∧ (inp x).1.length ≤ E.N ∧
      Ex P E en [.code c] (initSt (inp x).1 (inp x).2) (Done E g.results.toList (inp x).2.length (out x))) :
    Spec P f (mkF J inp out) := by
  refine spec_of0 hf hb (fun args objs r objs' h w S β vals hv _ => ?_)
  obtain ⟨x, hJ, h1, h2⟩ := mkF_inv h
  have e1 : args = (inp x).1 := by rw [h1]
  have e2 : objs = (inp x).2 := by rw [h1]
  subst e1
  subst e2
  rw [← h2]
  refine H x hJ _ (entOf_small w S β _) ?_
  intro sz len rest o os ha ho hsz hlen
  rw [ha] at hv
  rw [ho]
  exact cap_of hv hsz hlen
end Go.Ax
namespace Go.Ax
variable {P : Program} {E : Env} {en : Ent}
theorem cellD_arr {hp : Heap} {id ver sz off len : Nat} {rows : List (List D)} (hg : hget hp id = some (ver, .arr sz rows)) (hl : off + len ≤ rows.length) :
    ∃ l, cellD (.sv id ver sz off len) (hget hp) = some ((.sl sz ((rows.drop off).take len), [(id, ver, .fro sz rows)]), l) := by
  simp [cellD, bind, M.bind, look, hg, M.need, hl, pure, M.pure]

theorem weak_freezeArr {N : Nat} {tm : Tm} {hp : Heap} {nxt : Nat} (t id ver sz off len : Nat) (rows : List (List D)) (ht : tget tm t = some (.sv id ver sz off len)) (hg : hget hp id = some (ver, .arr sz rows)) (hl : off + len ≤ rows.length) :
    Weak en N ⟨tm, hp, nxt⟩ ⟨tset t (.d (.sl sz ((rows.drop off).take len))) tm, hset id ver (.fro sz rows) hp, nxt⟩ := by
  obtain ⟨l, h⟩ := cellD_arr hg hl
  exact weak_freeze t id ver sz off len _ _ l ht h
theorem weak_freezeBoxArr {N : Nat} {tm : Tm} {hp : Heap} {nxt : Nat} (b bv i : Nat) (cells : List AV) (id ver sz off len : Nat) (rows : List (List D)) (hb : hget hp b = some (bv, .box cells))
    (hi0 : cells[i]? = some (.sv id ver sz off len)) (hg : hget hp id = some (ver, .arr sz rows)) (hl : off + len ≤ rows.length) :
    Weak en N ⟨tm, hp, nxt⟩ ⟨tm, hset b bv (.box (cells.set i (.d (.sl sz ((rows.drop off).take len))))) (hset id ver (.fro sz rows) hp), nxt⟩ := by
  obtain ⟨l, h⟩ := cellD_arr hg hl
  exact weak_freezeBox b bv i cells id ver sz off len _ _ l hb hi0 h
/-- a slice of one's own becomes data, and its array is forgotten -/
theorem weak_take {N : Nat} {tm : Tm} {hp : Heap} {nxt : Nat} (t id ver sz off len : Nat) (rows : List (List D)) (ht : tget tm t = some (.sv id ver sz off len)) (hg : hget hp id = some (ver, .arr sz rows)) (hl : off + len ≤ rows.length) :
    Weak en N ⟨tm, hp, nxt⟩ ⟨tset t (.d (.sl sz ((rows.drop off).take len))) tm, hset id ver .dead (hset id ver (.fro sz rows) hp), nxt⟩ :=
  (weak_freezeArr t id ver sz off len rows ht hg hl).trans (weak_kill id ver (.fro sz rows) (by rw [hget_hset]; simp))
end Go.Ax
end
