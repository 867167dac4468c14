/- The tables of types and functions of this seat, as the reckoner takes them. -/
import Derived.Test.YtndnjjeildnhdaaChecked
import Derived.Test.YtndnjjeildnhdaaEa
import Derived.KernelRfl
set_option linter.unusedVariables false
namespace Go.Proofs.Ytndnjjeildnhdaa.Sx

def tys : List (Nat × TI) := [
  (1, ⟨.func #[] #[] false, 1, [.nilFunc]⟩),
  (2, ⟨.int .i64, 1, [.int .i64 0]⟩),
  (3, ⟨.int .i64, 1, [.int .i64 0]⟩),
  (4, ⟨.bool, 1, [.bool false]⟩),
  (22, ⟨.struct #[⟨ "X", 3, 0, false, "", "", 0⟩, ⟨ "Y", 3, 1, false, "", "", 8⟩], 2, [.int .i64 0, .int .i64 0]⟩),
  (23, ⟨.struct #[⟨ "X", 3, 0, false, "", "", 0⟩, ⟨ "Y", 3, 1, false, "", "", 8⟩], 2, [.int .i64 0, .int .i64 0]⟩),
  (24, ⟨.struct #[⟨ "N", 3, 0, false, "", "", 0⟩, ⟨ "D", 3, 1, false, "", "", 8⟩], 2, [.int .i64 0, .int .i64 0]⟩),
  (25, ⟨.struct #[⟨ "N", 3, 0, false, "", "", 0⟩, ⟨ "D", 3, 1, false, "", "", 8⟩], 2, [.int .i64 0, .int .i64 0]⟩),
  (26, ⟨.int .i64, 1, [.int .i64 0]⟩),
  (28, ⟨.func #[3, 3] #[25, 26] false, 1, [.nilFunc]⟩),
  (30, ⟨.func #[3] #[23, 26] false, 1, [.nilFunc]⟩),
  (31, ⟨.slice 23, 1, [.slice none 0 0]⟩),
  (33, ⟨.func #[3] #[31, 26] false, 1, [.nilFunc]⟩),
  (34, ⟨.func #[] #[4] false, 1, [.nilFunc]⟩),
  (35, ⟨.func #[31, 31] #[4] false, 1, [.nilFunc]⟩),
  (36, ⟨.func #[23] #[4] false, 1, [.nilFunc]⟩),
  (37, ⟨.func #[3, 3, 3, 23] #[4] false, 1, [.nilFunc]⟩),
  (38, ⟨.slice 4, 1, [.slice none 0 0]⟩),
  (39, ⟨.func #[3, 3] #[4] false, 1, [.nilFunc]⟩),
  (40, ⟨.func #[25, 25] #[3] false, 1, [.nilFunc]⟩),
  (41, ⟨.func #[3, 3, 3] #[4] false, 1, [.nilFunc]⟩),
  (42, ⟨.func #[65] #[] false, 1, [.nilFunc]⟩),
  (43, ⟨.func #[65] #[] false, 1, [.nilFunc]⟩),
  (44, ⟨.func #[3, 3] #[43] false, 1, [.nilFunc]⟩),
  (45, ⟨.func #[25] #[3] false, 1, [.nilFunc]⟩),
  (46, ⟨.struct #[], 0, []⟩),
  (47, ⟨.struct #[], 0, []⟩),
  (48, ⟨.struct #[], 0, []⟩),
  (50, ⟨.struct #[⟨ "_", 48, 0, false, "", "sync/atomic", 0⟩, ⟨ "v", 49, 0, false, "", "sync/atomic", 0⟩], 1, [.int .u32 0]⟩),
  (51, ⟨.struct #[⟨ "_", 48, 0, false, "", "sync/atomic", 0⟩, ⟨ "v", 49, 0, false, "", "sync/atomic", 0⟩], 1, [.int .u32 0]⟩),
  (52, ⟨.struct #[⟨ "state", 21, 0, false, "", "internal/sync", 0⟩, ⟨ "sema", 49, 1, false, "", "internal/sync", 4⟩], 2, [.int .i32 0, .int .u32 0]⟩),
  (53, ⟨.struct #[⟨ "state", 21, 0, false, "", "internal/sync", 0⟩, ⟨ "sema", 49, 1, false, "", "internal/sync", 4⟩], 2, [.int .i32 0, .int .u32 0]⟩),
  (54, ⟨.struct #[⟨ "_", 47, 0, false, "", "sync", 0⟩, ⟨ "mu", 53, 0, false, "", "sync", 0⟩], 2, [.int .i32 0, .int .u32 0]⟩),
  (55, ⟨.struct #[⟨ "_", 47, 0, false, "", "sync", 0⟩, ⟨ "mu", 53, 0, false, "", "sync", 0⟩], 2, [.int .i32 0, .int .u32 0]⟩),
  (56, ⟨.struct #[⟨ "_", 47, 0, false, "", "sync", 0⟩, ⟨ "done", 51, 0, false, "", "sync", 0⟩, ⟨ "m", 55, 1, false, "", "sync", 4⟩], 3, [.int .u32 0, .int .i32 0, .int .u32 0]⟩),
  (57, ⟨.struct #[⟨ "_", 47, 0, false, "", "sync", 0⟩, ⟨ "done", 51, 0, false, "", "sync", 0⟩, ⟨ "m", 55, 1, false, "", "sync", 4⟩], 3, [.int .u32 0, .int .i32 0, .int .u32 0]⟩),
  (58, ⟨.struct #[⟨ "sought", 57, 0, false, "", "limewash/halton", 0⟩, ⟨ "l", 31, 3, false, "", "limewash/halton", 16⟩], 4, [.int .u32 0, .int .i32 0, .int .u32 0, .slice none 0 0]⟩),
  (59, ⟨.struct #[⟨ "sought", 57, 0, false, "", "limewash/halton", 0⟩, ⟨ "l", 31, 3, false, "", "limewash/halton", 16⟩], 4, [.int .u32 0, .int .i32 0, .int .u32 0, .slice none 0 0]⟩),
  (60, ⟨.func #[3] #[31] false, 1, [.nilFunc]⟩),
  (62, ⟨.func #[3, 3] #[3, 3, 26] false, 1, [.nilFunc]⟩),
  (63, ⟨.struct #[⟨ "N", 3, 0, false, "", "", 0⟩, ⟨ "D", 3, 1, false, "", "", 8⟩], 2, [.int .i64 0, .int .i64 0]⟩),
  (64, ⟨.func #[63] #[3] false, 1, [.nilFunc]⟩),
  (65, ⟨.func #[3] #[4] false, 1, [.nilFunc]⟩),
  (66, ⟨.pointer 59, 1, [.pointer none]⟩),
  (67, ⟨.func #[1] #[] false, 1, [.nilFunc]⟩),
  (68, ⟨.func #[3] #[3] false, 1, [.nilFunc]⟩),
  (69, ⟨.struct #[⟨ "Hi", 3, 0, false, "", "", 0⟩, ⟨ "Lo", 3, 1, false, "", "", 8⟩], 2, [.int .i64 0, .int .i64 0]⟩),
  (70, ⟨.struct #[⟨ "Hi", 3, 0, false, "", "", 0⟩, ⟨ "Lo", 3, 1, false, "", "", 8⟩], 2, [.int .i64 0, .int .i64 0]⟩),
  (72, ⟨.func #[3, 3] #[70, 26] false, 1, [.nilFunc]⟩),
  (73, ⟨.func #[70, 70] #[3] false, 1, [.nilFunc]⟩),
  (74, ⟨.func #[80] #[3] true, 1, [.nilFunc]⟩),
  (75, ⟨.func #[3, 3] #[3] false, 1, [.nilFunc]⟩),
  (76, ⟨.pointer 57, 1, [.pointer none]⟩),
  (77, ⟨.array 2 3, 2, [.int .i64 0, .int .i64 0]⟩),
  (78, ⟨.func #[3] #[77] false, 1, [.nilFunc]⟩),
  (79, ⟨.func #[70] #[70, 26] false, 1, [.nilFunc]⟩),
  (80, ⟨.slice 3, 1, [.slice none 0 0]⟩),
  (81, ⟨.pointer 51, 1, [.pointer none]⟩),
  (82, ⟨.func #[83] #[49] false, 1, [.nilFunc]⟩),
  (83, ⟨.pointer 49, 1, [.pointer none]⟩),
  (84, ⟨.func #[4] #[] false, 1, [.nilFunc]⟩),
  (85, ⟨.func #[70] #[4] false, 1, [.nilFunc]⟩),
  (86, ⟨.pointer 55, 1, [.pointer none]⟩),
  (87, ⟨.func #[83, 49] #[] false, 1, [.nilFunc]⟩),
  (88, ⟨.func #[4] #[49] false, 1, [.nilFunc]⟩),
  (89, ⟨.pointer 53, 1, [.pointer none]⟩),
  (90, ⟨.func #[91, 21, 21] #[4] false, 1, [.nilFunc]⟩),
  (91, ⟨.pointer 21, 1, [.pointer none]⟩),
  (92, ⟨.func #[93] #[] false, 1, [.nilFunc]⟩),
  (94, ⟨.func #[91, 21] #[21] false, 1, [.nilFunc]⟩),
  (95, ⟨.func #[21] #[] false, 1, [.nilFunc]⟩),
  (97, ⟨.func #[9] #[] false, 1, [.nilFunc]⟩),
  (98, ⟨.func #[] #[2] false, 1, [.nilFunc]⟩),
  (99, ⟨.func #[83, 4, 3] #[] false, 1, [.nilFunc]⟩),
  (100, ⟨.func #[] #[9] false, 1, [.nilFunc]⟩),
  (106, ⟨.func #[] #[3] false, 1, [.nilFunc]⟩),
  (109, ⟨.func #[93, 93] #[4] false, 1, [.nilFunc]⟩),
  (110, ⟨.pointer 5, 1, [.pointer none]⟩)]

theorem ty1 : TyOk Try.prog 1 ⟨.func #[] #[] false, 1, [.nilFunc]⟩ := ⟨by kernel_rfl, by kernel_rfl⟩
theorem ty2 : TyOk Try.prog 2 ⟨.int .i64, 1, [.int .i64 0]⟩ := ⟨by kernel_rfl, by kernel_rfl⟩
theorem ty3 : TyOk Try.prog 3 ⟨.int .i64, 1, [.int .i64 0]⟩ := ⟨by kernel_rfl, by kernel_rfl⟩
theorem ty4 : TyOk Try.prog 4 ⟨.bool, 1, [.bool false]⟩ := ⟨by kernel_rfl, by kernel_rfl⟩
theorem ty22 : TyOk Try.prog 22 ⟨.struct #[⟨ "X", 3, 0, false, "", "", 0⟩, ⟨ "Y", 3, 1, false, "", "", 8⟩], 2, [.int .i64 0, .int .i64 0]⟩ := ⟨by kernel_rfl, by kernel_rfl⟩
theorem ty23 : TyOk Try.prog 23 ⟨.struct #[⟨ "X", 3, 0, false, "", "", 0⟩, ⟨ "Y", 3, 1, false, "", "", 8⟩], 2, [.int .i64 0, .int .i64 0]⟩ := ⟨by kernel_rfl, by kernel_rfl⟩
theorem ty24 : TyOk Try.prog 24 ⟨.struct #[⟨ "N", 3, 0, false, "", "", 0⟩, ⟨ "D", 3, 1, false, "", "", 8⟩], 2, [.int .i64 0, .int .i64 0]⟩ := ⟨by kernel_rfl, by kernel_rfl⟩
theorem ty25 : TyOk Try.prog 25 ⟨.struct #[⟨ "N", 3, 0, false, "", "", 0⟩, ⟨ "D", 3, 1, false, "", "", 8⟩], 2, [.int .i64 0, .int .i64 0]⟩ := ⟨by kernel_rfl, by kernel_rfl⟩
theorem ty26 : TyOk Try.prog 26 ⟨.int .i64, 1, [.int .i64 0]⟩ := ⟨by kernel_rfl, by kernel_rfl⟩
theorem ty28 : TyOk Try.prog 28 ⟨.func #[3, 3] #[25, 26] false, 1, [.nilFunc]⟩ := ⟨by kernel_rfl, by kernel_rfl⟩
theorem ty30 : TyOk Try.prog 30 ⟨.func #[3] #[23, 26] false, 1, [.nilFunc]⟩ := ⟨by kernel_rfl, by kernel_rfl⟩
theorem ty31 : TyOk Try.prog 31 ⟨.slice 23, 1, [.slice none 0 0]⟩ := ⟨by kernel_rfl, by kernel_rfl⟩
theorem ty33 : TyOk Try.prog 33 ⟨.func #[3] #[31, 26] false, 1, [.nilFunc]⟩ := ⟨by kernel_rfl, by kernel_rfl⟩
theorem ty34 : TyOk Try.prog 34 ⟨.func #[] #[4] false, 1, [.nilFunc]⟩ := ⟨by kernel_rfl, by kernel_rfl⟩
theorem ty35 : TyOk Try.prog 35 ⟨.func #[31, 31] #[4] false, 1, [.nilFunc]⟩ := ⟨by kernel_rfl, by kernel_rfl⟩
theorem ty36 : TyOk Try.prog 36 ⟨.func #[23] #[4] false, 1, [.nilFunc]⟩ := ⟨by kernel_rfl, by kernel_rfl⟩
theorem ty37 : TyOk Try.prog 37 ⟨.func #[3, 3, 3, 23] #[4] false, 1, [.nilFunc]⟩ := ⟨by kernel_rfl, by kernel_rfl⟩
theorem ty38 : TyOk Try.prog 38 ⟨.slice 4, 1, [.slice none 0 0]⟩ := ⟨by kernel_rfl, by kernel_rfl⟩
theorem ty39 : TyOk Try.prog 39 ⟨.func #[3, 3] #[4] false, 1, [.nilFunc]⟩ := ⟨by kernel_rfl, by kernel_rfl⟩
theorem ty40 : TyOk Try.prog 40 ⟨.func #[25, 25] #[3] false, 1, [.nilFunc]⟩ := ⟨by kernel_rfl, by kernel_rfl⟩
theorem ty41 : TyOk Try.prog 41 ⟨.func #[3, 3, 3] #[4] false, 1, [.nilFunc]⟩ := ⟨by kernel_rfl, by kernel_rfl⟩
theorem ty42 : TyOk Try.prog 42 ⟨.func #[65] #[] false, 1, [.nilFunc]⟩ := ⟨by kernel_rfl, by kernel_rfl⟩
theorem ty43 : TyOk Try.prog 43 ⟨.func #[65] #[] false, 1, [.nilFunc]⟩ := ⟨by kernel_rfl, by kernel_rfl⟩
theorem ty44 : TyOk Try.prog 44 ⟨.func #[3, 3] #[43] false, 1, [.nilFunc]⟩ := ⟨by kernel_rfl, by kernel_rfl⟩
theorem ty45 : TyOk Try.prog 45 ⟨.func #[25] #[3] false, 1, [.nilFunc]⟩ := ⟨by kernel_rfl, by kernel_rfl⟩
theorem ty46 : TyOk Try.prog 46 ⟨.struct #[], 0, []⟩ := ⟨by kernel_rfl, by kernel_rfl⟩
theorem ty47 : TyOk Try.prog 47 ⟨.struct #[], 0, []⟩ := ⟨by kernel_rfl, by kernel_rfl⟩
theorem ty48 : TyOk Try.prog 48 ⟨.struct #[], 0, []⟩ := ⟨by kernel_rfl, by kernel_rfl⟩
theorem ty50 : TyOk Try.prog 50 ⟨.struct #[⟨ "_", 48, 0, false, "", "sync/atomic", 0⟩, ⟨ "v", 49, 0, false, "", "sync/atomic", 0⟩], 1, [.int .u32 0]⟩ := ⟨by kernel_rfl, by kernel_rfl⟩
theorem ty51 : TyOk Try.prog 51 ⟨.struct #[⟨ "_", 48, 0, false, "", "sync/atomic", 0⟩, ⟨ "v", 49, 0, false, "", "sync/atomic", 0⟩], 1, [.int .u32 0]⟩ := ⟨by kernel_rfl, by kernel_rfl⟩
theorem ty52 : TyOk Try.prog 52 ⟨.struct #[⟨ "state", 21, 0, false, "", "internal/sync", 0⟩, ⟨ "sema", 49, 1, false, "", "internal/sync", 4⟩], 2, [.int .i32 0, .int .u32 0]⟩ := ⟨by kernel_rfl, by kernel_rfl⟩
theorem ty53 : TyOk Try.prog 53 ⟨.struct #[⟨ "state", 21, 0, false, "", "internal/sync", 0⟩, ⟨ "sema", 49, 1, false, "", "internal/sync", 4⟩], 2, [.int .i32 0, .int .u32 0]⟩ := ⟨by kernel_rfl, by kernel_rfl⟩
theorem ty54 : TyOk Try.prog 54 ⟨.struct #[⟨ "_", 47, 0, false, "", "sync", 0⟩, ⟨ "mu", 53, 0, false, "", "sync", 0⟩], 2, [.int .i32 0, .int .u32 0]⟩ := ⟨by kernel_rfl, by kernel_rfl⟩
theorem ty55 : TyOk Try.prog 55 ⟨.struct #[⟨ "_", 47, 0, false, "", "sync", 0⟩, ⟨ "mu", 53, 0, false, "", "sync", 0⟩], 2, [.int .i32 0, .int .u32 0]⟩ := ⟨by kernel_rfl, by kernel_rfl⟩
theorem ty56 : TyOk Try.prog 56 ⟨.struct #[⟨ "_", 47, 0, false, "", "sync", 0⟩, ⟨ "done", 51, 0, false, "", "sync", 0⟩, ⟨ "m", 55, 1, false, "", "sync", 4⟩], 3, [.int .u32 0, .int .i32 0, .int .u32 0]⟩ := ⟨by kernel_rfl, by kernel_rfl⟩
theorem ty57 : TyOk Try.prog 57 ⟨.struct #[⟨ "_", 47, 0, false, "", "sync", 0⟩, ⟨ "done", 51, 0, false, "", "sync", 0⟩, ⟨ "m", 55, 1, false, "", "sync", 4⟩], 3, [.int .u32 0, .int .i32 0, .int .u32 0]⟩ := ⟨by kernel_rfl, by kernel_rfl⟩
theorem ty58 : TyOk Try.prog 58 ⟨.struct #[⟨ "sought", 57, 0, false, "", "limewash/halton", 0⟩, ⟨ "l", 31, 3, false, "", "limewash/halton", 16⟩], 4, [.int .u32 0, .int .i32 0, .int .u32 0, .slice none 0 0]⟩ := ⟨by kernel_rfl, by kernel_rfl⟩
theorem ty59 : TyOk Try.prog 59 ⟨.struct #[⟨ "sought", 57, 0, false, "", "limewash/halton", 0⟩, ⟨ "l", 31, 3, false, "", "limewash/halton", 16⟩], 4, [.int .u32 0, .int .i32 0, .int .u32 0, .slice none 0 0]⟩ := ⟨by kernel_rfl, by kernel_rfl⟩
theorem ty60 : TyOk Try.prog 60 ⟨.func #[3] #[31] false, 1, [.nilFunc]⟩ := ⟨by kernel_rfl, by kernel_rfl⟩
theorem ty62 : TyOk Try.prog 62 ⟨.func #[3, 3] #[3, 3, 26] false, 1, [.nilFunc]⟩ := ⟨by kernel_rfl, by kernel_rfl⟩
theorem ty63 : TyOk Try.prog 63 ⟨.struct #[⟨ "N", 3, 0, false, "", "", 0⟩, ⟨ "D", 3, 1, false, "", "", 8⟩], 2, [.int .i64 0, .int .i64 0]⟩ := ⟨by kernel_rfl, by kernel_rfl⟩
theorem ty64 : TyOk Try.prog 64 ⟨.func #[63] #[3] false, 1, [.nilFunc]⟩ := ⟨by kernel_rfl, by kernel_rfl⟩
theorem ty65 : TyOk Try.prog 65 ⟨.func #[3] #[4] false, 1, [.nilFunc]⟩ := ⟨by kernel_rfl, by kernel_rfl⟩
theorem ty66 : TyOk Try.prog 66 ⟨.pointer 59, 1, [.pointer none]⟩ := ⟨by kernel_rfl, by kernel_rfl⟩
theorem ty67 : TyOk Try.prog 67 ⟨.func #[1] #[] false, 1, [.nilFunc]⟩ := ⟨by kernel_rfl, by kernel_rfl⟩
theorem ty68 : TyOk Try.prog 68 ⟨.func #[3] #[3] false, 1, [.nilFunc]⟩ := ⟨by kernel_rfl, by kernel_rfl⟩
theorem ty69 : TyOk Try.prog 69 ⟨.struct #[⟨ "Hi", 3, 0, false, "", "", 0⟩, ⟨ "Lo", 3, 1, false, "", "", 8⟩], 2, [.int .i64 0, .int .i64 0]⟩ := ⟨by kernel_rfl, by kernel_rfl⟩
theorem ty70 : TyOk Try.prog 70 ⟨.struct #[⟨ "Hi", 3, 0, false, "", "", 0⟩, ⟨ "Lo", 3, 1, false, "", "", 8⟩], 2, [.int .i64 0, .int .i64 0]⟩ := ⟨by kernel_rfl, by kernel_rfl⟩
theorem ty72 : TyOk Try.prog 72 ⟨.func #[3, 3] #[70, 26] false, 1, [.nilFunc]⟩ := ⟨by kernel_rfl, by kernel_rfl⟩
theorem ty73 : TyOk Try.prog 73 ⟨.func #[70, 70] #[3] false, 1, [.nilFunc]⟩ := ⟨by kernel_rfl, by kernel_rfl⟩
theorem ty74 : TyOk Try.prog 74 ⟨.func #[80] #[3] true, 1, [.nilFunc]⟩ := ⟨by kernel_rfl, by kernel_rfl⟩
theorem ty75 : TyOk Try.prog 75 ⟨.func #[3, 3] #[3] false, 1, [.nilFunc]⟩ := ⟨by kernel_rfl, by kernel_rfl⟩
theorem ty76 : TyOk Try.prog 76 ⟨.pointer 57, 1, [.pointer none]⟩ := ⟨by kernel_rfl, by kernel_rfl⟩
theorem ty77 : TyOk Try.prog 77 ⟨.array 2 3, 2, [.int .i64 0, .int .i64 0]⟩ := ⟨by kernel_rfl, by kernel_rfl⟩
theorem ty78 : TyOk Try.prog 78 ⟨.func #[3] #[77] false, 1, [.nilFunc]⟩ := ⟨by kernel_rfl, by kernel_rfl⟩
theorem ty79 : TyOk Try.prog 79 ⟨.func #[70] #[70, 26] false, 1, [.nilFunc]⟩ := ⟨by kernel_rfl, by kernel_rfl⟩
theorem ty80 : TyOk Try.prog 80 ⟨.slice 3, 1, [.slice none 0 0]⟩ := ⟨by kernel_rfl, by kernel_rfl⟩
theorem ty81 : TyOk Try.prog 81 ⟨.pointer 51, 1, [.pointer none]⟩ := ⟨by kernel_rfl, by kernel_rfl⟩
theorem ty82 : TyOk Try.prog 82 ⟨.func #[83] #[49] false, 1, [.nilFunc]⟩ := ⟨by kernel_rfl, by kernel_rfl⟩
theorem ty83 : TyOk Try.prog 83 ⟨.pointer 49, 1, [.pointer none]⟩ := ⟨by kernel_rfl, by kernel_rfl⟩
theorem ty84 : TyOk Try.prog 84 ⟨.func #[4] #[] false, 1, [.nilFunc]⟩ := ⟨by kernel_rfl, by kernel_rfl⟩
theorem ty85 : TyOk Try.prog 85 ⟨.func #[70] #[4] false, 1, [.nilFunc]⟩ := ⟨by kernel_rfl, by kernel_rfl⟩
theorem ty86 : TyOk Try.prog 86 ⟨.pointer 55, 1, [.pointer none]⟩ := ⟨by kernel_rfl, by kernel_rfl⟩
theorem ty87 : TyOk Try.prog 87 ⟨.func #[83, 49] #[] false, 1, [.nilFunc]⟩ := ⟨by kernel_rfl, by kernel_rfl⟩
theorem ty88 : TyOk Try.prog 88 ⟨.func #[4] #[49] false, 1, [.nilFunc]⟩ := ⟨by kernel_rfl, by kernel_rfl⟩
theorem ty89 : TyOk Try.prog 89 ⟨.pointer 53, 1, [.pointer none]⟩ := ⟨by kernel_rfl, by kernel_rfl⟩
theorem ty90 : TyOk Try.prog 90 ⟨.func #[91, 21, 21] #[4] false, 1, [.nilFunc]⟩ := ⟨by kernel_rfl, by kernel_rfl⟩
theorem ty91 : TyOk Try.prog 91 ⟨.pointer 21, 1, [.pointer none]⟩ := ⟨by kernel_rfl, by kernel_rfl⟩
theorem ty92 : TyOk Try.prog 92 ⟨.func #[93] #[] false, 1, [.nilFunc]⟩ := ⟨by kernel_rfl, by kernel_rfl⟩
theorem ty94 : TyOk Try.prog 94 ⟨.func #[91, 21] #[21] false, 1, [.nilFunc]⟩ := ⟨by kernel_rfl, by kernel_rfl⟩
theorem ty95 : TyOk Try.prog 95 ⟨.func #[21] #[] false, 1, [.nilFunc]⟩ := ⟨by kernel_rfl, by kernel_rfl⟩
theorem ty97 : TyOk Try.prog 97 ⟨.func #[9] #[] false, 1, [.nilFunc]⟩ := ⟨by kernel_rfl, by kernel_rfl⟩
theorem ty98 : TyOk Try.prog 98 ⟨.func #[] #[2] false, 1, [.nilFunc]⟩ := ⟨by kernel_rfl, by kernel_rfl⟩
theorem ty99 : TyOk Try.prog 99 ⟨.func #[83, 4, 3] #[] false, 1, [.nilFunc]⟩ := ⟨by kernel_rfl, by kernel_rfl⟩
theorem ty100 : TyOk Try.prog 100 ⟨.func #[] #[9] false, 1, [.nilFunc]⟩ := ⟨by kernel_rfl, by kernel_rfl⟩
theorem ty106 : TyOk Try.prog 106 ⟨.func #[] #[3] false, 1, [.nilFunc]⟩ := ⟨by kernel_rfl, by kernel_rfl⟩
theorem ty109 : TyOk Try.prog 109 ⟨.func #[93, 93] #[4] false, 1, [.nilFunc]⟩ := ⟨by kernel_rfl, by kernel_rfl⟩
theorem ty110 : TyOk Try.prog 110 ⟨.pointer 5, 1, [.pointer none]⟩ := ⟨by kernel_rfl, by kernel_rfl⟩
theorem tys_ok : ∀ e ∈ tys, TyOk Try.prog e.1 e.2 :=
  List.forall_mem_cons.2 ⟨ty1,
  List.forall_mem_cons.2 ⟨ty2,
  List.forall_mem_cons.2 ⟨ty3,
  List.forall_mem_cons.2 ⟨ty4,
  List.forall_mem_cons.2 ⟨ty22,
  List.forall_mem_cons.2 ⟨ty23,
  List.forall_mem_cons.2 ⟨ty24,
  List.forall_mem_cons.2 ⟨ty25,
  List.forall_mem_cons.2 ⟨ty26,
  List.forall_mem_cons.2 ⟨ty28,
  List.forall_mem_cons.2 ⟨ty30,
  List.forall_mem_cons.2 ⟨ty31,
  List.forall_mem_cons.2 ⟨ty33,
  List.forall_mem_cons.2 ⟨ty34,
  List.forall_mem_cons.2 ⟨ty35,
  List.forall_mem_cons.2 ⟨ty36,
  List.forall_mem_cons.2 ⟨ty37,
  List.forall_mem_cons.2 ⟨ty38,
  List.forall_mem_cons.2 ⟨ty39,
  List.forall_mem_cons.2 ⟨ty40,
  List.forall_mem_cons.2 ⟨ty41,
  List.forall_mem_cons.2 ⟨ty42,
  List.forall_mem_cons.2 ⟨ty43,
  List.forall_mem_cons.2 ⟨ty44,
  List.forall_mem_cons.2 ⟨ty45,
  List.forall_mem_cons.2 ⟨ty46,
  List.forall_mem_cons.2 ⟨ty47,
  List.forall_mem_cons.2 ⟨ty48,
  List.forall_mem_cons.2 ⟨ty50,
  List.forall_mem_cons.2 ⟨ty51,
  List.forall_mem_cons.2 ⟨ty52,
  List.forall_mem_cons.2 ⟨ty53,
  List.forall_mem_cons.2 ⟨ty54,
  List.forall_mem_cons.2 ⟨ty55,
  List.forall_mem_cons.2 ⟨ty56,
  List.forall_mem_cons.2 ⟨ty57,
  List.forall_mem_cons.2 ⟨ty58,
  List.forall_mem_cons.2 ⟨ty59,
  List.forall_mem_cons.2 ⟨ty60,
  List.forall_mem_cons.2 ⟨ty62,
  List.forall_mem_cons.2 ⟨ty63,
  List.forall_mem_cons.2 ⟨ty64,
  List.forall_mem_cons.2 ⟨ty65,
  List.forall_mem_cons.2 ⟨ty66,
  List.forall_mem_cons.2 ⟨ty67,
  List.forall_mem_cons.2 ⟨ty68,
  List.forall_mem_cons.2 ⟨ty69,
  List.forall_mem_cons.2 ⟨ty70,
  List.forall_mem_cons.2 ⟨ty72,
  List.forall_mem_cons.2 ⟨ty73,
  List.forall_mem_cons.2 ⟨ty74,
  List.forall_mem_cons.2 ⟨ty75,
  List.forall_mem_cons.2 ⟨ty76,
  List.forall_mem_cons.2 ⟨ty77,
  List.forall_mem_cons.2 ⟨ty78,
  List.forall_mem_cons.2 ⟨ty79,
  List.forall_mem_cons.2 ⟨ty80,
  List.forall_mem_cons.2 ⟨ty81,
  List.forall_mem_cons.2 ⟨ty82,
  List.forall_mem_cons.2 ⟨ty83,
  List.forall_mem_cons.2 ⟨ty84,
  List.forall_mem_cons.2 ⟨ty85,
  List.forall_mem_cons.2 ⟨ty86,
  List.forall_mem_cons.2 ⟨ty87,
  List.forall_mem_cons.2 ⟨ty88,
  List.forall_mem_cons.2 ⟨ty89,
  List.forall_mem_cons.2 ⟨ty90,
  List.forall_mem_cons.2 ⟨ty91,
  List.forall_mem_cons.2 ⟨ty92,
  List.forall_mem_cons.2 ⟨ty94,
  List.forall_mem_cons.2 ⟨ty95,
  List.forall_mem_cons.2 ⟨ty97,
  List.forall_mem_cons.2 ⟨ty98,
  List.forall_mem_cons.2 ⟨ty99,
  List.forall_mem_cons.2 ⟨ty100,
  List.forall_mem_cons.2 ⟨ty106,
  List.forall_mem_cons.2 ⟨ty109,
  List.forall_mem_cons.2 ⟨ty110,
  (fun _ h => by cases h)⟩⟩⟩⟩⟩⟩⟩⟩⟩⟩⟩⟩⟩⟩⟩⟩⟩⟩⟩⟩⟩⟩⟩⟩⟩⟩⟩⟩⟩⟩⟩⟩⟩⟩⟩⟩⟩⟩⟩⟩⟩⟩⟩⟩⟩⟩⟩⟩⟩⟩⟩⟩⟩⟩⟩⟩⟩⟩⟩⟩⟩⟩⟩⟩⟩⟩⟩⟩⟩⟩⟩⟩⟩⟩⟩⟩⟩⟩

noncomputable def fns : List (Nat × Func) := [(3, Try.f3), (4, Try.f4), (5, Try.f5), (6, Try.f6), (7, Try.f7), (8, Try.f8), (9, Try.f9), (10, Try.f10), (11, Try.f11), (12, Try.f12), (13, Try.f13), (14, Try.f14), (15, Try.f15), (16, Try.f16), (17, Try.f17), (18, Try.f18), (19, Try.f19), (20, Try.f20), (21, Try.f21), (22, Try.f22), (23, Try.f23), (24, Try.f24), (26, Try.f26), (27, Try.f27), (28, Try.f28), (29, Try.f29), (30, Try.f30), (31, Try.f31), (32, Try.f32), (35, Try.f35), (36, Try.f36), (37, Try.f37), (42, Try.f42), (43, Try.f43)]
theorem fns_ok : ∀ e ∈ fns, FnOk Try.prog e.1 e.2 :=
  List.forall_mem_cons.2 ⟨⟨Try.func3, by kernel_rfl, by kernel_rfl⟩,
  List.forall_mem_cons.2 ⟨⟨Try.func4, by kernel_rfl, by kernel_rfl⟩,
  List.forall_mem_cons.2 ⟨⟨Try.func5, by kernel_rfl, by kernel_rfl⟩,
  List.forall_mem_cons.2 ⟨⟨Try.func6, by kernel_rfl, by kernel_rfl⟩,
  List.forall_mem_cons.2 ⟨⟨Try.func7, by kernel_rfl, by kernel_rfl⟩,
  List.forall_mem_cons.2 ⟨⟨Try.func8, by kernel_rfl, by kernel_rfl⟩,
  List.forall_mem_cons.2 ⟨⟨Try.func9, by kernel_rfl, by kernel_rfl⟩,
  List.forall_mem_cons.2 ⟨⟨Try.func10, by kernel_rfl, by kernel_rfl⟩,
  List.forall_mem_cons.2 ⟨⟨Try.func11, by kernel_rfl, by kernel_rfl⟩,
  List.forall_mem_cons.2 ⟨⟨Try.func12, by kernel_rfl, by kernel_rfl⟩,
  List.forall_mem_cons.2 ⟨⟨Try.func13, by kernel_rfl, by kernel_rfl⟩,
  List.forall_mem_cons.2 ⟨⟨Try.func14, by kernel_rfl, by kernel_rfl⟩,
  List.forall_mem_cons.2 ⟨⟨Try.func15, by kernel_rfl, by kernel_rfl⟩,
  List.forall_mem_cons.2 ⟨⟨Try.func16, by kernel_rfl, by kernel_rfl⟩,
  List.forall_mem_cons.2 ⟨⟨Try.func17, by kernel_rfl, by kernel_rfl⟩,
  List.forall_mem_cons.2 ⟨⟨Try.func18, by kernel_rfl, by kernel_rfl⟩,
  List.forall_mem_cons.2 ⟨⟨Try.func19, by kernel_rfl, by kernel_rfl⟩,
  List.forall_mem_cons.2 ⟨⟨Try.func20, by kernel_rfl, by kernel_rfl⟩,
  List.forall_mem_cons.2 ⟨⟨Try.func21, by kernel_rfl, by kernel_rfl⟩,
  List.forall_mem_cons.2 ⟨⟨Try.func22, by kernel_rfl, by kernel_rfl⟩,
  List.forall_mem_cons.2 ⟨⟨Try.func23, by kernel_rfl, by kernel_rfl⟩,
  List.forall_mem_cons.2 ⟨⟨Try.func24, by kernel_rfl, by kernel_rfl⟩,
  List.forall_mem_cons.2 ⟨⟨Try.func26, by kernel_rfl, by kernel_rfl⟩,
  List.forall_mem_cons.2 ⟨⟨Try.func27, by kernel_rfl, by kernel_rfl⟩,
  List.forall_mem_cons.2 ⟨⟨Try.func28, by kernel_rfl, by kernel_rfl⟩,
  List.forall_mem_cons.2 ⟨⟨Try.func29, by kernel_rfl, by kernel_rfl⟩,
  List.forall_mem_cons.2 ⟨⟨Try.func30, by kernel_rfl, by kernel_rfl⟩,
  List.forall_mem_cons.2 ⟨⟨Try.func31, by kernel_rfl, by kernel_rfl⟩,
  List.forall_mem_cons.2 ⟨⟨Try.func32, by kernel_rfl, by kernel_rfl⟩,
  List.forall_mem_cons.2 ⟨⟨Try.func35, by kernel_rfl, by kernel_rfl⟩,
  List.forall_mem_cons.2 ⟨⟨Try.func36, by kernel_rfl, by kernel_rfl⟩,
  List.forall_mem_cons.2 ⟨⟨Try.func37, by kernel_rfl, by kernel_rfl⟩,
  List.forall_mem_cons.2 ⟨⟨Try.func42, by kernel_rfl, by kernel_rfl⟩,
  List.forall_mem_cons.2 ⟨⟨Try.func43, by kernel_rfl, by kernel_rfl⟩,
  (fun _ h => by cases h)⟩⟩⟩⟩⟩⟩⟩⟩⟩⟩⟩⟩⟩⟩⟩⟩⟩⟩⟩⟩⟩⟩⟩⟩⟩⟩⟩⟩⟩⟩⟩⟩⟩⟩

end Go.Proofs.Ytndnjjeildnhdaa.Sx
