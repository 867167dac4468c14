/- The tables of types and functions of this seat, as the reckoner takes them. -/
import Derived.Test.YtdkeiopcdajkpaaChecked
import Derived.Test.YtdkeiopcdajkpaaEa
import Derived.KernelRfl
set_option linter.unusedVariables false
namespace Go.Proofs.Ytdkeiopcdajkpaa.Sx

def tys : List (Nat × TI) := [
  (2, ⟨.int .i64, 1, [.int .i64 0]⟩),
  (3, ⟨.int .i64, 1, [.int .i64 0]⟩),
  (4, ⟨.bool, 1, [.bool false]⟩),
  (22, ⟨.struct #[⟨ "X", 3, 0, false, "", "", 0⟩, ⟨ "Y", 3, 1, false, "", "", 8⟩, ⟨ "Z", 3, 2, false, "", "", 16⟩], 3, [.int .i64 0, .int .i64 0, .int .i64 0]⟩),
  (23, ⟨.struct #[⟨ "X", 3, 0, false, "", "", 0⟩, ⟨ "Y", 3, 1, false, "", "", 8⟩, ⟨ "Z", 3, 2, false, "", "", 16⟩], 3, [.int .i64 0, .int .i64 0, .int .i64 0]⟩),
  (24, ⟨.struct #[⟨ "X", 3, 0, false, "", "", 0⟩, ⟨ "Y", 3, 1, false, "", "", 8⟩], 2, [.int .i64 0, .int .i64 0]⟩),
  (25, ⟨.struct #[⟨ "X", 3, 0, false, "", "", 0⟩, ⟨ "Y", 3, 1, false, "", "", 8⟩], 2, [.int .i64 0, .int .i64 0]⟩),
  (26, ⟨.int .i64, 1, [.int .i64 0]⟩),
  (37, ⟨.slice 3, 1, [.slice none 0 0]⟩),
  (43, ⟨.struct #[⟨ "Kind", 3, 0, false, "", "", 0⟩, ⟨ "At", 23, 1, false, "", "", 8⟩, ⟨ "Dir", 23, 4, false, "", "", 32⟩, ⟨ "Power", 3, 7, false, "", "", 56⟩, ⟨ "Cone", 3, 8, false, "", "", 64⟩], 9, [.int .i64 0, .int .i64 0, .int .i64 0, .int .i64 0, .int .i64 0, .int .i64 0, .int .i64 0, .int .i64 0, .int .i64 0]⟩),
  (44, ⟨.struct #[⟨ "Kind", 3, 0, false, "", "", 0⟩, ⟨ "At", 23, 1, false, "", "", 8⟩, ⟨ "Dir", 23, 4, false, "", "", 32⟩, ⟨ "Power", 3, 7, false, "", "", 56⟩, ⟨ "Cone", 3, 8, false, "", "", 64⟩], 9, [.int .i64 0, .int .i64 0, .int .i64 0, .int .i64 0, .int .i64 0, .int .i64 0, .int .i64 0, .int .i64 0, .int .i64 0]⟩),
  (58, ⟨.array 3 3, 3, [.int .i64 0, .int .i64 0, .int .i64 0]⟩),
  (59, ⟨.array 3 3, 3, [.int .i64 0, .int .i64 0, .int .i64 0]⟩),
  (65, ⟨.struct #[⟨ "t", 23, 0, false, "", "limewash/frame", 0⟩, ⟨ "b", 23, 3, false, "", "limewash/frame", 24⟩], 6, [.int .i64 0, .int .i64 0, .int .i64 0, .int .i64 0, .int .i64 0, .int .i64 0]⟩),
  (66, ⟨.struct #[⟨ "t", 23, 0, false, "", "limewash/frame", 0⟩, ⟨ "b", 23, 3, false, "", "limewash/frame", 24⟩], 6, [.int .i64 0, .int .i64 0, .int .i64 0, .int .i64 0, .int .i64 0, .int .i64 0]⟩),
  (67, ⟨.struct #[⟨ "cross", 66, 0, true, "", "limewash/frame", 0⟩, ⟨ "u", 23, 6, false, "", "limewash/frame", 48⟩], 9, [.int .i64 0, .int .i64 0, .int .i64 0, .int .i64 0, .int .i64 0, .int .i64 0, .int .i64 0, .int .i64 0, .int .i64 0]⟩),
  (68, ⟨.struct #[⟨ "cross", 66, 0, true, "", "limewash/frame", 0⟩, ⟨ "u", 23, 6, false, "", "limewash/frame", 48⟩], 9, [.int .i64 0, .int .i64 0, .int .i64 0, .int .i64 0, .int .i64 0, .int .i64 0, .int .i64 0, .int .i64 0, .int .i64 0]⟩),
  (75, ⟨.slice 23, 1, [.slice none 0 0]⟩),
  (80, ⟨.struct #[⟨ "Light", 44, 0, true, "", "", 0⟩, ⟨ "p", 23, 9, false, "", "limewash/light", 72⟩], 12, [.int .i64 0, .int .i64 0, .int .i64 0, .int .i64 0, .int .i64 0, .int .i64 0, .int .i64 0, .int .i64 0, .int .i64 0, .int .i64 0, .int .i64 0, .int .i64 0]⟩),
  (81, ⟨.struct #[⟨ "Light", 44, 0, true, "", "", 0⟩, ⟨ "p", 23, 9, false, "", "limewash/light", 72⟩], 12, [.int .i64 0, .int .i64 0, .int .i64 0, .int .i64 0, .int .i64 0, .int .i64 0, .int .i64 0, .int .i64 0, .int .i64 0, .int .i64 0, .int .i64 0, .int .i64 0]⟩),
  (82, ⟨.array 4 78, 4, [.nilFunc, .nilFunc, .nilFunc, .nilFunc]⟩),
  (84, ⟨.slice 44, 1, [.slice none 0 0]⟩),
  (104, ⟨.pointer 5, 1, [.pointer none]⟩)]

theorem ty2 : TyOk Try.prog 2 ⟨.int .i64, 1, [.int .i64 0]⟩ := ⟨by kernel_rfl, by kernel_rfl⟩
theorem ty3 : TyOk Try.prog 3 ⟨.int .i64, 1, [.int .i64 0]⟩ := ⟨by kernel_rfl, by kernel_rfl⟩
theorem ty4 : TyOk Try.prog 4 ⟨.bool, 1, [.bool false]⟩ := ⟨by kernel_rfl, by kernel_rfl⟩
theorem ty22 : TyOk Try.prog 22 ⟨.struct #[⟨ "X", 3, 0, false, "", "", 0⟩, ⟨ "Y", 3, 1, false, "", "", 8⟩, ⟨ "Z", 3, 2, false, "", "", 16⟩], 3, [.int .i64 0, .int .i64 0, .int .i64 0]⟩ := ⟨by kernel_rfl, by kernel_rfl⟩
theorem ty23 : TyOk Try.prog 23 ⟨.struct #[⟨ "X", 3, 0, false, "", "", 0⟩, ⟨ "Y", 3, 1, false, "", "", 8⟩, ⟨ "Z", 3, 2, false, "", "", 16⟩], 3, [.int .i64 0, .int .i64 0, .int .i64 0]⟩ := ⟨by kernel_rfl, by kernel_rfl⟩
theorem ty24 : TyOk Try.prog 24 ⟨.struct #[⟨ "X", 3, 0, false, "", "", 0⟩, ⟨ "Y", 3, 1, false, "", "", 8⟩], 2, [.int .i64 0, .int .i64 0]⟩ := ⟨by kernel_rfl, by kernel_rfl⟩
theorem ty25 : TyOk Try.prog 25 ⟨.struct #[⟨ "X", 3, 0, false, "", "", 0⟩, ⟨ "Y", 3, 1, false, "", "", 8⟩], 2, [.int .i64 0, .int .i64 0]⟩ := ⟨by kernel_rfl, by kernel_rfl⟩
theorem ty26 : TyOk Try.prog 26 ⟨.int .i64, 1, [.int .i64 0]⟩ := ⟨by kernel_rfl, by kernel_rfl⟩
theorem ty37 : TyOk Try.prog 37 ⟨.slice 3, 1, [.slice none 0 0]⟩ := ⟨by kernel_rfl, by kernel_rfl⟩
theorem ty43 : TyOk Try.prog 43 ⟨.struct #[⟨ "Kind", 3, 0, false, "", "", 0⟩, ⟨ "At", 23, 1, false, "", "", 8⟩, ⟨ "Dir", 23, 4, false, "", "", 32⟩, ⟨ "Power", 3, 7, false, "", "", 56⟩, ⟨ "Cone", 3, 8, false, "", "", 64⟩], 9, [.int .i64 0, .int .i64 0, .int .i64 0, .int .i64 0, .int .i64 0, .int .i64 0, .int .i64 0, .int .i64 0, .int .i64 0]⟩ := ⟨by kernel_rfl, by kernel_rfl⟩
theorem ty44 : TyOk Try.prog 44 ⟨.struct #[⟨ "Kind", 3, 0, false, "", "", 0⟩, ⟨ "At", 23, 1, false, "", "", 8⟩, ⟨ "Dir", 23, 4, false, "", "", 32⟩, ⟨ "Power", 3, 7, false, "", "", 56⟩, ⟨ "Cone", 3, 8, false, "", "", 64⟩], 9, [.int .i64 0, .int .i64 0, .int .i64 0, .int .i64 0, .int .i64 0, .int .i64 0, .int .i64 0, .int .i64 0, .int .i64 0]⟩ := ⟨by kernel_rfl, by kernel_rfl⟩
theorem ty58 : TyOk Try.prog 58 ⟨.array 3 3, 3, [.int .i64 0, .int .i64 0, .int .i64 0]⟩ := ⟨by kernel_rfl, by kernel_rfl⟩
theorem ty59 : TyOk Try.prog 59 ⟨.array 3 3, 3, [.int .i64 0, .int .i64 0, .int .i64 0]⟩ := ⟨by kernel_rfl, by kernel_rfl⟩
theorem ty65 : TyOk Try.prog 65 ⟨.struct #[⟨ "t", 23, 0, false, "", "limewash/frame", 0⟩, ⟨ "b", 23, 3, false, "", "limewash/frame", 24⟩], 6, [.int .i64 0, .int .i64 0, .int .i64 0, .int .i64 0, .int .i64 0, .int .i64 0]⟩ := ⟨by kernel_rfl, by kernel_rfl⟩
theorem ty66 : TyOk Try.prog 66 ⟨.struct #[⟨ "t", 23, 0, false, "", "limewash/frame", 0⟩, ⟨ "b", 23, 3, false, "", "limewash/frame", 24⟩], 6, [.int .i64 0, .int .i64 0, .int .i64 0, .int .i64 0, .int .i64 0, .int .i64 0]⟩ := ⟨by kernel_rfl, by kernel_rfl⟩
theorem ty67 : TyOk Try.prog 67 ⟨.struct #[⟨ "cross", 66, 0, true, "", "limewash/frame", 0⟩, ⟨ "u", 23, 6, false, "", "limewash/frame", 48⟩], 9, [.int .i64 0, .int .i64 0, .int .i64 0, .int .i64 0, .int .i64 0, .int .i64 0, .int .i64 0, .int .i64 0, .int .i64 0]⟩ := ⟨by kernel_rfl, by kernel_rfl⟩
theorem ty68 : TyOk Try.prog 68 ⟨.struct #[⟨ "cross", 66, 0, true, "", "limewash/frame", 0⟩, ⟨ "u", 23, 6, false, "", "limewash/frame", 48⟩], 9, [.int .i64 0, .int .i64 0, .int .i64 0, .int .i64 0, .int .i64 0, .int .i64 0, .int .i64 0, .int .i64 0, .int .i64 0]⟩ := ⟨by kernel_rfl, by kernel_rfl⟩
theorem ty75 : TyOk Try.prog 75 ⟨.slice 23, 1, [.slice none 0 0]⟩ := ⟨by kernel_rfl, by kernel_rfl⟩
theorem ty80 : TyOk Try.prog 80 ⟨.struct #[⟨ "Light", 44, 0, true, "", "", 0⟩, ⟨ "p", 23, 9, false, "", "limewash/light", 72⟩], 12, [.int .i64 0, .int .i64 0, .int .i64 0, .int .i64 0, .int .i64 0, .int .i64 0, .int .i64 0, .int .i64 0, .int .i64 0, .int .i64 0, .int .i64 0, .int .i64 0]⟩ := ⟨by kernel_rfl, by kernel_rfl⟩
theorem ty81 : TyOk Try.prog 81 ⟨.struct #[⟨ "Light", 44, 0, true, "", "", 0⟩, ⟨ "p", 23, 9, false, "", "limewash/light", 72⟩], 12, [.int .i64 0, .int .i64 0, .int .i64 0, .int .i64 0, .int .i64 0, .int .i64 0, .int .i64 0, .int .i64 0, .int .i64 0, .int .i64 0, .int .i64 0, .int .i64 0]⟩ := ⟨by kernel_rfl, by kernel_rfl⟩
theorem ty82 : TyOk Try.prog 82 ⟨.array 4 78, 4, [.nilFunc, .nilFunc, .nilFunc, .nilFunc]⟩ := ⟨by kernel_rfl, by kernel_rfl⟩
theorem ty84 : TyOk Try.prog 84 ⟨.slice 44, 1, [.slice none 0 0]⟩ := ⟨by kernel_rfl, by kernel_rfl⟩
theorem ty104 : TyOk Try.prog 104 ⟨.pointer 5, 1, [.pointer none]⟩ := ⟨by kernel_rfl, by kernel_rfl⟩
theorem tys_ok : ∀ e ∈ tys, TyOk Try.prog e.1 e.2 :=
  List.forall_mem_cons.2 ⟨ty2,
  List.forall_mem_cons.2 ⟨ty3,
  List.forall_mem_cons.2 ⟨ty4,
  List.forall_mem_cons.2 ⟨ty22,
  List.forall_mem_cons.2 ⟨ty23,
  List.forall_mem_cons.2 ⟨ty24,
  List.forall_mem_cons.2 ⟨ty25,
  List.forall_mem_cons.2 ⟨ty26,
  List.forall_mem_cons.2 ⟨ty37,
  List.forall_mem_cons.2 ⟨ty43,
  List.forall_mem_cons.2 ⟨ty44,
  List.forall_mem_cons.2 ⟨ty58,
  List.forall_mem_cons.2 ⟨ty59,
  List.forall_mem_cons.2 ⟨ty65,
  List.forall_mem_cons.2 ⟨ty66,
  List.forall_mem_cons.2 ⟨ty67,
  List.forall_mem_cons.2 ⟨ty68,
  List.forall_mem_cons.2 ⟨ty75,
  List.forall_mem_cons.2 ⟨ty80,
  List.forall_mem_cons.2 ⟨ty81,
  List.forall_mem_cons.2 ⟨ty82,
  List.forall_mem_cons.2 ⟨ty84,
  List.forall_mem_cons.2 ⟨ty104,
  (fun _ h => by cases h)⟩⟩⟩⟩⟩⟩⟩⟩⟩⟩⟩⟩⟩⟩⟩⟩⟩⟩⟩⟩⟩⟩⟩

noncomputable def fns : List (Nat × Func) := [(3, Try.f3), (4, Try.f4), (5, Try.f5), (6, Try.f6), (7, Try.f7), (8, Try.f8), (9, Try.f9), (10, Try.f10), (11, Try.f11), (12, Try.f12), (13, Try.f13), (14, Try.f14), (15, Try.f15), (16, Try.f16), (17, Try.f17), (18, Try.f18), (19, Try.f19), (20, Try.f20), (21, Try.f21), (22, Try.f22), (23, Try.f23), (24, Try.f24), (25, Try.f25), (26, Try.f26), (27, Try.f27), (28, Try.f28), (29, Try.f29), (30, Try.f30), (31, Try.f31), (32, Try.f32), (33, Try.f33), (34, Try.f34), (35, Try.f35), (36, Try.f36), (37, Try.f37), (38, Try.f38), (39, Try.f39), (40, Try.f40), (41, Try.f41), (42, Try.f42), (43, Try.f43), (44, Try.f44), (45, Try.f45), (46, Try.f46), (47, Try.f47), (48, Try.f48), (49, Try.f49), (50, Try.f50), (51, Try.f51), (52, Try.f52), (53, Try.f53), (54, Try.f54), (55, Try.f55), (56, Try.f56), (57, Try.f57), (58, Try.f58), (59, Try.f59), (60, Try.f60), (61, Try.f61), (62, Try.f62), (63, Try.f63), (64, Try.f64), (65, Try.f65), (66, Try.f66), (67, Try.f67), (68, Try.f68), (69, Try.f69), (70, Try.f70), (71, Try.f71), (72, Try.f72), (73, Try.f73), (74, Try.f74), (75, Try.f75), (76, Try.f76), (77, Try.f77), (78, Try.f78)]
theorem fns_ok : ∀ e ∈ fns, FnOk Try.prog e.1 e.2 :=
  List.forall_mem_cons.2 ⟨⟨Try.func3, by kernel_rfl, by kernel_rfl⟩,
  List.forall_mem_cons.2 ⟨⟨Try.func4, by kernel_rfl, by kernel_rfl⟩,
  List.forall_mem_cons.2 ⟨⟨Try.func5, by kernel_rfl, by kernel_rfl⟩,
  List.forall_mem_cons.2 ⟨⟨Try.func6, by kernel_rfl, by kernel_rfl⟩,
  List.forall_mem_cons.2 ⟨⟨Try.func7, by kernel_rfl, by kernel_rfl⟩,
  List.forall_mem_cons.2 ⟨⟨Try.func8, by kernel_rfl, by kernel_rfl⟩,
  List.forall_mem_cons.2 ⟨⟨Try.func9, by kernel_rfl, by kernel_rfl⟩,
  List.forall_mem_cons.2 ⟨⟨Try.func10, by kernel_rfl, by kernel_rfl⟩,
  List.forall_mem_cons.2 ⟨⟨Try.func11, by kernel_rfl, by kernel_rfl⟩,
  List.forall_mem_cons.2 ⟨⟨Try.func12, by kernel_rfl, by kernel_rfl⟩,
  List.forall_mem_cons.2 ⟨⟨Try.func13, by kernel_rfl, by kernel_rfl⟩,
  List.forall_mem_cons.2 ⟨⟨Try.func14, by kernel_rfl, by kernel_rfl⟩,
  List.forall_mem_cons.2 ⟨⟨Try.func15, by kernel_rfl, by kernel_rfl⟩,
  List.forall_mem_cons.2 ⟨⟨Try.func16, by kernel_rfl, by kernel_rfl⟩,
  List.forall_mem_cons.2 ⟨⟨Try.func17, by kernel_rfl, by kernel_rfl⟩,
  List.forall_mem_cons.2 ⟨⟨Try.func18, by kernel_rfl, by kernel_rfl⟩,
  List.forall_mem_cons.2 ⟨⟨Try.func19, by kernel_rfl, by kernel_rfl⟩,
  List.forall_mem_cons.2 ⟨⟨Try.func20, by kernel_rfl, by kernel_rfl⟩,
  List.forall_mem_cons.2 ⟨⟨Try.func21, by kernel_rfl, by kernel_rfl⟩,
  List.forall_mem_cons.2 ⟨⟨Try.func22, by kernel_rfl, by kernel_rfl⟩,
  List.forall_mem_cons.2 ⟨⟨Try.func23, by kernel_rfl, by kernel_rfl⟩,
  List.forall_mem_cons.2 ⟨⟨Try.func24, by kernel_rfl, by kernel_rfl⟩,
  List.forall_mem_cons.2 ⟨⟨Try.func25, by kernel_rfl, by kernel_rfl⟩,
  List.forall_mem_cons.2 ⟨⟨Try.func26, by kernel_rfl, by kernel_rfl⟩,
  List.forall_mem_cons.2 ⟨⟨Try.func27, by kernel_rfl, by kernel_rfl⟩,
  List.forall_mem_cons.2 ⟨⟨Try.func28, by kernel_rfl, by kernel_rfl⟩,
  List.forall_mem_cons.2 ⟨⟨Try.func29, by kernel_rfl, by kernel_rfl⟩,
  List.forall_mem_cons.2 ⟨⟨Try.func30, by kernel_rfl, by kernel_rfl⟩,
  List.forall_mem_cons.2 ⟨⟨Try.func31, by kernel_rfl, by kernel_rfl⟩,
  List.forall_mem_cons.2 ⟨⟨Try.func32, by kernel_rfl, by kernel_rfl⟩,
  List.forall_mem_cons.2 ⟨⟨Try.func33, by kernel_rfl, by kernel_rfl⟩,
  List.forall_mem_cons.2 ⟨⟨Try.func34, by kernel_rfl, by kernel_rfl⟩,
  List.forall_mem_cons.2 ⟨⟨Try.func35, by kernel_rfl, by kernel_rfl⟩,
  List.forall_mem_cons.2 ⟨⟨Try.func36, by kernel_rfl, by kernel_rfl⟩,
  List.forall_mem_cons.2 ⟨⟨Try.func37, by kernel_rfl, by kernel_rfl⟩,
  List.forall_mem_cons.2 ⟨⟨Try.func38, by kernel_rfl, by kernel_rfl⟩,
  List.forall_mem_cons.2 ⟨⟨Try.func39, by kernel_rfl, by kernel_rfl⟩,
  List.forall_mem_cons.2 ⟨⟨Try.func40, by kernel_rfl, by kernel_rfl⟩,
  List.forall_mem_cons.2 ⟨⟨Try.func41, by kernel_rfl, by kernel_rfl⟩,
  List.forall_mem_cons.2 ⟨⟨Try.func42, by kernel_rfl, by kernel_rfl⟩,
  List.forall_mem_cons.2 ⟨⟨Try.func43, by kernel_rfl, by kernel_rfl⟩,
  List.forall_mem_cons.2 ⟨⟨Try.func44, by kernel_rfl, by kernel_rfl⟩,
  List.forall_mem_cons.2 ⟨⟨Try.func45, by kernel_rfl, by kernel_rfl⟩,
  List.forall_mem_cons.2 ⟨⟨Try.func46, by kernel_rfl, by kernel_rfl⟩,
  List.forall_mem_cons.2 ⟨⟨Try.func47, by kernel_rfl, by kernel_rfl⟩,
  List.forall_mem_cons.2 ⟨⟨Try.func48, by kernel_rfl, by kernel_rfl⟩,
  List.forall_mem_cons.2 ⟨⟨Try.func49, by kernel_rfl, by kernel_rfl⟩,
  List.forall_mem_cons.2 ⟨⟨Try.func50, by kernel_rfl, by kernel_rfl⟩,
  List.forall_mem_cons.2 ⟨⟨Try.func51, by kernel_rfl, by kernel_rfl⟩,
  List.forall_mem_cons.2 ⟨⟨Try.func52, by kernel_rfl, by kernel_rfl⟩,
  List.forall_mem_cons.2 ⟨⟨Try.func53, by kernel_rfl, by kernel_rfl⟩,
  List.forall_mem_cons.2 ⟨⟨Try.func54, by kernel_rfl, by kernel_rfl⟩,
  List.forall_mem_cons.2 ⟨⟨Try.func55, by kernel_rfl, by kernel_rfl⟩,
  List.forall_mem_cons.2 ⟨⟨Try.func56, by kernel_rfl, by kernel_rfl⟩,
  List.forall_mem_cons.2 ⟨⟨Try.func57, by kernel_rfl, by kernel_rfl⟩,
  List.forall_mem_cons.2 ⟨⟨Try.func58, by kernel_rfl, by kernel_rfl⟩,
  List.forall_mem_cons.2 ⟨⟨Try.func59, by kernel_rfl, by kernel_rfl⟩,
  List.forall_mem_cons.2 ⟨⟨Try.func60, by kernel_rfl, by kernel_rfl⟩,
  List.forall_mem_cons.2 ⟨⟨Try.func61, by kernel_rfl, by kernel_rfl⟩,
  List.forall_mem_cons.2 ⟨⟨Try.func62, by kernel_rfl, by kernel_rfl⟩,
  List.forall_mem_cons.2 ⟨⟨Try.func63, by kernel_rfl, by kernel_rfl⟩,
  List.forall_mem_cons.2 ⟨⟨Try.func64, by kernel_rfl, by kernel_rfl⟩,
  List.forall_mem_cons.2 ⟨⟨Try.func65, by kernel_rfl, by kernel_rfl⟩,
  List.forall_mem_cons.2 ⟨⟨Try.func66, by kernel_rfl, by kernel_rfl⟩,
  List.forall_mem_cons.2 ⟨⟨Try.func67, by kernel_rfl, by kernel_rfl⟩,
  List.forall_mem_cons.2 ⟨⟨Try.func68, by kernel_rfl, by kernel_rfl⟩,
  List.forall_mem_cons.2 ⟨⟨Try.func69, by kernel_rfl, by kernel_rfl⟩,
  List.forall_mem_cons.2 ⟨⟨Try.func70, by kernel_rfl, by kernel_rfl⟩,
  List.forall_mem_cons.2 ⟨⟨Try.func71, by kernel_rfl, by kernel_rfl⟩,
  List.forall_mem_cons.2 ⟨⟨Try.func72, by kernel_rfl, by kernel_rfl⟩,
  List.forall_mem_cons.2 ⟨⟨Try.func73, by kernel_rfl, by kernel_rfl⟩,
  List.forall_mem_cons.2 ⟨⟨Try.func74, by kernel_rfl, by kernel_rfl⟩,
  List.forall_mem_cons.2 ⟨⟨Try.func75, by kernel_rfl, by kernel_rfl⟩,
  List.forall_mem_cons.2 ⟨⟨Try.func76, by kernel_rfl, by kernel_rfl⟩,
  List.forall_mem_cons.2 ⟨⟨Try.func77, by kernel_rfl, by kernel_rfl⟩,
  List.forall_mem_cons.2 ⟨⟨Try.func78, by kernel_rfl, by kernel_rfl⟩,
  (fun _ h => by cases h)⟩⟩⟩⟩⟩⟩⟩⟩⟩⟩⟩⟩⟩⟩⟩⟩⟩⟩⟩⟩⟩⟩⟩⟩⟩⟩⟩⟩⟩⟩⟩⟩⟩⟩⟩⟩⟩⟩⟩⟩⟩⟩⟩⟩⟩⟩⟩⟩⟩⟩⟩⟩⟩⟩⟩⟩⟩⟩⟩⟩⟩⟩⟩⟩⟩⟩⟩⟩⟩⟩⟩⟩⟩⟩⟩⟩

end Go.Proofs.Ytdkeiopcdajkpaa.Sx
