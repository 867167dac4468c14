/- The tables of types and functions of this seat, as the reckoner takes them. -/
import Derived.Test.YtfkgjpdipdllhaaChecked
import Derived.Test.YtfkgjpdipdllhaaEa
import Derived.KernelRfl
set_option linter.unusedVariables false
namespace Go.Proofs.Ytfkgjpdipdllhaa.Sx

def tys : List (Nat × TI) := [
  (1, ⟨.func #[] #[] false, 1, [.nilFunc]⟩),
  (2, ⟨.int .i64, 1, [.int .i64 0]⟩),
  (3, ⟨.int .i64, 1, [.int .i64 0]⟩),
  (4, ⟨.bool, 1, [.bool false]⟩),
  (22, ⟨.slice 36, 1, [.slice none 0 0]⟩),
  (23, ⟨.struct #[⟨ "X", 3, 0, false, "", "", 0⟩, ⟨ "Y", 3, 1, false, "", "", 8⟩], 2, [.int .i64 0, .int .i64 0]⟩),
  (24, ⟨.struct #[⟨ "X", 3, 0, false, "", "", 0⟩, ⟨ "Y", 3, 1, false, "", "", 8⟩], 2, [.int .i64 0, .int .i64 0]⟩),
  (25, ⟨.slice 3, 1, [.slice none 0 0]⟩),
  (26, ⟨.func #[25] #[25] false, 1, [.nilFunc]⟩),
  (27, ⟨.int .i64, 1, [.int .i64 0]⟩),
  (29, ⟨.func #[3, 3, 22] #[25, 27] true, 1, [.nilFunc]⟩),
  (30, ⟨.func #[3, 3, 22] #[25, 27] false, 1, [.nilFunc]⟩),
  (32, ⟨.func #[24] #[3, 3, 27] false, 1, [.nilFunc]⟩),
  (33, ⟨.func #[25, 25] #[4] false, 1, [.nilFunc]⟩),
  (35, ⟨.func #[3, 3, 36] #[4, 27] false, 1, [.nilFunc]⟩),
  (36, ⟨.array 3 24, 6, [.int .i64 0, .int .i64 0, .int .i64 0, .int .i64 0, .int .i64 0, .int .i64 0]⟩),
  (37, ⟨.func #[] #[4] false, 1, [.nilFunc]⟩),
  (38, ⟨.func #[3, 3, 22, 3, 3, 24, 25] #[4] false, 1, [.nilFunc]⟩),
  (39, ⟨.func #[3, 3, 22] #[4] false, 1, [.nilFunc]⟩),
  (40, ⟨.func #[36] #[4] false, 1, [.nilFunc]⟩),
  (41, ⟨.func #[3, 3, 36] #[4] false, 1, [.nilFunc]⟩),
  (42, ⟨.func #[3, 3, 22, 36] #[4] false, 1, [.nilFunc]⟩),
  (44, ⟨.func #[24, 36] #[3, 27] false, 1, [.nilFunc]⟩),
  (45, ⟨.func #[3, 3, 22, 24] #[4] false, 1, [.nilFunc]⟩),
  (46, ⟨.func #[24] #[4] false, 1, [.nilFunc]⟩),
  (47, ⟨.func #[48, 46] #[4] false, 1, [.nilFunc]⟩),
  (48, ⟨.slice 24, 1, [.slice none 0 0]⟩),
  (49, ⟨.func #[25, 3] #[25] false, 1, [.nilFunc]⟩),
  (50, ⟨.func #[65] #[] false, 1, [.nilFunc]⟩),
  (51, ⟨.func #[65] #[] false, 1, [.nilFunc]⟩),
  (52, ⟨.func #[36] #[51] false, 1, [.nilFunc]⟩),
  (54, ⟨.func #[24, 3, 36] #[4, 27] false, 1, [.nilFunc]⟩),
  (55, ⟨.func #[24, 24, 24] #[3, 27] false, 1, [.nilFunc]⟩),
  (56, ⟨.func #[48] #[4] true, 1, [.nilFunc]⟩),
  (57, ⟨.func #[71] #[] false, 1, [.nilFunc]⟩),
  (58, ⟨.func #[71] #[] false, 1, [.nilFunc]⟩),
  (59, ⟨.func #[36] #[58] false, 1, [.nilFunc]⟩),
  (60, ⟨.func #[24] #[3] false, 1, [.nilFunc]⟩),
  (61, ⟨.func #[48, 46] #[3] false, 1, [.nilFunc]⟩),
  (64, ⟨.func #[62, 62] #[62, 62] false, 1, [.nilFunc]⟩),
  (65, ⟨.func #[3, 3] #[4] false, 1, [.nilFunc]⟩),
  (66, ⟨.func #[36, 3, 48] #[4] true, 1, [.nilFunc]⟩),
  (67, ⟨.func #[36, 48, 4] #[4] false, 1, [.nilFunc]⟩),
  (68, ⟨.array 3 24, 6, [.int .i64 0, .int .i64 0, .int .i64 0, .int .i64 0, .int .i64 0, .int .i64 0]⟩),
  (69, ⟨.func #[] #[3, 27] false, 1, [.nilFunc]⟩),
  (70, ⟨.func #[3, 25] #[4] true, 1, [.nilFunc]⟩),
  (71, ⟨.func #[60] #[4] false, 1, [.nilFunc]⟩),
  (74, ⟨.func #[72, 72] #[72, 72] false, 1, [.nilFunc]⟩),
  (77, ⟨.func #[75, 75] #[75, 75] false, 1, [.nilFunc]⟩),
  (78, ⟨.func #[24, 24] #[3, 27] false, 1, [.nilFunc]⟩),
  (79, ⟨.func #[24, 24] #[24] false, 1, [.nilFunc]⟩),
  (80, ⟨.func #[36, 3, 48] #[3] false, 1, [.nilFunc]⟩),
  (81, ⟨.func #[3, 3] #[3] false, 1, [.nilFunc]⟩),
  (82, ⟨.func #[36, 3, 24] #[3] false, 1, [.nilFunc]⟩),
  (83, ⟨.func #[3] #[4] false, 1, [.nilFunc]⟩),
  (84, ⟨.func #[25] #[4] true, 1, [.nilFunc]⟩),
  (85, ⟨.func #[3] #[3] false, 1, [.nilFunc]⟩),
  (86, ⟨.func #[] #[9] false, 1, [.nilFunc]⟩),
  (92, ⟨.func #[] #[3] false, 1, [.nilFunc]⟩),
  (95, ⟨.func #[101, 101] #[4] false, 1, [.nilFunc]⟩),
  (96, ⟨.pointer 5, 1, [.pointer none]⟩)]

theorem ty1 : TyOk Try.prog 1 ⟨.func #[] #[] false, 1, [.nilFunc]⟩ := ⟨by kernel_rfl, by kernel_rfl⟩
theorem ty2 : TyOk Try.prog 2 ⟨.int .i64, 1, [.int .i64 0]⟩ := ⟨by kernel_rfl, by kernel_rfl⟩
theorem ty3 : TyOk Try.prog 3 ⟨.int .i64, 1, [.int .i64 0]⟩ := ⟨by kernel_rfl, by kernel_rfl⟩
theorem ty4 : TyOk Try.prog 4 ⟨.bool, 1, [.bool false]⟩ := ⟨by kernel_rfl, by kernel_rfl⟩
theorem ty22 : TyOk Try.prog 22 ⟨.slice 36, 1, [.slice none 0 0]⟩ := ⟨by kernel_rfl, by kernel_rfl⟩
theorem ty23 : TyOk Try.prog 23 ⟨.struct #[⟨ "X", 3, 0, false, "", "", 0⟩, ⟨ "Y", 3, 1, false, "", "", 8⟩], 2, [.int .i64 0, .int .i64 0]⟩ := ⟨by kernel_rfl, by kernel_rfl⟩
theorem ty24 : TyOk Try.prog 24 ⟨.struct #[⟨ "X", 3, 0, false, "", "", 0⟩, ⟨ "Y", 3, 1, false, "", "", 8⟩], 2, [.int .i64 0, .int .i64 0]⟩ := ⟨by kernel_rfl, by kernel_rfl⟩
theorem ty25 : TyOk Try.prog 25 ⟨.slice 3, 1, [.slice none 0 0]⟩ := ⟨by kernel_rfl, by kernel_rfl⟩
theorem ty26 : TyOk Try.prog 26 ⟨.func #[25] #[25] false, 1, [.nilFunc]⟩ := ⟨by kernel_rfl, by kernel_rfl⟩
theorem ty27 : TyOk Try.prog 27 ⟨.int .i64, 1, [.int .i64 0]⟩ := ⟨by kernel_rfl, by kernel_rfl⟩
theorem ty29 : TyOk Try.prog 29 ⟨.func #[3, 3, 22] #[25, 27] true, 1, [.nilFunc]⟩ := ⟨by kernel_rfl, by kernel_rfl⟩
theorem ty30 : TyOk Try.prog 30 ⟨.func #[3, 3, 22] #[25, 27] false, 1, [.nilFunc]⟩ := ⟨by kernel_rfl, by kernel_rfl⟩
theorem ty32 : TyOk Try.prog 32 ⟨.func #[24] #[3, 3, 27] false, 1, [.nilFunc]⟩ := ⟨by kernel_rfl, by kernel_rfl⟩
theorem ty33 : TyOk Try.prog 33 ⟨.func #[25, 25] #[4] false, 1, [.nilFunc]⟩ := ⟨by kernel_rfl, by kernel_rfl⟩
theorem ty35 : TyOk Try.prog 35 ⟨.func #[3, 3, 36] #[4, 27] false, 1, [.nilFunc]⟩ := ⟨by kernel_rfl, by kernel_rfl⟩
theorem ty36 : TyOk Try.prog 36 ⟨.array 3 24, 6, [.int .i64 0, .int .i64 0, .int .i64 0, .int .i64 0, .int .i64 0, .int .i64 0]⟩ := ⟨by kernel_rfl, by kernel_rfl⟩
theorem ty37 : TyOk Try.prog 37 ⟨.func #[] #[4] false, 1, [.nilFunc]⟩ := ⟨by kernel_rfl, by kernel_rfl⟩
theorem ty38 : TyOk Try.prog 38 ⟨.func #[3, 3, 22, 3, 3, 24, 25] #[4] false, 1, [.nilFunc]⟩ := ⟨by kernel_rfl, by kernel_rfl⟩
theorem ty39 : TyOk Try.prog 39 ⟨.func #[3, 3, 22] #[4] false, 1, [.nilFunc]⟩ := ⟨by kernel_rfl, by kernel_rfl⟩
theorem ty40 : TyOk Try.prog 40 ⟨.func #[36] #[4] false, 1, [.nilFunc]⟩ := ⟨by kernel_rfl, by kernel_rfl⟩
theorem ty41 : TyOk Try.prog 41 ⟨.func #[3, 3, 36] #[4] false, 1, [.nilFunc]⟩ := ⟨by kernel_rfl, by kernel_rfl⟩
theorem ty42 : TyOk Try.prog 42 ⟨.func #[3, 3, 22, 36] #[4] false, 1, [.nilFunc]⟩ := ⟨by kernel_rfl, by kernel_rfl⟩
theorem ty44 : TyOk Try.prog 44 ⟨.func #[24, 36] #[3, 27] false, 1, [.nilFunc]⟩ := ⟨by kernel_rfl, by kernel_rfl⟩
theorem ty45 : TyOk Try.prog 45 ⟨.func #[3, 3, 22, 24] #[4] false, 1, [.nilFunc]⟩ := ⟨by kernel_rfl, by kernel_rfl⟩
theorem ty46 : TyOk Try.prog 46 ⟨.func #[24] #[4] false, 1, [.nilFunc]⟩ := ⟨by kernel_rfl, by kernel_rfl⟩
theorem ty47 : TyOk Try.prog 47 ⟨.func #[48, 46] #[4] false, 1, [.nilFunc]⟩ := ⟨by kernel_rfl, by kernel_rfl⟩
theorem ty48 : TyOk Try.prog 48 ⟨.slice 24, 1, [.slice none 0 0]⟩ := ⟨by kernel_rfl, by kernel_rfl⟩
theorem ty49 : TyOk Try.prog 49 ⟨.func #[25, 3] #[25] false, 1, [.nilFunc]⟩ := ⟨by kernel_rfl, by kernel_rfl⟩
theorem ty50 : TyOk Try.prog 50 ⟨.func #[65] #[] false, 1, [.nilFunc]⟩ := ⟨by kernel_rfl, by kernel_rfl⟩
theorem ty51 : TyOk Try.prog 51 ⟨.func #[65] #[] false, 1, [.nilFunc]⟩ := ⟨by kernel_rfl, by kernel_rfl⟩
theorem ty52 : TyOk Try.prog 52 ⟨.func #[36] #[51] false, 1, [.nilFunc]⟩ := ⟨by kernel_rfl, by kernel_rfl⟩
theorem ty54 : TyOk Try.prog 54 ⟨.func #[24, 3, 36] #[4, 27] false, 1, [.nilFunc]⟩ := ⟨by kernel_rfl, by kernel_rfl⟩
theorem ty55 : TyOk Try.prog 55 ⟨.func #[24, 24, 24] #[3, 27] false, 1, [.nilFunc]⟩ := ⟨by kernel_rfl, by kernel_rfl⟩
theorem ty56 : TyOk Try.prog 56 ⟨.func #[48] #[4] true, 1, [.nilFunc]⟩ := ⟨by kernel_rfl, by kernel_rfl⟩
theorem ty57 : TyOk Try.prog 57 ⟨.func #[71] #[] false, 1, [.nilFunc]⟩ := ⟨by kernel_rfl, by kernel_rfl⟩
theorem ty58 : TyOk Try.prog 58 ⟨.func #[71] #[] false, 1, [.nilFunc]⟩ := ⟨by kernel_rfl, by kernel_rfl⟩
theorem ty59 : TyOk Try.prog 59 ⟨.func #[36] #[58] false, 1, [.nilFunc]⟩ := ⟨by kernel_rfl, by kernel_rfl⟩
theorem ty60 : TyOk Try.prog 60 ⟨.func #[24] #[3] false, 1, [.nilFunc]⟩ := ⟨by kernel_rfl, by kernel_rfl⟩
theorem ty61 : TyOk Try.prog 61 ⟨.func #[48, 46] #[3] false, 1, [.nilFunc]⟩ := ⟨by kernel_rfl, by kernel_rfl⟩
theorem ty64 : TyOk Try.prog 64 ⟨.func #[62, 62] #[62, 62] false, 1, [.nilFunc]⟩ := ⟨by kernel_rfl, by kernel_rfl⟩
theorem ty65 : TyOk Try.prog 65 ⟨.func #[3, 3] #[4] false, 1, [.nilFunc]⟩ := ⟨by kernel_rfl, by kernel_rfl⟩
theorem ty66 : TyOk Try.prog 66 ⟨.func #[36, 3, 48] #[4] true, 1, [.nilFunc]⟩ := ⟨by kernel_rfl, by kernel_rfl⟩
theorem ty67 : TyOk Try.prog 67 ⟨.func #[36, 48, 4] #[4] false, 1, [.nilFunc]⟩ := ⟨by kernel_rfl, by kernel_rfl⟩
theorem ty68 : TyOk Try.prog 68 ⟨.array 3 24, 6, [.int .i64 0, .int .i64 0, .int .i64 0, .int .i64 0, .int .i64 0, .int .i64 0]⟩ := ⟨by kernel_rfl, by kernel_rfl⟩
theorem ty69 : TyOk Try.prog 69 ⟨.func #[] #[3, 27] false, 1, [.nilFunc]⟩ := ⟨by kernel_rfl, by kernel_rfl⟩
theorem ty70 : TyOk Try.prog 70 ⟨.func #[3, 25] #[4] true, 1, [.nilFunc]⟩ := ⟨by kernel_rfl, by kernel_rfl⟩
theorem ty71 : TyOk Try.prog 71 ⟨.func #[60] #[4] false, 1, [.nilFunc]⟩ := ⟨by kernel_rfl, by kernel_rfl⟩
theorem ty74 : TyOk Try.prog 74 ⟨.func #[72, 72] #[72, 72] false, 1, [.nilFunc]⟩ := ⟨by kernel_rfl, by kernel_rfl⟩
theorem ty77 : TyOk Try.prog 77 ⟨.func #[75, 75] #[75, 75] false, 1, [.nilFunc]⟩ := ⟨by kernel_rfl, by kernel_rfl⟩
theorem ty78 : TyOk Try.prog 78 ⟨.func #[24, 24] #[3, 27] false, 1, [.nilFunc]⟩ := ⟨by kernel_rfl, by kernel_rfl⟩
theorem ty79 : TyOk Try.prog 79 ⟨.func #[24, 24] #[24] false, 1, [.nilFunc]⟩ := ⟨by kernel_rfl, by kernel_rfl⟩
theorem ty80 : TyOk Try.prog 80 ⟨.func #[36, 3, 48] #[3] false, 1, [.nilFunc]⟩ := ⟨by kernel_rfl, by kernel_rfl⟩
theorem ty81 : TyOk Try.prog 81 ⟨.func #[3, 3] #[3] false, 1, [.nilFunc]⟩ := ⟨by kernel_rfl, by kernel_rfl⟩
theorem ty82 : TyOk Try.prog 82 ⟨.func #[36, 3, 24] #[3] false, 1, [.nilFunc]⟩ := ⟨by kernel_rfl, by kernel_rfl⟩
theorem ty83 : TyOk Try.prog 83 ⟨.func #[3] #[4] false, 1, [.nilFunc]⟩ := ⟨by kernel_rfl, by kernel_rfl⟩
theorem ty84 : TyOk Try.prog 84 ⟨.func #[25] #[4] true, 1, [.nilFunc]⟩ := ⟨by kernel_rfl, by kernel_rfl⟩
theorem ty85 : TyOk Try.prog 85 ⟨.func #[3] #[3] false, 1, [.nilFunc]⟩ := ⟨by kernel_rfl, by kernel_rfl⟩
theorem ty86 : TyOk Try.prog 86 ⟨.func #[] #[9] false, 1, [.nilFunc]⟩ := ⟨by kernel_rfl, by kernel_rfl⟩
theorem ty92 : TyOk Try.prog 92 ⟨.func #[] #[3] false, 1, [.nilFunc]⟩ := ⟨by kernel_rfl, by kernel_rfl⟩
theorem ty95 : TyOk Try.prog 95 ⟨.func #[101, 101] #[4] false, 1, [.nilFunc]⟩ := ⟨by kernel_rfl, by kernel_rfl⟩
theorem ty96 : TyOk Try.prog 96 ⟨.pointer 5, 1, [.pointer none]⟩ := ⟨by kernel_rfl, by kernel_rfl⟩
theorem tys_ok : ∀ e ∈ tys, TyOk Try.prog e.1 e.2 :=
  List.forall_mem_cons.2 ⟨ty1,
  List.forall_mem_cons.2 ⟨ty2,
  List.forall_mem_cons.2 ⟨ty3,
  List.forall_mem_cons.2 ⟨ty4,
  List.forall_mem_cons.2 ⟨ty22,
  List.forall_mem_cons.2 ⟨ty23,
  List.forall_mem_cons.2 ⟨ty24,
  List.forall_mem_cons.2 ⟨ty25,
  List.forall_mem_cons.2 ⟨ty26,
  List.forall_mem_cons.2 ⟨ty27,
  List.forall_mem_cons.2 ⟨ty29,
  List.forall_mem_cons.2 ⟨ty30,
  List.forall_mem_cons.2 ⟨ty32,
  List.forall_mem_cons.2 ⟨ty33,
  List.forall_mem_cons.2 ⟨ty35,
  List.forall_mem_cons.2 ⟨ty36,
  List.forall_mem_cons.2 ⟨ty37,
  List.forall_mem_cons.2 ⟨ty38,
  List.forall_mem_cons.2 ⟨ty39,
  List.forall_mem_cons.2 ⟨ty40,
  List.forall_mem_cons.2 ⟨ty41,
  List.forall_mem_cons.2 ⟨ty42,
  List.forall_mem_cons.2 ⟨ty44,
  List.forall_mem_cons.2 ⟨ty45,
  List.forall_mem_cons.2 ⟨ty46,
  List.forall_mem_cons.2 ⟨ty47,
  List.forall_mem_cons.2 ⟨ty48,
  List.forall_mem_cons.2 ⟨ty49,
  List.forall_mem_cons.2 ⟨ty50,
  List.forall_mem_cons.2 ⟨ty51,
  List.forall_mem_cons.2 ⟨ty52,
  List.forall_mem_cons.2 ⟨ty54,
  List.forall_mem_cons.2 ⟨ty55,
  List.forall_mem_cons.2 ⟨ty56,
  List.forall_mem_cons.2 ⟨ty57,
  List.forall_mem_cons.2 ⟨ty58,
  List.forall_mem_cons.2 ⟨ty59,
  List.forall_mem_cons.2 ⟨ty60,
  List.forall_mem_cons.2 ⟨ty61,
  List.forall_mem_cons.2 ⟨ty64,
  List.forall_mem_cons.2 ⟨ty65,
  List.forall_mem_cons.2 ⟨ty66,
  List.forall_mem_cons.2 ⟨ty67,
  List.forall_mem_cons.2 ⟨ty68,
  List.forall_mem_cons.2 ⟨ty69,
  List.forall_mem_cons.2 ⟨ty70,
  List.forall_mem_cons.2 ⟨ty71,
  List.forall_mem_cons.2 ⟨ty74,
  List.forall_mem_cons.2 ⟨ty77,
  List.forall_mem_cons.2 ⟨ty78,
  List.forall_mem_cons.2 ⟨ty79,
  List.forall_mem_cons.2 ⟨ty80,
  List.forall_mem_cons.2 ⟨ty81,
  List.forall_mem_cons.2 ⟨ty82,
  List.forall_mem_cons.2 ⟨ty83,
  List.forall_mem_cons.2 ⟨ty84,
  List.forall_mem_cons.2 ⟨ty85,
  List.forall_mem_cons.2 ⟨ty86,
  List.forall_mem_cons.2 ⟨ty92,
  List.forall_mem_cons.2 ⟨ty95,
  List.forall_mem_cons.2 ⟨ty96,
  (fun _ h => by cases h)⟩⟩⟩⟩⟩⟩⟩⟩⟩⟩⟩⟩⟩⟩⟩⟩⟩⟩⟩⟩⟩⟩⟩⟩⟩⟩⟩⟩⟩⟩⟩⟩⟩⟩⟩⟩⟩⟩⟩⟩⟩⟩⟩⟩⟩⟩⟩⟩⟩⟩⟩⟩⟩⟩⟩⟩⟩⟩⟩⟩⟩

noncomputable def fns : List (Nat × Func) := [(3, Try.f3), (4, Try.f4), (5, Try.f5), (6, Try.f6), (7, Try.f7), (8, Try.f8), (9, Try.f9), (10, Try.f10), (11, Try.f11), (12, Try.f12), (13, Try.f13), (14, Try.f14), (15, Try.f15), (16, Try.f16), (17, Try.f17), (18, Try.f18), (19, Try.f19), (20, Try.f20), (21, Try.f21), (22, Try.f22), (23, Try.f23), (24, Try.f24), (25, Try.f25), (26, Try.f26), (27, Try.f27), (28, Try.f28), (29, Try.f29), (30, Try.f30), (31, Try.f31), (32, Try.f32), (34, Try.f34), (35, Try.f35), (36, Try.f36), (37, Try.f37), (38, Try.f38), (39, Try.f39), (40, Try.f40), (41, Try.f41), (42, Try.f42), (43, Try.f43), (46, Try.f46), (47, Try.f47), (48, Try.f48), (49, Try.f49), (50, Try.f50), (51, Try.f51), (52, Try.f52), (53, Try.f53), (54, Try.f54), (55, Try.f55), (56, Try.f56), (57, Try.f57), (58, Try.f58), (59, Try.f59)]
theorem fns_ok : ∀ e ∈ fns, FnOk Try.prog e.1 e.2 :=
  List.forall_mem_cons.2 ⟨⟨Try.func3, by kernel_rfl, by kernel_rfl⟩,
  List.forall_mem_cons.2 ⟨⟨Try.func4, by kernel_rfl, by kernel_rfl⟩,
  List.forall_mem_cons.2 ⟨⟨Try.func5, by kernel_rfl, by kernel_rfl⟩,
  List.forall_mem_cons.2 ⟨⟨Try.func6, by kernel_rfl, by kernel_rfl⟩,
  List.forall_mem_cons.2 ⟨⟨Try.func7, by kernel_rfl, by kernel_rfl⟩,
  List.forall_mem_cons.2 ⟨⟨Try.func8, by kernel_rfl, by kernel_rfl⟩,
  List.forall_mem_cons.2 ⟨⟨Try.func9, by kernel_rfl, by kernel_rfl⟩,
  List.forall_mem_cons.2 ⟨⟨Try.func10, by kernel_rfl, by kernel_rfl⟩,
  List.forall_mem_cons.2 ⟨⟨Try.func11, by kernel_rfl, by kernel_rfl⟩,
  List.forall_mem_cons.2 ⟨⟨Try.func12, by kernel_rfl, by kernel_rfl⟩,
  List.forall_mem_cons.2 ⟨⟨Try.func13, by kernel_rfl, by kernel_rfl⟩,
  List.forall_mem_cons.2 ⟨⟨Try.func14, by kernel_rfl, by kernel_rfl⟩,
  List.forall_mem_cons.2 ⟨⟨Try.func15, by kernel_rfl, by kernel_rfl⟩,
  List.forall_mem_cons.2 ⟨⟨Try.func16, by kernel_rfl, by kernel_rfl⟩,
  List.forall_mem_cons.2 ⟨⟨Try.func17, by kernel_rfl, by kernel_rfl⟩,
  List.forall_mem_cons.2 ⟨⟨Try.func18, by kernel_rfl, by kernel_rfl⟩,
  List.forall_mem_cons.2 ⟨⟨Try.func19, by kernel_rfl, by kernel_rfl⟩,
  List.forall_mem_cons.2 ⟨⟨Try.func20, by kernel_rfl, by kernel_rfl⟩,
  List.forall_mem_cons.2 ⟨⟨Try.func21, by kernel_rfl, by kernel_rfl⟩,
  List.forall_mem_cons.2 ⟨⟨Try.func22, by kernel_rfl, by kernel_rfl⟩,
  List.forall_mem_cons.2 ⟨⟨Try.func23, by kernel_rfl, by kernel_rfl⟩,
  List.forall_mem_cons.2 ⟨⟨Try.func24, by kernel_rfl, by kernel_rfl⟩,
  List.forall_mem_cons.2 ⟨⟨Try.func25, by kernel_rfl, by kernel_rfl⟩,
  List.forall_mem_cons.2 ⟨⟨Try.func26, by kernel_rfl, by kernel_rfl⟩,
  List.forall_mem_cons.2 ⟨⟨Try.func27, by kernel_rfl, by kernel_rfl⟩,
  List.forall_mem_cons.2 ⟨⟨Try.func28, by kernel_rfl, by kernel_rfl⟩,
  List.forall_mem_cons.2 ⟨⟨Try.func29, by kernel_rfl, by kernel_rfl⟩,
  List.forall_mem_cons.2 ⟨⟨Try.func30, by kernel_rfl, by kernel_rfl⟩,
  List.forall_mem_cons.2 ⟨⟨Try.func31, by kernel_rfl, by kernel_rfl⟩,
  List.forall_mem_cons.2 ⟨⟨Try.func32, by kernel_rfl, by kernel_rfl⟩,
  List.forall_mem_cons.2 ⟨⟨Try.func34, by kernel_rfl, by kernel_rfl⟩,
  List.forall_mem_cons.2 ⟨⟨Try.func35, by kernel_rfl, by kernel_rfl⟩,
  List.forall_mem_cons.2 ⟨⟨Try.func36, by kernel_rfl, by kernel_rfl⟩,
  List.forall_mem_cons.2 ⟨⟨Try.func37, by kernel_rfl, by kernel_rfl⟩,
  List.forall_mem_cons.2 ⟨⟨Try.func38, by kernel_rfl, by kernel_rfl⟩,
  List.forall_mem_cons.2 ⟨⟨Try.func39, by kernel_rfl, by kernel_rfl⟩,
  List.forall_mem_cons.2 ⟨⟨Try.func40, by kernel_rfl, by kernel_rfl⟩,
  List.forall_mem_cons.2 ⟨⟨Try.func41, by kernel_rfl, by kernel_rfl⟩,
  List.forall_mem_cons.2 ⟨⟨Try.func42, by kernel_rfl, by kernel_rfl⟩,
  List.forall_mem_cons.2 ⟨⟨Try.func43, by kernel_rfl, by kernel_rfl⟩,
  List.forall_mem_cons.2 ⟨⟨Try.func46, by kernel_rfl, by kernel_rfl⟩,
  List.forall_mem_cons.2 ⟨⟨Try.func47, by kernel_rfl, by kernel_rfl⟩,
  List.forall_mem_cons.2 ⟨⟨Try.func48, by kernel_rfl, by kernel_rfl⟩,
  List.forall_mem_cons.2 ⟨⟨Try.func49, by kernel_rfl, by kernel_rfl⟩,
  List.forall_mem_cons.2 ⟨⟨Try.func50, by kernel_rfl, by kernel_rfl⟩,
  List.forall_mem_cons.2 ⟨⟨Try.func51, by kernel_rfl, by kernel_rfl⟩,
  List.forall_mem_cons.2 ⟨⟨Try.func52, by kernel_rfl, by kernel_rfl⟩,
  List.forall_mem_cons.2 ⟨⟨Try.func53, by kernel_rfl, by kernel_rfl⟩,
  List.forall_mem_cons.2 ⟨⟨Try.func54, by kernel_rfl, by kernel_rfl⟩,
  List.forall_mem_cons.2 ⟨⟨Try.func55, by kernel_rfl, by kernel_rfl⟩,
  List.forall_mem_cons.2 ⟨⟨Try.func56, by kernel_rfl, by kernel_rfl⟩,
  List.forall_mem_cons.2 ⟨⟨Try.func57, by kernel_rfl, by kernel_rfl⟩,
  List.forall_mem_cons.2 ⟨⟨Try.func58, by kernel_rfl, by kernel_rfl⟩,
  List.forall_mem_cons.2 ⟨⟨Try.func59, by kernel_rfl, by kernel_rfl⟩,
  (fun _ h => by cases h)⟩⟩⟩⟩⟩⟩⟩⟩⟩⟩⟩⟩⟩⟩⟩⟩⟩⟩⟩⟩⟩⟩⟩⟩⟩⟩⟩⟩⟩⟩⟩⟩⟩⟩⟩⟩⟩⟩⟩⟩⟩⟩⟩⟩⟩⟩⟩⟩⟩⟩⟩⟩⟩⟩

end Go.Proofs.Ytfkgjpdipdllhaa.Sx
