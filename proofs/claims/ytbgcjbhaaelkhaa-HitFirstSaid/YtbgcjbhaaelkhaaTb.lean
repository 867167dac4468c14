/- The tables of types and functions of this seat, as the reckoner takes them. -/
import Derived.Test.YtbgcjbhaaelkhaaChecked
import Derived.Test.YtbgcjbhaaelkhaaEa
import Derived.KernelRfl
set_option linter.unusedVariables false
namespace Go.Proofs.Ytbgcjbhaaelkhaa.Sx

def tys : List (Nat × TI) := [
  (1, ⟨.func #[] #[] false, 1, [.nilFunc]⟩),
  (2, ⟨.int .i64, 1, [.int .i64 0]⟩),
  (3, ⟨.int .i64, 1, [.int .i64 0]⟩),
  (4, ⟨.bool, 1, [.bool false]⟩),
  (22, ⟨.struct #[⟨ "X", 3, 0, false, "", "", 0⟩, ⟨ "Y", 3, 1, false, "", "", 8⟩, ⟨ "Z", 3, 2, false, "", "", 16⟩], 3, [.int .i64 0, .int .i64 0, .int .i64 0]⟩),
  (23, ⟨.struct #[⟨ "X", 3, 0, false, "", "", 0⟩, ⟨ "Y", 3, 1, false, "", "", 8⟩, ⟨ "Z", 3, 2, false, "", "", 16⟩], 3, [.int .i64 0, .int .i64 0, .int .i64 0]⟩),
  (24, ⟨.array 3 23, 9, [.int .i64 0, .int .i64 0, .int .i64 0, .int .i64 0, .int .i64 0, .int .i64 0, .int .i64 0, .int .i64 0, .int .i64 0]⟩),
  (25, ⟨.slice 24, 1, [.slice none 0 0]⟩),
  (26, ⟨.func #[25] #[25] false, 1, [.nilFunc]⟩),
  (27, ⟨.int .i64, 1, [.int .i64 0]⟩),
  (29, ⟨.func #[23, 23, 24] #[4, 27] false, 1, [.nilFunc]⟩),
  (31, ⟨.func #[23, 24] #[3, 27] false, 1, [.nilFunc]⟩),
  (33, ⟨.func #[23, 23, 25] #[3, 4, 27] true, 1, [.nilFunc]⟩),
  (34, ⟨.func #[23, 23, 25] #[3, 4, 27] false, 1, [.nilFunc]⟩),
  (35, ⟨.func #[] #[4] false, 1, [.nilFunc]⟩),
  (36, ⟨.func #[25, 25] #[4] false, 1, [.nilFunc]⟩),
  (37, ⟨.func #[23, 23, 24, 25] #[4] false, 1, [.nilFunc]⟩),
  (38, ⟨.func #[60] #[4] true, 1, [.nilFunc]⟩),
  (39, ⟨.func #[23, 23, 24] #[4] false, 1, [.nilFunc]⟩),
  (40, ⟨.func #[24, 3, 3, 3, 23] #[4] false, 1, [.nilFunc]⟩),
  (41, ⟨.func #[23, 23, 25] #[4] false, 1, [.nilFunc]⟩),
  (42, ⟨.struct #[⟨ "N", 3, 0, false, "", "", 0⟩, ⟨ "D", 3, 1, false, "", "", 8⟩], 2, [.int .i64 0, .int .i64 0]⟩),
  (43, ⟨.struct #[⟨ "N", 3, 0, false, "", "", 0⟩, ⟨ "D", 3, 1, false, "", "", 8⟩], 2, [.int .i64 0, .int .i64 0]⟩),
  (44, ⟨.func #[43, 43] #[3] false, 1, [.nilFunc]⟩),
  (45, ⟨.func #[43, 43, 43] #[4] false, 1, [.nilFunc]⟩),
  (47, ⟨.func #[43] #[43, 27] false, 1, [.nilFunc]⟩),
  (48, ⟨.func #[43] #[4] false, 1, [.nilFunc]⟩),
  (49, ⟨.func #[43, 43] #[4] false, 1, [.nilFunc]⟩),
  (50, ⟨.func #[43] #[3, 27] false, 1, [.nilFunc]⟩),
  (51, ⟨.func #[23, 23, 23, 23] #[3, 27] false, 1, [.nilFunc]⟩),
  (53, ⟨.func #[23, 23, 23] #[23, 27] false, 1, [.nilFunc]⟩),
  (55, ⟨.func #[23, 23, 23] #[3, 3, 27] false, 1, [.nilFunc]⟩),
  (56, ⟨.slice 3, 1, [.slice none 0 0]⟩),
  (57, ⟨.func #[23, 23, 23, 23] #[4] false, 1, [.nilFunc]⟩),
  (58, ⟨.struct #[⟨ "Low", 23, 0, false, "", "", 0⟩, ⟨ "High", 23, 3, false, "", "", 24⟩], 6, [.int .i64 0, .int .i64 0, .int .i64 0, .int .i64 0, .int .i64 0, .int .i64 0]⟩),
  (59, ⟨.struct #[⟨ "Low", 23, 0, false, "", "", 0⟩, ⟨ "High", 23, 3, false, "", "", 24⟩], 6, [.int .i64 0, .int .i64 0, .int .i64 0, .int .i64 0, .int .i64 0, .int .i64 0]⟩),
  (60, ⟨.slice 23, 1, [.slice none 0 0]⟩),
  (62, ⟨.func #[60] #[59, 27] true, 1, [.nilFunc]⟩),
  (63, ⟨.func #[60] #[59, 27] false, 1, [.nilFunc]⟩),
  (64, ⟨.func #[59, 59] #[59, 27] false, 1, [.nilFunc]⟩),
  (65, ⟨.func #[23, 23, 59] #[4, 27] false, 1, [.nilFunc]⟩),
  (66, ⟨.func #[59] #[3, 27] false, 1, [.nilFunc]⟩),
  (67, ⟨.func #[59] #[4] false, 1, [.nilFunc]⟩),
  (68, ⟨.func #[59, 23] #[4] false, 1, [.nilFunc]⟩),
  (69, ⟨.func #[23, 23, 59, 59, 60] #[4] false, 1, [.nilFunc]⟩),
  (70, ⟨.func #[23, 23, 59, 59] #[4] false, 1, [.nilFunc]⟩),
  (71, ⟨.func #[23, 23, 59] #[4] false, 1, [.nilFunc]⟩),
  (72, ⟨.array 3 3, 3, [.int .i64 0, .int .i64 0, .int .i64 0]⟩),
  (73, ⟨.func #[3] #[4] false, 1, [.nilFunc]⟩),
  (74, ⟨.func #[73, 56] #[4] true, 1, [.nilFunc]⟩),
  (75, ⟨.func #[60, 24] #[4] false, 1, [.nilFunc]⟩),
  (76, ⟨.func #[3, 3] #[3] false, 1, [.nilFunc]⟩),
  (77, ⟨.func #[3] #[3] false, 1, [.nilFunc]⟩),
  (78, ⟨.func #[3, 56] #[4] true, 1, [.nilFunc]⟩),
  (79, ⟨.struct #[⟨ "N", 3, 0, false, "", "", 0⟩, ⟨ "D", 3, 1, false, "", "", 8⟩], 2, [.int .i64 0, .int .i64 0]⟩),
  (80, ⟨.func #[79] #[3] false, 1, [.nilFunc]⟩),
  (82, ⟨.func #[106] #[3, 4] true, 1, [.nilFunc]⟩),
  (83, ⟨.func #[56] #[3, 27] true, 1, [.nilFunc]⟩),
  (84, ⟨.func #[3, 3] #[3, 3, 27] false, 1, [.nilFunc]⟩),
  (85, ⟨.func #[23, 23] #[23] false, 1, [.nilFunc]⟩),
  (86, ⟨.array 3 23, 9, [.int .i64 0, .int .i64 0, .int .i64 0, .int .i64 0, .int .i64 0, .int .i64 0, .int .i64 0, .int .i64 0, .int .i64 0]⟩),
  (87, ⟨.func #[] #[23, 27] false, 1, [.nilFunc]⟩),
  (88, ⟨.func #[23] #[3] false, 1, [.nilFunc]⟩),
  (89, ⟨.func #[91, 91, 91] #[3, 27] false, 1, [.nilFunc]⟩),
  (90, ⟨.struct #[⟨ "X", 3, 0, false, "", "", 0⟩, ⟨ "Y", 3, 1, false, "", "", 8⟩], 2, [.int .i64 0, .int .i64 0]⟩),
  (91, ⟨.struct #[⟨ "X", 3, 0, false, "", "", 0⟩, ⟨ "Y", 3, 1, false, "", "", 8⟩], 2, [.int .i64 0, .int .i64 0]⟩),
  (92, ⟨.func #[114] #[4] true, 1, [.nilFunc]⟩),
  (93, ⟨.func #[23] #[72] false, 1, [.nilFunc]⟩),
  (94, ⟨.func #[72] #[23] false, 1, [.nilFunc]⟩),
  (95, ⟨.func #[60] #[4] false, 1, [.nilFunc]⟩),
  (96, ⟨.func #[3, 3, 3] #[] false, 1, [.nilFunc]⟩),
  (97, ⟨.func #[23] #[4] false, 1, [.nilFunc]⟩),
  (99, ⟨.func #[3, 3, 3, 3, 43, 43] #[43, 43, 4] false, 1, [.nilFunc]⟩),
  (100, ⟨.struct #[⟨ "Hi", 3, 0, false, "", "", 0⟩, ⟨ "Lo", 3, 1, false, "", "", 8⟩], 2, [.int .i64 0, .int .i64 0]⟩),
  (101, ⟨.struct #[⟨ "Hi", 3, 0, false, "", "", 0⟩, ⟨ "Lo", 3, 1, false, "", "", 8⟩], 2, [.int .i64 0, .int .i64 0]⟩),
  (103, ⟨.func #[3, 3] #[101, 27] false, 1, [.nilFunc]⟩),
  (104, ⟨.func #[101, 101] #[3] false, 1, [.nilFunc]⟩),
  (105, ⟨.func #[56] #[3] true, 1, [.nilFunc]⟩),
  (106, ⟨.slice 43, 1, [.slice none 0 0]⟩),
  (108, ⟨.func #[3] #[107] false, 1, [.nilFunc]⟩),
  (109, ⟨.func #[3, 3] #[27] false, 1, [.nilFunc]⟩),
  (110, ⟨.func #[23, 23] #[23, 27] false, 1, [.nilFunc]⟩),
  (111, ⟨.array 3 91, 6, [.int .i64 0, .int .i64 0, .int .i64 0, .int .i64 0, .int .i64 0, .int .i64 0]⟩),
  (112, ⟨.array 3 91, 6, [.int .i64 0, .int .i64 0, .int .i64 0, .int .i64 0, .int .i64 0, .int .i64 0]⟩),
  (113, ⟨.func #[] #[3, 27] false, 1, [.nilFunc]⟩),
  (114, ⟨.slice 91, 1, [.slice none 0 0]⟩),
  (115, ⟨.struct #[⟨ "Below", 4, 0, false, "", "", 0⟩, ⟨ "D", 56, 1, false, "", "", 8⟩], 2, [.bool false, .slice none 0 0]⟩),
  (116, ⟨.struct #[⟨ "Below", 4, 0, false, "", "", 0⟩, ⟨ "D", 56, 1, false, "", "", 8⟩], 2, [.bool false, .slice none 0 0]⟩),
  (117, ⟨.func #[116, 116] #[116] false, 1, [.nilFunc]⟩),
  (118, ⟨.func #[3] #[116] false, 1, [.nilFunc]⟩),
  (119, ⟨.func #[116, 116] #[4] false, 1, [.nilFunc]⟩),
  (120, ⟨.array 2 3, 2, [.int .i64 0, .int .i64 0]⟩),
  (121, ⟨.func #[3] #[120] false, 1, [.nilFunc]⟩),
  (122, ⟨.func #[101] #[101, 27] false, 1, [.nilFunc]⟩),
  (123, ⟨.func #[56] #[4] true, 1, [.nilFunc]⟩),
  (124, ⟨.func #[91, 91] #[3, 27] false, 1, [.nilFunc]⟩),
  (125, ⟨.func #[91, 91] #[91] false, 1, [.nilFunc]⟩),
  (126, ⟨.func #[4, 56] #[116] false, 1, [.nilFunc]⟩),
  (127, ⟨.func #[116] #[116] false, 1, [.nilFunc]⟩),
  (128, ⟨.func #[101] #[4] false, 1, [.nilFunc]⟩),
  (129, ⟨.func #[116, 116] #[56] false, 1, [.nilFunc]⟩),
  (130, ⟨.func #[116, 116] #[3] false, 1, [.nilFunc]⟩),
  (131, ⟨.func #[116, 3] #[3] false, 1, [.nilFunc]⟩),
  (132, ⟨.func #[] #[9] false, 1, [.nilFunc]⟩),
  (138, ⟨.func #[] #[3] false, 1, [.nilFunc]⟩),
  (142, ⟨.func #[148, 148] #[4] false, 1, [.nilFunc]⟩),
  (143, ⟨.pointer 5, 1, [.pointer none]⟩)]

theorem ty1 : TyOk Try.prog 1 ⟨.func #[] #[] false, 1, [.nilFunc]⟩ := ⟨by kernel_rfl, by kernel_rfl⟩
theorem ty2 : TyOk Try.prog 2 ⟨.int .i64, 1, [.int .i64 0]⟩ := ⟨by kernel_rfl, by kernel_rfl⟩
theorem ty3 : TyOk Try.prog 3 ⟨.int .i64, 1, [.int .i64 0]⟩ := ⟨by kernel_rfl, by kernel_rfl⟩
theorem ty4 : TyOk Try.prog 4 ⟨.bool, 1, [.bool false]⟩ := ⟨by kernel_rfl, by kernel_rfl⟩
theorem ty22 : TyOk Try.prog 22 ⟨.struct #[⟨ "X", 3, 0, false, "", "", 0⟩, ⟨ "Y", 3, 1, false, "", "", 8⟩, ⟨ "Z", 3, 2, false, "", "", 16⟩], 3, [.int .i64 0, .int .i64 0, .int .i64 0]⟩ := ⟨by kernel_rfl, by kernel_rfl⟩
theorem ty23 : TyOk Try.prog 23 ⟨.struct #[⟨ "X", 3, 0, false, "", "", 0⟩, ⟨ "Y", 3, 1, false, "", "", 8⟩, ⟨ "Z", 3, 2, false, "", "", 16⟩], 3, [.int .i64 0, .int .i64 0, .int .i64 0]⟩ := ⟨by kernel_rfl, by kernel_rfl⟩
theorem ty24 : TyOk Try.prog 24 ⟨.array 3 23, 9, [.int .i64 0, .int .i64 0, .int .i64 0, .int .i64 0, .int .i64 0, .int .i64 0, .int .i64 0, .int .i64 0, .int .i64 0]⟩ := ⟨by kernel_rfl, by kernel_rfl⟩
theorem ty25 : TyOk Try.prog 25 ⟨.slice 24, 1, [.slice none 0 0]⟩ := ⟨by kernel_rfl, by kernel_rfl⟩
theorem ty26 : TyOk Try.prog 26 ⟨.func #[25] #[25] false, 1, [.nilFunc]⟩ := ⟨by kernel_rfl, by kernel_rfl⟩
theorem ty27 : TyOk Try.prog 27 ⟨.int .i64, 1, [.int .i64 0]⟩ := ⟨by kernel_rfl, by kernel_rfl⟩
theorem ty29 : TyOk Try.prog 29 ⟨.func #[23, 23, 24] #[4, 27] false, 1, [.nilFunc]⟩ := ⟨by kernel_rfl, by kernel_rfl⟩
theorem ty31 : TyOk Try.prog 31 ⟨.func #[23, 24] #[3, 27] false, 1, [.nilFunc]⟩ := ⟨by kernel_rfl, by kernel_rfl⟩
theorem ty33 : TyOk Try.prog 33 ⟨.func #[23, 23, 25] #[3, 4, 27] true, 1, [.nilFunc]⟩ := ⟨by kernel_rfl, by kernel_rfl⟩
theorem ty34 : TyOk Try.prog 34 ⟨.func #[23, 23, 25] #[3, 4, 27] false, 1, [.nilFunc]⟩ := ⟨by kernel_rfl, by kernel_rfl⟩
theorem ty35 : TyOk Try.prog 35 ⟨.func #[] #[4] false, 1, [.nilFunc]⟩ := ⟨by kernel_rfl, by kernel_rfl⟩
theorem ty36 : TyOk Try.prog 36 ⟨.func #[25, 25] #[4] false, 1, [.nilFunc]⟩ := ⟨by kernel_rfl, by kernel_rfl⟩
theorem ty37 : TyOk Try.prog 37 ⟨.func #[23, 23, 24, 25] #[4] false, 1, [.nilFunc]⟩ := ⟨by kernel_rfl, by kernel_rfl⟩
theorem ty38 : TyOk Try.prog 38 ⟨.func #[60] #[4] true, 1, [.nilFunc]⟩ := ⟨by kernel_rfl, by kernel_rfl⟩
theorem ty39 : TyOk Try.prog 39 ⟨.func #[23, 23, 24] #[4] false, 1, [.nilFunc]⟩ := ⟨by kernel_rfl, by kernel_rfl⟩
theorem ty40 : TyOk Try.prog 40 ⟨.func #[24, 3, 3, 3, 23] #[4] false, 1, [.nilFunc]⟩ := ⟨by kernel_rfl, by kernel_rfl⟩
theorem ty41 : TyOk Try.prog 41 ⟨.func #[23, 23, 25] #[4] false, 1, [.nilFunc]⟩ := ⟨by kernel_rfl, by kernel_rfl⟩
theorem ty42 : TyOk Try.prog 42 ⟨.struct #[⟨ "N", 3, 0, false, "", "", 0⟩, ⟨ "D", 3, 1, false, "", "", 8⟩], 2, [.int .i64 0, .int .i64 0]⟩ := ⟨by kernel_rfl, by kernel_rfl⟩
theorem ty43 : TyOk Try.prog 43 ⟨.struct #[⟨ "N", 3, 0, false, "", "", 0⟩, ⟨ "D", 3, 1, false, "", "", 8⟩], 2, [.int .i64 0, .int .i64 0]⟩ := ⟨by kernel_rfl, by kernel_rfl⟩
theorem ty44 : TyOk Try.prog 44 ⟨.func #[43, 43] #[3] false, 1, [.nilFunc]⟩ := ⟨by kernel_rfl, by kernel_rfl⟩
theorem ty45 : TyOk Try.prog 45 ⟨.func #[43, 43, 43] #[4] false, 1, [.nilFunc]⟩ := ⟨by kernel_rfl, by kernel_rfl⟩
theorem ty47 : TyOk Try.prog 47 ⟨.func #[43] #[43, 27] false, 1, [.nilFunc]⟩ := ⟨by kernel_rfl, by kernel_rfl⟩
theorem ty48 : TyOk Try.prog 48 ⟨.func #[43] #[4] false, 1, [.nilFunc]⟩ := ⟨by kernel_rfl, by kernel_rfl⟩
theorem ty49 : TyOk Try.prog 49 ⟨.func #[43, 43] #[4] false, 1, [.nilFunc]⟩ := ⟨by kernel_rfl, by kernel_rfl⟩
theorem ty50 : TyOk Try.prog 50 ⟨.func #[43] #[3, 27] false, 1, [.nilFunc]⟩ := ⟨by kernel_rfl, by kernel_rfl⟩
theorem ty51 : TyOk Try.prog 51 ⟨.func #[23, 23, 23, 23] #[3, 27] false, 1, [.nilFunc]⟩ := ⟨by kernel_rfl, by kernel_rfl⟩
theorem ty53 : TyOk Try.prog 53 ⟨.func #[23, 23, 23] #[23, 27] false, 1, [.nilFunc]⟩ := ⟨by kernel_rfl, by kernel_rfl⟩
theorem ty55 : TyOk Try.prog 55 ⟨.func #[23, 23, 23] #[3, 3, 27] false, 1, [.nilFunc]⟩ := ⟨by kernel_rfl, by kernel_rfl⟩
theorem ty56 : TyOk Try.prog 56 ⟨.slice 3, 1, [.slice none 0 0]⟩ := ⟨by kernel_rfl, by kernel_rfl⟩
theorem ty57 : TyOk Try.prog 57 ⟨.func #[23, 23, 23, 23] #[4] false, 1, [.nilFunc]⟩ := ⟨by kernel_rfl, by kernel_rfl⟩
theorem ty58 : TyOk Try.prog 58 ⟨.struct #[⟨ "Low", 23, 0, false, "", "", 0⟩, ⟨ "High", 23, 3, false, "", "", 24⟩], 6, [.int .i64 0, .int .i64 0, .int .i64 0, .int .i64 0, .int .i64 0, .int .i64 0]⟩ := ⟨by kernel_rfl, by kernel_rfl⟩
theorem ty59 : TyOk Try.prog 59 ⟨.struct #[⟨ "Low", 23, 0, false, "", "", 0⟩, ⟨ "High", 23, 3, false, "", "", 24⟩], 6, [.int .i64 0, .int .i64 0, .int .i64 0, .int .i64 0, .int .i64 0, .int .i64 0]⟩ := ⟨by kernel_rfl, by kernel_rfl⟩
theorem ty60 : TyOk Try.prog 60 ⟨.slice 23, 1, [.slice none 0 0]⟩ := ⟨by kernel_rfl, by kernel_rfl⟩
theorem ty62 : TyOk Try.prog 62 ⟨.func #[60] #[59, 27] true, 1, [.nilFunc]⟩ := ⟨by kernel_rfl, by kernel_rfl⟩
theorem ty63 : TyOk Try.prog 63 ⟨.func #[60] #[59, 27] false, 1, [.nilFunc]⟩ := ⟨by kernel_rfl, by kernel_rfl⟩
theorem ty64 : TyOk Try.prog 64 ⟨.func #[59, 59] #[59, 27] false, 1, [.nilFunc]⟩ := ⟨by kernel_rfl, by kernel_rfl⟩
theorem ty65 : TyOk Try.prog 65 ⟨.func #[23, 23, 59] #[4, 27] false, 1, [.nilFunc]⟩ := ⟨by kernel_rfl, by kernel_rfl⟩
theorem ty66 : TyOk Try.prog 66 ⟨.func #[59] #[3, 27] false, 1, [.nilFunc]⟩ := ⟨by kernel_rfl, by kernel_rfl⟩
theorem ty67 : TyOk Try.prog 67 ⟨.func #[59] #[4] false, 1, [.nilFunc]⟩ := ⟨by kernel_rfl, by kernel_rfl⟩
theorem ty68 : TyOk Try.prog 68 ⟨.func #[59, 23] #[4] false, 1, [.nilFunc]⟩ := ⟨by kernel_rfl, by kernel_rfl⟩
theorem ty69 : TyOk Try.prog 69 ⟨.func #[23, 23, 59, 59, 60] #[4] false, 1, [.nilFunc]⟩ := ⟨by kernel_rfl, by kernel_rfl⟩
theorem ty70 : TyOk Try.prog 70 ⟨.func #[23, 23, 59, 59] #[4] false, 1, [.nilFunc]⟩ := ⟨by kernel_rfl, by kernel_rfl⟩
theorem ty71 : TyOk Try.prog 71 ⟨.func #[23, 23, 59] #[4] false, 1, [.nilFunc]⟩ := ⟨by kernel_rfl, by kernel_rfl⟩
theorem ty72 : TyOk Try.prog 72 ⟨.array 3 3, 3, [.int .i64 0, .int .i64 0, .int .i64 0]⟩ := ⟨by kernel_rfl, by kernel_rfl⟩
theorem ty73 : TyOk Try.prog 73 ⟨.func #[3] #[4] false, 1, [.nilFunc]⟩ := ⟨by kernel_rfl, by kernel_rfl⟩
theorem ty74 : TyOk Try.prog 74 ⟨.func #[73, 56] #[4] true, 1, [.nilFunc]⟩ := ⟨by kernel_rfl, by kernel_rfl⟩
theorem ty75 : TyOk Try.prog 75 ⟨.func #[60, 24] #[4] false, 1, [.nilFunc]⟩ := ⟨by kernel_rfl, by kernel_rfl⟩
theorem ty76 : TyOk Try.prog 76 ⟨.func #[3, 3] #[3] false, 1, [.nilFunc]⟩ := ⟨by kernel_rfl, by kernel_rfl⟩
theorem ty77 : TyOk Try.prog 77 ⟨.func #[3] #[3] false, 1, [.nilFunc]⟩ := ⟨by kernel_rfl, by kernel_rfl⟩
theorem ty78 : TyOk Try.prog 78 ⟨.func #[3, 56] #[4] true, 1, [.nilFunc]⟩ := ⟨by kernel_rfl, by kernel_rfl⟩
theorem ty79 : TyOk Try.prog 79 ⟨.struct #[⟨ "N", 3, 0, false, "", "", 0⟩, ⟨ "D", 3, 1, false, "", "", 8⟩], 2, [.int .i64 0, .int .i64 0]⟩ := ⟨by kernel_rfl, by kernel_rfl⟩
theorem ty80 : TyOk Try.prog 80 ⟨.func #[79] #[3] false, 1, [.nilFunc]⟩ := ⟨by kernel_rfl, by kernel_rfl⟩
theorem ty82 : TyOk Try.prog 82 ⟨.func #[106] #[3, 4] true, 1, [.nilFunc]⟩ := ⟨by kernel_rfl, by kernel_rfl⟩
theorem ty83 : TyOk Try.prog 83 ⟨.func #[56] #[3, 27] true, 1, [.nilFunc]⟩ := ⟨by kernel_rfl, by kernel_rfl⟩
theorem ty84 : TyOk Try.prog 84 ⟨.func #[3, 3] #[3, 3, 27] false, 1, [.nilFunc]⟩ := ⟨by kernel_rfl, by kernel_rfl⟩
theorem ty85 : TyOk Try.prog 85 ⟨.func #[23, 23] #[23] false, 1, [.nilFunc]⟩ := ⟨by kernel_rfl, by kernel_rfl⟩
theorem ty86 : TyOk Try.prog 86 ⟨.array 3 23, 9, [.int .i64 0, .int .i64 0, .int .i64 0, .int .i64 0, .int .i64 0, .int .i64 0, .int .i64 0, .int .i64 0, .int .i64 0]⟩ := ⟨by kernel_rfl, by kernel_rfl⟩
theorem ty87 : TyOk Try.prog 87 ⟨.func #[] #[23, 27] false, 1, [.nilFunc]⟩ := ⟨by kernel_rfl, by kernel_rfl⟩
theorem ty88 : TyOk Try.prog 88 ⟨.func #[23] #[3] false, 1, [.nilFunc]⟩ := ⟨by kernel_rfl, by kernel_rfl⟩
theorem ty89 : TyOk Try.prog 89 ⟨.func #[91, 91, 91] #[3, 27] false, 1, [.nilFunc]⟩ := ⟨by kernel_rfl, by kernel_rfl⟩
theorem ty90 : TyOk Try.prog 90 ⟨.struct #[⟨ "X", 3, 0, false, "", "", 0⟩, ⟨ "Y", 3, 1, false, "", "", 8⟩], 2, [.int .i64 0, .int .i64 0]⟩ := ⟨by kernel_rfl, by kernel_rfl⟩
theorem ty91 : TyOk Try.prog 91 ⟨.struct #[⟨ "X", 3, 0, false, "", "", 0⟩, ⟨ "Y", 3, 1, false, "", "", 8⟩], 2, [.int .i64 0, .int .i64 0]⟩ := ⟨by kernel_rfl, by kernel_rfl⟩
theorem ty92 : TyOk Try.prog 92 ⟨.func #[114] #[4] true, 1, [.nilFunc]⟩ := ⟨by kernel_rfl, by kernel_rfl⟩
theorem ty93 : TyOk Try.prog 93 ⟨.func #[23] #[72] false, 1, [.nilFunc]⟩ := ⟨by kernel_rfl, by kernel_rfl⟩
theorem ty94 : TyOk Try.prog 94 ⟨.func #[72] #[23] false, 1, [.nilFunc]⟩ := ⟨by kernel_rfl, by kernel_rfl⟩
theorem ty95 : TyOk Try.prog 95 ⟨.func #[60] #[4] false, 1, [.nilFunc]⟩ := ⟨by kernel_rfl, by kernel_rfl⟩
theorem ty96 : TyOk Try.prog 96 ⟨.func #[3, 3, 3] #[] false, 1, [.nilFunc]⟩ := ⟨by kernel_rfl, by kernel_rfl⟩
theorem ty97 : TyOk Try.prog 97 ⟨.func #[23] #[4] false, 1, [.nilFunc]⟩ := ⟨by kernel_rfl, by kernel_rfl⟩
theorem ty99 : TyOk Try.prog 99 ⟨.func #[3, 3, 3, 3, 43, 43] #[43, 43, 4] false, 1, [.nilFunc]⟩ := ⟨by kernel_rfl, by kernel_rfl⟩
theorem ty100 : TyOk Try.prog 100 ⟨.struct #[⟨ "Hi", 3, 0, false, "", "", 0⟩, ⟨ "Lo", 3, 1, false, "", "", 8⟩], 2, [.int .i64 0, .int .i64 0]⟩ := ⟨by kernel_rfl, by kernel_rfl⟩
theorem ty101 : TyOk Try.prog 101 ⟨.struct #[⟨ "Hi", 3, 0, false, "", "", 0⟩, ⟨ "Lo", 3, 1, false, "", "", 8⟩], 2, [.int .i64 0, .int .i64 0]⟩ := ⟨by kernel_rfl, by kernel_rfl⟩
theorem ty103 : TyOk Try.prog 103 ⟨.func #[3, 3] #[101, 27] false, 1, [.nilFunc]⟩ := ⟨by kernel_rfl, by kernel_rfl⟩
theorem ty104 : TyOk Try.prog 104 ⟨.func #[101, 101] #[3] false, 1, [.nilFunc]⟩ := ⟨by kernel_rfl, by kernel_rfl⟩
theorem ty105 : TyOk Try.prog 105 ⟨.func #[56] #[3] true, 1, [.nilFunc]⟩ := ⟨by kernel_rfl, by kernel_rfl⟩
theorem ty106 : TyOk Try.prog 106 ⟨.slice 43, 1, [.slice none 0 0]⟩ := ⟨by kernel_rfl, by kernel_rfl⟩
theorem ty108 : TyOk Try.prog 108 ⟨.func #[3] #[107] false, 1, [.nilFunc]⟩ := ⟨by kernel_rfl, by kernel_rfl⟩
theorem ty109 : TyOk Try.prog 109 ⟨.func #[3, 3] #[27] false, 1, [.nilFunc]⟩ := ⟨by kernel_rfl, by kernel_rfl⟩
theorem ty110 : TyOk Try.prog 110 ⟨.func #[23, 23] #[23, 27] false, 1, [.nilFunc]⟩ := ⟨by kernel_rfl, by kernel_rfl⟩
theorem ty111 : TyOk Try.prog 111 ⟨.array 3 91, 6, [.int .i64 0, .int .i64 0, .int .i64 0, .int .i64 0, .int .i64 0, .int .i64 0]⟩ := ⟨by kernel_rfl, by kernel_rfl⟩
theorem ty112 : TyOk Try.prog 112 ⟨.array 3 91, 6, [.int .i64 0, .int .i64 0, .int .i64 0, .int .i64 0, .int .i64 0, .int .i64 0]⟩ := ⟨by kernel_rfl, by kernel_rfl⟩
theorem ty113 : TyOk Try.prog 113 ⟨.func #[] #[3, 27] false, 1, [.nilFunc]⟩ := ⟨by kernel_rfl, by kernel_rfl⟩
theorem ty114 : TyOk Try.prog 114 ⟨.slice 91, 1, [.slice none 0 0]⟩ := ⟨by kernel_rfl, by kernel_rfl⟩
theorem ty115 : TyOk Try.prog 115 ⟨.struct #[⟨ "Below", 4, 0, false, "", "", 0⟩, ⟨ "D", 56, 1, false, "", "", 8⟩], 2, [.bool false, .slice none 0 0]⟩ := ⟨by kernel_rfl, by kernel_rfl⟩
theorem ty116 : TyOk Try.prog 116 ⟨.struct #[⟨ "Below", 4, 0, false, "", "", 0⟩, ⟨ "D", 56, 1, false, "", "", 8⟩], 2, [.bool false, .slice none 0 0]⟩ := ⟨by kernel_rfl, by kernel_rfl⟩
theorem ty117 : TyOk Try.prog 117 ⟨.func #[116, 116] #[116] false, 1, [.nilFunc]⟩ := ⟨by kernel_rfl, by kernel_rfl⟩
theorem ty118 : TyOk Try.prog 118 ⟨.func #[3] #[116] false, 1, [.nilFunc]⟩ := ⟨by kernel_rfl, by kernel_rfl⟩
theorem ty119 : TyOk Try.prog 119 ⟨.func #[116, 116] #[4] false, 1, [.nilFunc]⟩ := ⟨by kernel_rfl, by kernel_rfl⟩
theorem ty120 : TyOk Try.prog 120 ⟨.array 2 3, 2, [.int .i64 0, .int .i64 0]⟩ := ⟨by kernel_rfl, by kernel_rfl⟩
theorem ty121 : TyOk Try.prog 121 ⟨.func #[3] #[120] false, 1, [.nilFunc]⟩ := ⟨by kernel_rfl, by kernel_rfl⟩
theorem ty122 : TyOk Try.prog 122 ⟨.func #[101] #[101, 27] false, 1, [.nilFunc]⟩ := ⟨by kernel_rfl, by kernel_rfl⟩
theorem ty123 : TyOk Try.prog 123 ⟨.func #[56] #[4] true, 1, [.nilFunc]⟩ := ⟨by kernel_rfl, by kernel_rfl⟩
theorem ty124 : TyOk Try.prog 124 ⟨.func #[91, 91] #[3, 27] false, 1, [.nilFunc]⟩ := ⟨by kernel_rfl, by kernel_rfl⟩
theorem ty125 : TyOk Try.prog 125 ⟨.func #[91, 91] #[91] false, 1, [.nilFunc]⟩ := ⟨by kernel_rfl, by kernel_rfl⟩
theorem ty126 : TyOk Try.prog 126 ⟨.func #[4, 56] #[116] false, 1, [.nilFunc]⟩ := ⟨by kernel_rfl, by kernel_rfl⟩
theorem ty127 : TyOk Try.prog 127 ⟨.func #[116] #[116] false, 1, [.nilFunc]⟩ := ⟨by kernel_rfl, by kernel_rfl⟩
theorem ty128 : TyOk Try.prog 128 ⟨.func #[101] #[4] false, 1, [.nilFunc]⟩ := ⟨by kernel_rfl, by kernel_rfl⟩
theorem ty129 : TyOk Try.prog 129 ⟨.func #[116, 116] #[56] false, 1, [.nilFunc]⟩ := ⟨by kernel_rfl, by kernel_rfl⟩
theorem ty130 : TyOk Try.prog 130 ⟨.func #[116, 116] #[3] false, 1, [.nilFunc]⟩ := ⟨by kernel_rfl, by kernel_rfl⟩
theorem ty131 : TyOk Try.prog 131 ⟨.func #[116, 3] #[3] false, 1, [.nilFunc]⟩ := ⟨by kernel_rfl, by kernel_rfl⟩
theorem ty132 : TyOk Try.prog 132 ⟨.func #[] #[9] false, 1, [.nilFunc]⟩ := ⟨by kernel_rfl, by kernel_rfl⟩
theorem ty138 : TyOk Try.prog 138 ⟨.func #[] #[3] false, 1, [.nilFunc]⟩ := ⟨by kernel_rfl, by kernel_rfl⟩
theorem ty142 : TyOk Try.prog 142 ⟨.func #[148, 148] #[4] false, 1, [.nilFunc]⟩ := ⟨by kernel_rfl, by kernel_rfl⟩
theorem ty143 : TyOk Try.prog 143 ⟨.pointer 5, 1, [.pointer none]⟩ := ⟨by kernel_rfl, by kernel_rfl⟩
theorem tys_ok : ∀ e ∈ tys, TyOk Try.prog e.1 e.2 :=
  List.forall_mem_cons.2 ⟨ty1,
  List.forall_mem_cons.2 ⟨ty2,
  List.forall_mem_cons.2 ⟨ty3,
  List.forall_mem_cons.2 ⟨ty4,
  List.forall_mem_cons.2 ⟨ty22,
  List.forall_mem_cons.2 ⟨ty23,
  List.forall_mem_cons.2 ⟨ty24,
  List.forall_mem_cons.2 ⟨ty25,
  List.forall_mem_cons.2 ⟨ty26,
  List.forall_mem_cons.2 ⟨ty27,
  List.forall_mem_cons.2 ⟨ty29,
  List.forall_mem_cons.2 ⟨ty31,
  List.forall_mem_cons.2 ⟨ty33,
  List.forall_mem_cons.2 ⟨ty34,
  List.forall_mem_cons.2 ⟨ty35,
  List.forall_mem_cons.2 ⟨ty36,
  List.forall_mem_cons.2 ⟨ty37,
  List.forall_mem_cons.2 ⟨ty38,
  List.forall_mem_cons.2 ⟨ty39,
  List.forall_mem_cons.2 ⟨ty40,
  List.forall_mem_cons.2 ⟨ty41,
  List.forall_mem_cons.2 ⟨ty42,
  List.forall_mem_cons.2 ⟨ty43,
  List.forall_mem_cons.2 ⟨ty44,
  List.forall_mem_cons.2 ⟨ty45,
  List.forall_mem_cons.2 ⟨ty47,
  List.forall_mem_cons.2 ⟨ty48,
  List.forall_mem_cons.2 ⟨ty49,
  List.forall_mem_cons.2 ⟨ty50,
  List.forall_mem_cons.2 ⟨ty51,
  List.forall_mem_cons.2 ⟨ty53,
  List.forall_mem_cons.2 ⟨ty55,
  List.forall_mem_cons.2 ⟨ty56,
  List.forall_mem_cons.2 ⟨ty57,
  List.forall_mem_cons.2 ⟨ty58,
  List.forall_mem_cons.2 ⟨ty59,
  List.forall_mem_cons.2 ⟨ty60,
  List.forall_mem_cons.2 ⟨ty62,
  List.forall_mem_cons.2 ⟨ty63,
  List.forall_mem_cons.2 ⟨ty64,
  List.forall_mem_cons.2 ⟨ty65,
  List.forall_mem_cons.2 ⟨ty66,
  List.forall_mem_cons.2 ⟨ty67,
  List.forall_mem_cons.2 ⟨ty68,
  List.forall_mem_cons.2 ⟨ty69,
  List.forall_mem_cons.2 ⟨ty70,
  List.forall_mem_cons.2 ⟨ty71,
  List.forall_mem_cons.2 ⟨ty72,
  List.forall_mem_cons.2 ⟨ty73,
  List.forall_mem_cons.2 ⟨ty74,
  List.forall_mem_cons.2 ⟨ty75,
  List.forall_mem_cons.2 ⟨ty76,
  List.forall_mem_cons.2 ⟨ty77,
  List.forall_mem_cons.2 ⟨ty78,
  List.forall_mem_cons.2 ⟨ty79,
  List.forall_mem_cons.2 ⟨ty80,
  List.forall_mem_cons.2 ⟨ty82,
  List.forall_mem_cons.2 ⟨ty83,
  List.forall_mem_cons.2 ⟨ty84,
  List.forall_mem_cons.2 ⟨ty85,
  List.forall_mem_cons.2 ⟨ty86,
  List.forall_mem_cons.2 ⟨ty87,
  List.forall_mem_cons.2 ⟨ty88,
  List.forall_mem_cons.2 ⟨ty89,
  List.forall_mem_cons.2 ⟨ty90,
  List.forall_mem_cons.2 ⟨ty91,
  List.forall_mem_cons.2 ⟨ty92,
  List.forall_mem_cons.2 ⟨ty93,
  List.forall_mem_cons.2 ⟨ty94,
  List.forall_mem_cons.2 ⟨ty95,
  List.forall_mem_cons.2 ⟨ty96,
  List.forall_mem_cons.2 ⟨ty97,
  List.forall_mem_cons.2 ⟨ty99,
  List.forall_mem_cons.2 ⟨ty100,
  List.forall_mem_cons.2 ⟨ty101,
  List.forall_mem_cons.2 ⟨ty103,
  List.forall_mem_cons.2 ⟨ty104,
  List.forall_mem_cons.2 ⟨ty105,
  List.forall_mem_cons.2 ⟨ty106,
  List.forall_mem_cons.2 ⟨ty108,
  List.forall_mem_cons.2 ⟨ty109,
  List.forall_mem_cons.2 ⟨ty110,
  List.forall_mem_cons.2 ⟨ty111,
  List.forall_mem_cons.2 ⟨ty112,
  List.forall_mem_cons.2 ⟨ty113,
  List.forall_mem_cons.2 ⟨ty114,
  List.forall_mem_cons.2 ⟨ty115,
  List.forall_mem_cons.2 ⟨ty116,
  List.forall_mem_cons.2 ⟨ty117,
  List.forall_mem_cons.2 ⟨ty118,
  List.forall_mem_cons.2 ⟨ty119,
  List.forall_mem_cons.2 ⟨ty120,
  List.forall_mem_cons.2 ⟨ty121,
  List.forall_mem_cons.2 ⟨ty122,
  List.forall_mem_cons.2 ⟨ty123,
  List.forall_mem_cons.2 ⟨ty124,
  List.forall_mem_cons.2 ⟨ty125,
  List.forall_mem_cons.2 ⟨ty126,
  List.forall_mem_cons.2 ⟨ty127,
  List.forall_mem_cons.2 ⟨ty128,
  List.forall_mem_cons.2 ⟨ty129,
  List.forall_mem_cons.2 ⟨ty130,
  List.forall_mem_cons.2 ⟨ty131,
  List.forall_mem_cons.2 ⟨ty132,
  List.forall_mem_cons.2 ⟨ty138,
  List.forall_mem_cons.2 ⟨ty142,
  List.forall_mem_cons.2 ⟨ty143,
  (fun _ h => by cases h)⟩⟩⟩⟩⟩⟩⟩⟩⟩⟩⟩⟩⟩⟩⟩⟩⟩⟩⟩⟩⟩⟩⟩⟩⟩⟩⟩⟩⟩⟩⟩⟩⟩⟩⟩⟩⟩⟩⟩⟩⟩⟩⟩⟩⟩⟩⟩⟩⟩⟩⟩⟩⟩⟩⟩⟩⟩⟩⟩⟩⟩⟩⟩⟩⟩⟩⟩⟩⟩⟩⟩⟩⟩⟩⟩⟩⟩⟩⟩⟩⟩⟩⟩⟩⟩⟩⟩⟩⟩⟩⟩⟩⟩⟩⟩⟩⟩⟩⟩⟩⟩⟩⟩⟩⟩⟩⟩

noncomputable def fns : List (Nat × Func) := [(3, Try.f3), (4, Try.f4), (5, Try.f5), (6, Try.f6), (7, Try.f7), (8, Try.f8), (9, Try.f9), (10, Try.f10), (11, Try.f11), (12, Try.f12), (13, Try.f13), (14, Try.f14), (15, Try.f15), (16, Try.f16), (17, Try.f17), (18, Try.f18), (19, Try.f19), (20, Try.f20), (21, Try.f21), (22, Try.f22), (23, Try.f23), (24, Try.f24), (25, Try.f25), (26, Try.f26), (27, Try.f27), (28, Try.f28), (29, Try.f29), (30, Try.f30), (31, Try.f31), (32, Try.f32), (33, Try.f33), (34, Try.f34), (35, Try.f35), (36, Try.f36), (37, Try.f37), (38, Try.f38), (39, Try.f39), (40, Try.f40), (41, Try.f41), (42, Try.f42), (43, Try.f43), (44, Try.f44), (45, Try.f45), (46, Try.f46), (47, Try.f47), (48, Try.f48), (49, Try.f49), (50, Try.f50), (51, Try.f51), (52, Try.f52), (53, Try.f53), (54, Try.f54), (55, Try.f55), (56, Try.f56), (57, Try.f57), (58, Try.f58), (59, Try.f59), (60, Try.f60), (61, Try.f61), (62, Try.f62), (63, Try.f63), (64, Try.f64), (65, Try.f65), (66, Try.f66), (67, Try.f67), (68, Try.f68), (69, Try.f69), (70, Try.f70), (71, Try.f71), (72, Try.f72), (73, Try.f73), (74, Try.f74), (75, Try.f75), (76, Try.f76), (77, Try.f77), (78, Try.f78), (79, Try.f79), (80, Try.f80), (81, Try.f81), (82, Try.f82), (83, Try.f83), (84, Try.f84), (85, Try.f85), (86, Try.f86), (87, Try.f87), (88, Try.f88), (89, Try.f89), (90, Try.f90), (91, Try.f91), (92, Try.f92), (93, Try.f93), (94, Try.f94), (95, Try.f95), (96, Try.f96), (97, Try.f97), (98, Try.f98), (99, Try.f99), (100, Try.f100), (101, Try.f101), (102, Try.f102), (103, Try.f103), (104, Try.f104), (105, Try.f105), (106, Try.f106), (107, Try.f107), (108, Try.f108), (109, Try.f109), (110, Try.f110)]
theorem fns_ok : ∀ e ∈ fns, FnOk Try.prog e.1 e.2 :=
  List.forall_mem_cons.2 ⟨⟨Try.func3, by kernel_rfl, by kernel_rfl⟩,
  List.forall_mem_cons.2 ⟨⟨Try.func4, by kernel_rfl, by kernel_rfl⟩,
  List.forall_mem_cons.2 ⟨⟨Try.func5, by kernel_rfl, by kernel_rfl⟩,
  List.forall_mem_cons.2 ⟨⟨Try.func6, by kernel_rfl, by kernel_rfl⟩,
  List.forall_mem_cons.2 ⟨⟨Try.func7, by kernel_rfl, by kernel_rfl⟩,
  List.forall_mem_cons.2 ⟨⟨Try.func8, by kernel_rfl, by kernel_rfl⟩,
  List.forall_mem_cons.2 ⟨⟨Try.func9, by kernel_rfl, by kernel_rfl⟩,
  List.forall_mem_cons.2 ⟨⟨Try.func10, by kernel_rfl, by kernel_rfl⟩,
  List.forall_mem_cons.2 ⟨⟨Try.func11, by kernel_rfl, by kernel_rfl⟩,
  List.forall_mem_cons.2 ⟨⟨Try.func12, by kernel_rfl, by kernel_rfl⟩,
  List.forall_mem_cons.2 ⟨⟨Try.func13, by kernel_rfl, by kernel_rfl⟩,
  List.forall_mem_cons.2 ⟨⟨Try.func14, by kernel_rfl, by kernel_rfl⟩,
  List.forall_mem_cons.2 ⟨⟨Try.func15, by kernel_rfl, by kernel_rfl⟩,
  List.forall_mem_cons.2 ⟨⟨Try.func16, by kernel_rfl, by kernel_rfl⟩,
  List.forall_mem_cons.2 ⟨⟨Try.func17, by kernel_rfl, by kernel_rfl⟩,
  List.forall_mem_cons.2 ⟨⟨Try.func18, by kernel_rfl, by kernel_rfl⟩,
  List.forall_mem_cons.2 ⟨⟨Try.func19, by kernel_rfl, by kernel_rfl⟩,
  List.forall_mem_cons.2 ⟨⟨Try.func20, by kernel_rfl, by kernel_rfl⟩,
  List.forall_mem_cons.2 ⟨⟨Try.func21, by kernel_rfl, by kernel_rfl⟩,
  List.forall_mem_cons.2 ⟨⟨Try.func22, by kernel_rfl, by kernel_rfl⟩,
  List.forall_mem_cons.2 ⟨⟨Try.func23, by kernel_rfl, by kernel_rfl⟩,
  List.forall_mem_cons.2 ⟨⟨Try.func24, by kernel_rfl, by kernel_rfl⟩,
  List.forall_mem_cons.2 ⟨⟨Try.func25, by kernel_rfl, by kernel_rfl⟩,
  List.forall_mem_cons.2 ⟨⟨Try.func26, by kernel_rfl, by kernel_rfl⟩,
  List.forall_mem_cons.2 ⟨⟨Try.func27, by kernel_rfl, by kernel_rfl⟩,
  List.forall_mem_cons.2 ⟨⟨Try.func28, by kernel_rfl, by kernel_rfl⟩,
  List.forall_mem_cons.2 ⟨⟨Try.func29, by kernel_rfl, by kernel_rfl⟩,
  List.forall_mem_cons.2 ⟨⟨Try.func30, by kernel_rfl, by kernel_rfl⟩,
  List.forall_mem_cons.2 ⟨⟨Try.func31, by kernel_rfl, by kernel_rfl⟩,
  List.forall_mem_cons.2 ⟨⟨Try.func32, by kernel_rfl, by kernel_rfl⟩,
  List.forall_mem_cons.2 ⟨⟨Try.func33, by kernel_rfl, by kernel_rfl⟩,
  List.forall_mem_cons.2 ⟨⟨Try.func34, by kernel_rfl, by kernel_rfl⟩,
  List.forall_mem_cons.2 ⟨⟨Try.func35, by kernel_rfl, by kernel_rfl⟩,
  List.forall_mem_cons.2 ⟨⟨Try.func36, by kernel_rfl, by kernel_rfl⟩,
  List.forall_mem_cons.2 ⟨⟨Try.func37, by kernel_rfl, by kernel_rfl⟩,
  List.forall_mem_cons.2 ⟨⟨Try.func38, by kernel_rfl, by kernel_rfl⟩,
  List.forall_mem_cons.2 ⟨⟨Try.func39, by kernel_rfl, by kernel_rfl⟩,
  List.forall_mem_cons.2 ⟨⟨Try.func40, by kernel_rfl, by kernel_rfl⟩,
  List.forall_mem_cons.2 ⟨⟨Try.func41, by kernel_rfl, by kernel_rfl⟩,
  List.forall_mem_cons.2 ⟨⟨Try.func42, by kernel_rfl, by kernel_rfl⟩,
  List.forall_mem_cons.2 ⟨⟨Try.func43, by kernel_rfl, by kernel_rfl⟩,
  List.forall_mem_cons.2 ⟨⟨Try.func44, by kernel_rfl, by kernel_rfl⟩,
  List.forall_mem_cons.2 ⟨⟨Try.func45, by kernel_rfl, by kernel_rfl⟩,
  List.forall_mem_cons.2 ⟨⟨Try.func46, by kernel_rfl, by kernel_rfl⟩,
  List.forall_mem_cons.2 ⟨⟨Try.func47, by kernel_rfl, by kernel_rfl⟩,
  List.forall_mem_cons.2 ⟨⟨Try.func48, by kernel_rfl, by kernel_rfl⟩,
  List.forall_mem_cons.2 ⟨⟨Try.func49, by kernel_rfl, by kernel_rfl⟩,
  List.forall_mem_cons.2 ⟨⟨Try.func50, by kernel_rfl, by kernel_rfl⟩,
  List.forall_mem_cons.2 ⟨⟨Try.func51, by kernel_rfl, by kernel_rfl⟩,
  List.forall_mem_cons.2 ⟨⟨Try.func52, by kernel_rfl, by kernel_rfl⟩,
  List.forall_mem_cons.2 ⟨⟨Try.func53, by kernel_rfl, by kernel_rfl⟩,
  List.forall_mem_cons.2 ⟨⟨Try.func54, by kernel_rfl, by kernel_rfl⟩,
  List.forall_mem_cons.2 ⟨⟨Try.func55, by kernel_rfl, by kernel_rfl⟩,
  List.forall_mem_cons.2 ⟨⟨Try.func56, by kernel_rfl, by kernel_rfl⟩,
  List.forall_mem_cons.2 ⟨⟨Try.func57, by kernel_rfl, by kernel_rfl⟩,
  List.forall_mem_cons.2 ⟨⟨Try.func58, by kernel_rfl, by kernel_rfl⟩,
  List.forall_mem_cons.2 ⟨⟨Try.func59, by kernel_rfl, by kernel_rfl⟩,
  List.forall_mem_cons.2 ⟨⟨Try.func60, by kernel_rfl, by kernel_rfl⟩,
  List.forall_mem_cons.2 ⟨⟨Try.func61, by kernel_rfl, by kernel_rfl⟩,
  List.forall_mem_cons.2 ⟨⟨Try.func62, by kernel_rfl, by kernel_rfl⟩,
  List.forall_mem_cons.2 ⟨⟨Try.func63, by kernel_rfl, by kernel_rfl⟩,
  List.forall_mem_cons.2 ⟨⟨Try.func64, by kernel_rfl, by kernel_rfl⟩,
  List.forall_mem_cons.2 ⟨⟨Try.func65, by kernel_rfl, by kernel_rfl⟩,
  List.forall_mem_cons.2 ⟨⟨Try.func66, by kernel_rfl, by kernel_rfl⟩,
  List.forall_mem_cons.2 ⟨⟨Try.func67, by kernel_rfl, by kernel_rfl⟩,
  List.forall_mem_cons.2 ⟨⟨Try.func68, by kernel_rfl, by kernel_rfl⟩,
  List.forall_mem_cons.2 ⟨⟨Try.func69, by kernel_rfl, by kernel_rfl⟩,
  List.forall_mem_cons.2 ⟨⟨Try.func70, by kernel_rfl, by kernel_rfl⟩,
  List.forall_mem_cons.2 ⟨⟨Try.func71, by kernel_rfl, by kernel_rfl⟩,
  List.forall_mem_cons.2 ⟨⟨Try.func72, by kernel_rfl, by kernel_rfl⟩,
  List.forall_mem_cons.2 ⟨⟨Try.func73, by kernel_rfl, by kernel_rfl⟩,
  List.forall_mem_cons.2 ⟨⟨Try.func74, by kernel_rfl, by kernel_rfl⟩,
  List.forall_mem_cons.2 ⟨⟨Try.func75, by kernel_rfl, by kernel_rfl⟩,
  List.forall_mem_cons.2 ⟨⟨Try.func76, by kernel_rfl, by kernel_rfl⟩,
  List.forall_mem_cons.2 ⟨⟨Try.func77, by kernel_rfl, by kernel_rfl⟩,
  List.forall_mem_cons.2 ⟨⟨Try.func78, by kernel_rfl, by kernel_rfl⟩,
  List.forall_mem_cons.2 ⟨⟨Try.func79, by kernel_rfl, by kernel_rfl⟩,
  List.forall_mem_cons.2 ⟨⟨Try.func80, by kernel_rfl, by kernel_rfl⟩,
  List.forall_mem_cons.2 ⟨⟨Try.func81, by kernel_rfl, by kernel_rfl⟩,
  List.forall_mem_cons.2 ⟨⟨Try.func82, by kernel_rfl, by kernel_rfl⟩,
  List.forall_mem_cons.2 ⟨⟨Try.func83, by kernel_rfl, by kernel_rfl⟩,
  List.forall_mem_cons.2 ⟨⟨Try.func84, by kernel_rfl, by kernel_rfl⟩,
  List.forall_mem_cons.2 ⟨⟨Try.func85, by kernel_rfl, by kernel_rfl⟩,
  List.forall_mem_cons.2 ⟨⟨Try.func86, by kernel_rfl, by kernel_rfl⟩,
  List.forall_mem_cons.2 ⟨⟨Try.func87, by kernel_rfl, by kernel_rfl⟩,
  List.forall_mem_cons.2 ⟨⟨Try.func88, by kernel_rfl, by kernel_rfl⟩,
  List.forall_mem_cons.2 ⟨⟨Try.func89, by kernel_rfl, by kernel_rfl⟩,
  List.forall_mem_cons.2 ⟨⟨Try.func90, by kernel_rfl, by kernel_rfl⟩,
  List.forall_mem_cons.2 ⟨⟨Try.func91, by kernel_rfl, by kernel_rfl⟩,
  List.forall_mem_cons.2 ⟨⟨Try.func92, by kernel_rfl, by kernel_rfl⟩,
  List.forall_mem_cons.2 ⟨⟨Try.func93, by kernel_rfl, by kernel_rfl⟩,
  List.forall_mem_cons.2 ⟨⟨Try.func94, by kernel_rfl, by kernel_rfl⟩,
  List.forall_mem_cons.2 ⟨⟨Try.func95, by kernel_rfl, by kernel_rfl⟩,
  List.forall_mem_cons.2 ⟨⟨Try.func96, by kernel_rfl, by kernel_rfl⟩,
  List.forall_mem_cons.2 ⟨⟨Try.func97, by kernel_rfl, by kernel_rfl⟩,
  List.forall_mem_cons.2 ⟨⟨Try.func98, by kernel_rfl, by kernel_rfl⟩,
  List.forall_mem_cons.2 ⟨⟨Try.func99, by kernel_rfl, by kernel_rfl⟩,
  List.forall_mem_cons.2 ⟨⟨Try.func100, by kernel_rfl, by kernel_rfl⟩,
  List.forall_mem_cons.2 ⟨⟨Try.func101, by kernel_rfl, by kernel_rfl⟩,
  List.forall_mem_cons.2 ⟨⟨Try.func102, by kernel_rfl, by kernel_rfl⟩,
  List.forall_mem_cons.2 ⟨⟨Try.func103, by kernel_rfl, by kernel_rfl⟩,
  List.forall_mem_cons.2 ⟨⟨Try.func104, by kernel_rfl, by kernel_rfl⟩,
  List.forall_mem_cons.2 ⟨⟨Try.func105, by kernel_rfl, by kernel_rfl⟩,
  List.forall_mem_cons.2 ⟨⟨Try.func106, by kernel_rfl, by kernel_rfl⟩,
  List.forall_mem_cons.2 ⟨⟨Try.func107, by kernel_rfl, by kernel_rfl⟩,
  List.forall_mem_cons.2 ⟨⟨Try.func108, by kernel_rfl, by kernel_rfl⟩,
  List.forall_mem_cons.2 ⟨⟨Try.func109, by kernel_rfl, by kernel_rfl⟩,
  List.forall_mem_cons.2 ⟨⟨Try.func110, by kernel_rfl, by kernel_rfl⟩,
  (fun _ h => by cases h)⟩⟩⟩⟩⟩⟩⟩⟩⟩⟩⟩⟩⟩⟩⟩⟩⟩⟩⟩⟩⟩⟩⟩⟩⟩⟩⟩⟩⟩⟩⟩⟩⟩⟩⟩⟩⟩⟩⟩⟩⟩⟩⟩⟩⟩⟩⟩⟩⟩⟩⟩⟩⟩⟩⟩⟩⟩⟩⟩⟩⟩⟩⟩⟩⟩⟩⟩⟩⟩⟩⟩⟩⟩⟩⟩⟩⟩⟩⟩⟩⟩⟩⟩⟩⟩⟩⟩⟩⟩⟩⟩⟩⟩⟩⟩⟩⟩⟩⟩⟩⟩⟩⟩⟩⟩⟩⟩⟩

end Go.Proofs.Ytbgcjbhaaelkhaa.Sx
