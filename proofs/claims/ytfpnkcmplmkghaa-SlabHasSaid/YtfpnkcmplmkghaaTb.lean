/- The tables of types and functions of this seat, as the reckoner takes them. -/
import Derived.Test.YtfpnkcmplmkghaaChecked
import Derived.Test.YtfpnkcmplmkghaaEa
import Derived.KernelRfl
set_option linter.unusedVariables false
namespace Go.Proofs.Ytfpnkcmplmkghaa.Sx

def tys : List (Nat × TI) := [
  (1, ⟨.func #[] #[] false, 1, [.nilFunc]⟩),
  (2, ⟨.int .i64, 1, [.int .i64 0]⟩),
  (3, ⟨.int .i64, 1, [.int .i64 0]⟩),
  (4, ⟨.bool, 1, [.bool false]⟩),
  (22, ⟨.int .i64, 1, [.int .i64 0]⟩),
  (24, ⟨.func #[3, 3] #[3, 3, 22] false, 1, [.nilFunc]⟩),
  (25, ⟨.func #[] #[4] false, 1, [.nilFunc]⟩),
  (26, ⟨.func #[3, 3, 3, 3] #[4] false, 1, [.nilFunc]⟩),
  (27, ⟨.func #[3, 3] #[4] false, 1, [.nilFunc]⟩),
  (28, ⟨.struct #[⟨ "X", 3, 0, false, "", "", 0⟩, ⟨ "Y", 3, 1, false, "", "", 8⟩, ⟨ "Z", 3, 2, false, "", "", 16⟩], 3, [.int .i64 0, .int .i64 0, .int .i64 0]⟩),
  (29, ⟨.struct #[⟨ "X", 3, 0, false, "", "", 0⟩, ⟨ "Y", 3, 1, false, "", "", 8⟩, ⟨ "Z", 3, 2, false, "", "", 16⟩], 3, [.int .i64 0, .int .i64 0, .int .i64 0]⟩),
  (30, ⟨.array 3 29, 9, [.int .i64 0, .int .i64 0, .int .i64 0, .int .i64 0, .int .i64 0, .int .i64 0, .int .i64 0, .int .i64 0, .int .i64 0]⟩),
  (31, ⟨.slice 30, 1, [.slice none 0 0]⟩),
  (32, ⟨.func #[31] #[31] false, 1, [.nilFunc]⟩),
  (34, ⟨.func #[29, 29, 30] #[4, 22] false, 1, [.nilFunc]⟩),
  (36, ⟨.func #[29, 30] #[3, 22] false, 1, [.nilFunc]⟩),
  (38, ⟨.func #[29, 29, 31] #[3, 4, 22] true, 1, [.nilFunc]⟩),
  (39, ⟨.func #[29, 29, 31] #[3, 4, 22] false, 1, [.nilFunc]⟩),
  (40, ⟨.func #[31, 31] #[4] false, 1, [.nilFunc]⟩),
  (41, ⟨.func #[29, 29, 30, 31] #[4] false, 1, [.nilFunc]⟩),
  (42, ⟨.struct #[⟨ "X", 3, 0, false, "", "", 0⟩, ⟨ "Y", 3, 1, false, "", "", 8⟩], 2, [.int .i64 0, .int .i64 0]⟩),
  (43, ⟨.struct #[⟨ "X", 3, 0, false, "", "", 0⟩, ⟨ "Y", 3, 1, false, "", "", 8⟩], 2, [.int .i64 0, .int .i64 0]⟩),
  (44, ⟨.array 3 43, 6, [.int .i64 0, .int .i64 0, .int .i64 0, .int .i64 0, .int .i64 0, .int .i64 0]⟩),
  (45, ⟨.func #[43, 44] #[3, 22] false, 1, [.nilFunc]⟩),
  (46, ⟨.func #[44, 44] #[4, 22] false, 1, [.nilFunc]⟩),
  (47, ⟨.func #[43, 3, 44] #[4, 22] false, 1, [.nilFunc]⟩),
  (48, ⟨.func #[44] #[4] false, 1, [.nilFunc]⟩),
  (49, ⟨.func #[43, 3, 44, 44] #[4] false, 1, [.nilFunc]⟩),
  (50, ⟨.func #[43, 44, 44] #[4] false, 1, [.nilFunc]⟩),
  (51, ⟨.func #[44, 44] #[4] false, 1, [.nilFunc]⟩),
  (52, ⟨.func #[43, 3, 44, 43] #[4] false, 1, [.nilFunc]⟩),
  (53, ⟨.struct #[⟨ "N", 3, 0, false, "", "", 0⟩, ⟨ "D", 3, 1, false, "", "", 8⟩], 2, [.int .i64 0, .int .i64 0]⟩),
  (54, ⟨.struct #[⟨ "N", 3, 0, false, "", "", 0⟩, ⟨ "D", 3, 1, false, "", "", 8⟩], 2, [.int .i64 0, .int .i64 0]⟩),
  (55, ⟨.slice 54, 1, [.slice none 0 0]⟩),
  (56, ⟨.func #[55] #[55] false, 1, [.nilFunc]⟩),
  (57, ⟨.func #[54] #[3, 22] false, 1, [.nilFunc]⟩),
  (59, ⟨.func #[54] #[54, 22] false, 1, [.nilFunc]⟩),
  (61, ⟨.func #[55] #[3, 4] true, 1, [.nilFunc]⟩),
  (62, ⟨.func #[55] #[3, 4] false, 1, [.nilFunc]⟩),
  (63, ⟨.func #[55, 55] #[4] false, 1, [.nilFunc]⟩),
  (64, ⟨.func #[54] #[4] false, 1, [.nilFunc]⟩),
  (65, ⟨.func #[54, 54] #[3] false, 1, [.nilFunc]⟩),
  (66, ⟨.func #[54, 54, 55] #[4] false, 1, [.nilFunc]⟩),
  (67, ⟨.func #[55, 54] #[4] false, 1, [.nilFunc]⟩),
  (68, ⟨.struct #[⟨ "Low", 29, 0, false, "", "", 0⟩, ⟨ "High", 29, 3, false, "", "", 24⟩], 6, [.int .i64 0, .int .i64 0, .int .i64 0, .int .i64 0, .int .i64 0, .int .i64 0]⟩),
  (69, ⟨.struct #[⟨ "Low", 29, 0, false, "", "", 0⟩, ⟨ "High", 29, 3, false, "", "", 24⟩], 6, [.int .i64 0, .int .i64 0, .int .i64 0, .int .i64 0, .int .i64 0, .int .i64 0]⟩),
  (70, ⟨.slice 29, 1, [.slice none 0 0]⟩),
  (72, ⟨.func #[70] #[69, 22] true, 1, [.nilFunc]⟩),
  (73, ⟨.func #[70] #[69, 22] false, 1, [.nilFunc]⟩),
  (74, ⟨.func #[69, 69] #[69, 22] false, 1, [.nilFunc]⟩),
  (75, ⟨.func #[29, 29, 69] #[4, 22] false, 1, [.nilFunc]⟩),
  (76, ⟨.func #[69] #[3, 22] false, 1, [.nilFunc]⟩),
  (77, ⟨.func #[69] #[4] false, 1, [.nilFunc]⟩),
  (78, ⟨.func #[69, 29] #[4] false, 1, [.nilFunc]⟩),
  (79, ⟨.func #[29, 29, 69, 69, 70] #[4] false, 1, [.nilFunc]⟩),
  (80, ⟨.func #[70, 69, 69] #[4] false, 1, [.nilFunc]⟩),
  (81, ⟨.func #[3, 3] #[22] false, 1, [.nilFunc]⟩),
  (82, ⟨.func #[3, 3] #[3, 22] false, 1, [.nilFunc]⟩),
  (83, ⟨.func #[86] #[3, 22] true, 1, [.nilFunc]⟩),
  (84, ⟨.func #[3] #[3, 22] false, 1, [.nilFunc]⟩),
  (85, ⟨.func #[3, 3, 3] #[3, 22] false, 1, [.nilFunc]⟩),
  (86, ⟨.slice 3, 1, [.slice none 0 0]⟩),
  (87, ⟨.struct #[⟨ "Below", 4, 0, false, "", "", 0⟩, ⟨ "D", 86, 1, false, "", "", 8⟩], 2, [.bool false, .slice none 0 0]⟩),
  (88, ⟨.struct #[⟨ "Below", 4, 0, false, "", "", 0⟩, ⟨ "D", 86, 1, false, "", "", 8⟩], 2, [.bool false, .slice none 0 0]⟩),
  (89, ⟨.func #[88, 88] #[88] false, 1, [.nilFunc]⟩),
  (90, ⟨.func #[3] #[88] false, 1, [.nilFunc]⟩),
  (91, ⟨.func #[86, 86] #[4] false, 1, [.nilFunc]⟩),
  (92, ⟨.func #[70] #[4] true, 1, [.nilFunc]⟩),
  (93, ⟨.array 3 3, 3, [.int .i64 0, .int .i64 0, .int .i64 0]⟩),
  (94, ⟨.func #[29, 29, 29, 29] #[3, 22] false, 1, [.nilFunc]⟩),
  (95, ⟨.func #[3] #[4] false, 1, [.nilFunc]⟩),
  (96, ⟨.func #[95, 86] #[4] true, 1, [.nilFunc]⟩),
  (97, ⟨.func #[70, 30] #[4] false, 1, [.nilFunc]⟩),
  (98, ⟨.func #[3, 3] #[3] false, 1, [.nilFunc]⟩),
  (99, ⟨.func #[3] #[3] false, 1, [.nilFunc]⟩),
  (100, ⟨.func #[109] #[4] true, 1, [.nilFunc]⟩),
  (101, ⟨.func #[134] #[] false, 1, [.nilFunc]⟩),
  (102, ⟨.func #[134] #[] false, 1, [.nilFunc]⟩),
  (103, ⟨.func #[44] #[102] false, 1, [.nilFunc]⟩),
  (104, ⟨.func #[43] #[3] false, 1, [.nilFunc]⟩),
  (105, ⟨.func #[43] #[4] false, 1, [.nilFunc]⟩),
  (106, ⟨.func #[44, 3, 43] #[3] false, 1, [.nilFunc]⟩),
  (107, ⟨.func #[44, 44, 3] #[4, 22] false, 1, [.nilFunc]⟩),
  (108, ⟨.func #[44, 109, 4] #[4] false, 1, [.nilFunc]⟩),
  (109, ⟨.slice 43, 1, [.slice none 0 0]⟩),
  (110, ⟨.func #[44, 3, 109] #[4] true, 1, [.nilFunc]⟩),
  (111, ⟨.func #[43, 43, 43] #[3, 22] false, 1, [.nilFunc]⟩),
  (112, ⟨.func #[86] #[3, 22] false, 1, [.nilFunc]⟩),
  (113, ⟨.func #[114] #[3] false, 1, [.nilFunc]⟩),
  (114, ⟨.struct #[⟨ "N", 3, 0, false, "", "", 0⟩, ⟨ "D", 3, 1, false, "", "", 8⟩], 2, [.int .i64 0, .int .i64 0]⟩),
  (115, ⟨.func #[55, 65] #[55] false, 1, [.nilFunc]⟩),
  (116, ⟨.func #[88, 88] #[4] false, 1, [.nilFunc]⟩),
  (117, ⟨.func #[29] #[93] false, 1, [.nilFunc]⟩),
  (118, ⟨.func #[93] #[29] false, 1, [.nilFunc]⟩),
  (119, ⟨.func #[70] #[4] false, 1, [.nilFunc]⟩),
  (120, ⟨.func #[3, 3, 3] #[] false, 1, [.nilFunc]⟩),
  (121, ⟨.func #[29] #[4] false, 1, [.nilFunc]⟩),
  (123, ⟨.func #[3, 3, 3, 3, 54, 54] #[54, 54, 4] false, 1, [.nilFunc]⟩),
  (125, ⟨.func #[3] #[124] false, 1, [.nilFunc]⟩),
  (126, ⟨.func #[3, 95] #[3] false, 1, [.nilFunc]⟩),
  (127, ⟨.func #[4, 86] #[88] false, 1, [.nilFunc]⟩),
  (128, ⟨.func #[88, 88] #[86] false, 1, [.nilFunc]⟩),
  (129, ⟨.func #[88, 88] #[3] false, 1, [.nilFunc]⟩),
  (130, ⟨.func #[3, 86] #[4] true, 1, [.nilFunc]⟩),
  (132, ⟨.func #[29, 29, 29] #[29, 22] false, 1, [.nilFunc]⟩),
  (133, ⟨.func #[29, 29] #[29] false, 1, [.nilFunc]⟩),
  (134, ⟨.func #[104] #[4] false, 1, [.nilFunc]⟩),
  (135, ⟨.func #[44, 3, 109] #[3] false, 1, [.nilFunc]⟩),
  (136, ⟨.array 3 43, 6, [.int .i64 0, .int .i64 0, .int .i64 0, .int .i64 0, .int .i64 0, .int .i64 0]⟩),
  (137, ⟨.func #[] #[3, 22] false, 1, [.nilFunc]⟩),
  (138, ⟨.func #[43, 43] #[3, 22] false, 1, [.nilFunc]⟩),
  (139, ⟨.func #[43, 43] #[43] false, 1, [.nilFunc]⟩),
  (140, ⟨.struct #[⟨ "Hi", 3, 0, false, "", "", 0⟩, ⟨ "Lo", 3, 1, false, "", "", 8⟩], 2, [.int .i64 0, .int .i64 0]⟩),
  (141, ⟨.struct #[⟨ "Hi", 3, 0, false, "", "", 0⟩, ⟨ "Lo", 3, 1, false, "", "", 8⟩], 2, [.int .i64 0, .int .i64 0]⟩),
  (143, ⟨.func #[3, 3] #[141, 22] false, 1, [.nilFunc]⟩),
  (144, ⟨.func #[141, 141] #[3] false, 1, [.nilFunc]⟩),
  (145, ⟨.func #[86] #[3] true, 1, [.nilFunc]⟩),
  (146, ⟨.func #[55, 55, 65] #[55] false, 1, [.nilFunc]⟩),
  (147, ⟨.func #[88] #[88] false, 1, [.nilFunc]⟩),
  (148, ⟨.func #[88, 3] #[3] false, 1, [.nilFunc]⟩),
  (149, ⟨.array 3 29, 9, [.int .i64 0, .int .i64 0, .int .i64 0, .int .i64 0, .int .i64 0, .int .i64 0, .int .i64 0, .int .i64 0, .int .i64 0]⟩),
  (150, ⟨.func #[] #[29, 22] false, 1, [.nilFunc]⟩),
  (151, ⟨.func #[29, 29] #[29, 22] false, 1, [.nilFunc]⟩),
  (152, ⟨.array 2 3, 2, [.int .i64 0, .int .i64 0]⟩),
  (153, ⟨.func #[3] #[152] false, 1, [.nilFunc]⟩),
  (154, ⟨.func #[141] #[141, 22] false, 1, [.nilFunc]⟩),
  (155, ⟨.func #[86] #[4] true, 1, [.nilFunc]⟩),
  (156, ⟨.func #[141] #[4] false, 1, [.nilFunc]⟩),
  (157, ⟨.func #[] #[9] false, 1, [.nilFunc]⟩),
  (163, ⟨.func #[] #[3] false, 1, [.nilFunc]⟩),
  (167, ⟨.func #[173, 173] #[4] false, 1, [.nilFunc]⟩),
  (168, ⟨.pointer 5, 1, [.pointer none]⟩)]

theorem ty1 : TyOk Try.prog 1 ⟨.func #[] #[] false, 1, [.nilFunc]⟩ := ⟨by kernel_rfl, by kernel_rfl⟩
theorem ty2 : TyOk Try.prog 2 ⟨.int .i64, 1, [.int .i64 0]⟩ := ⟨by kernel_rfl, by kernel_rfl⟩
theorem ty3 : TyOk Try.prog 3 ⟨.int .i64, 1, [.int .i64 0]⟩ := ⟨by kernel_rfl, by kernel_rfl⟩
theorem ty4 : TyOk Try.prog 4 ⟨.bool, 1, [.bool false]⟩ := ⟨by kernel_rfl, by kernel_rfl⟩
theorem ty22 : TyOk Try.prog 22 ⟨.int .i64, 1, [.int .i64 0]⟩ := ⟨by kernel_rfl, by kernel_rfl⟩
theorem ty24 : TyOk Try.prog 24 ⟨.func #[3, 3] #[3, 3, 22] false, 1, [.nilFunc]⟩ := ⟨by kernel_rfl, by kernel_rfl⟩
theorem ty25 : TyOk Try.prog 25 ⟨.func #[] #[4] false, 1, [.nilFunc]⟩ := ⟨by kernel_rfl, by kernel_rfl⟩
theorem ty26 : TyOk Try.prog 26 ⟨.func #[3, 3, 3, 3] #[4] false, 1, [.nilFunc]⟩ := ⟨by kernel_rfl, by kernel_rfl⟩
theorem ty27 : TyOk Try.prog 27 ⟨.func #[3, 3] #[4] false, 1, [.nilFunc]⟩ := ⟨by kernel_rfl, by kernel_rfl⟩
theorem ty28 : TyOk Try.prog 28 ⟨.struct #[⟨ "X", 3, 0, false, "", "", 0⟩, ⟨ "Y", 3, 1, false, "", "", 8⟩, ⟨ "Z", 3, 2, false, "", "", 16⟩], 3, [.int .i64 0, .int .i64 0, .int .i64 0]⟩ := ⟨by kernel_rfl, by kernel_rfl⟩
theorem ty29 : TyOk Try.prog 29 ⟨.struct #[⟨ "X", 3, 0, false, "", "", 0⟩, ⟨ "Y", 3, 1, false, "", "", 8⟩, ⟨ "Z", 3, 2, false, "", "", 16⟩], 3, [.int .i64 0, .int .i64 0, .int .i64 0]⟩ := ⟨by kernel_rfl, by kernel_rfl⟩
theorem ty30 : TyOk Try.prog 30 ⟨.array 3 29, 9, [.int .i64 0, .int .i64 0, .int .i64 0, .int .i64 0, .int .i64 0, .int .i64 0, .int .i64 0, .int .i64 0, .int .i64 0]⟩ := ⟨by kernel_rfl, by kernel_rfl⟩
theorem ty31 : TyOk Try.prog 31 ⟨.slice 30, 1, [.slice none 0 0]⟩ := ⟨by kernel_rfl, by kernel_rfl⟩
theorem ty32 : TyOk Try.prog 32 ⟨.func #[31] #[31] false, 1, [.nilFunc]⟩ := ⟨by kernel_rfl, by kernel_rfl⟩
theorem ty34 : TyOk Try.prog 34 ⟨.func #[29, 29, 30] #[4, 22] false, 1, [.nilFunc]⟩ := ⟨by kernel_rfl, by kernel_rfl⟩
theorem ty36 : TyOk Try.prog 36 ⟨.func #[29, 30] #[3, 22] false, 1, [.nilFunc]⟩ := ⟨by kernel_rfl, by kernel_rfl⟩
theorem ty38 : TyOk Try.prog 38 ⟨.func #[29, 29, 31] #[3, 4, 22] true, 1, [.nilFunc]⟩ := ⟨by kernel_rfl, by kernel_rfl⟩
theorem ty39 : TyOk Try.prog 39 ⟨.func #[29, 29, 31] #[3, 4, 22] false, 1, [.nilFunc]⟩ := ⟨by kernel_rfl, by kernel_rfl⟩
theorem ty40 : TyOk Try.prog 40 ⟨.func #[31, 31] #[4] false, 1, [.nilFunc]⟩ := ⟨by kernel_rfl, by kernel_rfl⟩
theorem ty41 : TyOk Try.prog 41 ⟨.func #[29, 29, 30, 31] #[4] false, 1, [.nilFunc]⟩ := ⟨by kernel_rfl, by kernel_rfl⟩
theorem ty42 : TyOk Try.prog 42 ⟨.struct #[⟨ "X", 3, 0, false, "", "", 0⟩, ⟨ "Y", 3, 1, false, "", "", 8⟩], 2, [.int .i64 0, .int .i64 0]⟩ := ⟨by kernel_rfl, by kernel_rfl⟩
theorem ty43 : TyOk Try.prog 43 ⟨.struct #[⟨ "X", 3, 0, false, "", "", 0⟩, ⟨ "Y", 3, 1, false, "", "", 8⟩], 2, [.int .i64 0, .int .i64 0]⟩ := ⟨by kernel_rfl, by kernel_rfl⟩
theorem ty44 : TyOk Try.prog 44 ⟨.array 3 43, 6, [.int .i64 0, .int .i64 0, .int .i64 0, .int .i64 0, .int .i64 0, .int .i64 0]⟩ := ⟨by kernel_rfl, by kernel_rfl⟩
theorem ty45 : TyOk Try.prog 45 ⟨.func #[43, 44] #[3, 22] false, 1, [.nilFunc]⟩ := ⟨by kernel_rfl, by kernel_rfl⟩
theorem ty46 : TyOk Try.prog 46 ⟨.func #[44, 44] #[4, 22] false, 1, [.nilFunc]⟩ := ⟨by kernel_rfl, by kernel_rfl⟩
theorem ty47 : TyOk Try.prog 47 ⟨.func #[43, 3, 44] #[4, 22] false, 1, [.nilFunc]⟩ := ⟨by kernel_rfl, by kernel_rfl⟩
theorem ty48 : TyOk Try.prog 48 ⟨.func #[44] #[4] false, 1, [.nilFunc]⟩ := ⟨by kernel_rfl, by kernel_rfl⟩
theorem ty49 : TyOk Try.prog 49 ⟨.func #[43, 3, 44, 44] #[4] false, 1, [.nilFunc]⟩ := ⟨by kernel_rfl, by kernel_rfl⟩
theorem ty50 : TyOk Try.prog 50 ⟨.func #[43, 44, 44] #[4] false, 1, [.nilFunc]⟩ := ⟨by kernel_rfl, by kernel_rfl⟩
theorem ty51 : TyOk Try.prog 51 ⟨.func #[44, 44] #[4] false, 1, [.nilFunc]⟩ := ⟨by kernel_rfl, by kernel_rfl⟩
theorem ty52 : TyOk Try.prog 52 ⟨.func #[43, 3, 44, 43] #[4] false, 1, [.nilFunc]⟩ := ⟨by kernel_rfl, by kernel_rfl⟩
theorem ty53 : TyOk Try.prog 53 ⟨.struct #[⟨ "N", 3, 0, false, "", "", 0⟩, ⟨ "D", 3, 1, false, "", "", 8⟩], 2, [.int .i64 0, .int .i64 0]⟩ := ⟨by kernel_rfl, by kernel_rfl⟩
theorem ty54 : TyOk Try.prog 54 ⟨.struct #[⟨ "N", 3, 0, false, "", "", 0⟩, ⟨ "D", 3, 1, false, "", "", 8⟩], 2, [.int .i64 0, .int .i64 0]⟩ := ⟨by kernel_rfl, by kernel_rfl⟩
theorem ty55 : TyOk Try.prog 55 ⟨.slice 54, 1, [.slice none 0 0]⟩ := ⟨by kernel_rfl, by kernel_rfl⟩
theorem ty56 : TyOk Try.prog 56 ⟨.func #[55] #[55] false, 1, [.nilFunc]⟩ := ⟨by kernel_rfl, by kernel_rfl⟩
theorem ty57 : TyOk Try.prog 57 ⟨.func #[54] #[3, 22] false, 1, [.nilFunc]⟩ := ⟨by kernel_rfl, by kernel_rfl⟩
theorem ty59 : TyOk Try.prog 59 ⟨.func #[54] #[54, 22] false, 1, [.nilFunc]⟩ := ⟨by kernel_rfl, by kernel_rfl⟩
theorem ty61 : TyOk Try.prog 61 ⟨.func #[55] #[3, 4] true, 1, [.nilFunc]⟩ := ⟨by kernel_rfl, by kernel_rfl⟩
theorem ty62 : TyOk Try.prog 62 ⟨.func #[55] #[3, 4] false, 1, [.nilFunc]⟩ := ⟨by kernel_rfl, by kernel_rfl⟩
theorem ty63 : TyOk Try.prog 63 ⟨.func #[55, 55] #[4] false, 1, [.nilFunc]⟩ := ⟨by kernel_rfl, by kernel_rfl⟩
theorem ty64 : TyOk Try.prog 64 ⟨.func #[54] #[4] false, 1, [.nilFunc]⟩ := ⟨by kernel_rfl, by kernel_rfl⟩
theorem ty65 : TyOk Try.prog 65 ⟨.func #[54, 54] #[3] false, 1, [.nilFunc]⟩ := ⟨by kernel_rfl, by kernel_rfl⟩
theorem ty66 : TyOk Try.prog 66 ⟨.func #[54, 54, 55] #[4] false, 1, [.nilFunc]⟩ := ⟨by kernel_rfl, by kernel_rfl⟩
theorem ty67 : TyOk Try.prog 67 ⟨.func #[55, 54] #[4] false, 1, [.nilFunc]⟩ := ⟨by kernel_rfl, by kernel_rfl⟩
theorem ty68 : TyOk Try.prog 68 ⟨.struct #[⟨ "Low", 29, 0, false, "", "", 0⟩, ⟨ "High", 29, 3, false, "", "", 24⟩], 6, [.int .i64 0, .int .i64 0, .int .i64 0, .int .i64 0, .int .i64 0, .int .i64 0]⟩ := ⟨by kernel_rfl, by kernel_rfl⟩
theorem ty69 : TyOk Try.prog 69 ⟨.struct #[⟨ "Low", 29, 0, false, "", "", 0⟩, ⟨ "High", 29, 3, false, "", "", 24⟩], 6, [.int .i64 0, .int .i64 0, .int .i64 0, .int .i64 0, .int .i64 0, .int .i64 0]⟩ := ⟨by kernel_rfl, by kernel_rfl⟩
theorem ty70 : TyOk Try.prog 70 ⟨.slice 29, 1, [.slice none 0 0]⟩ := ⟨by kernel_rfl, by kernel_rfl⟩
theorem ty72 : TyOk Try.prog 72 ⟨.func #[70] #[69, 22] true, 1, [.nilFunc]⟩ := ⟨by kernel_rfl, by kernel_rfl⟩
theorem ty73 : TyOk Try.prog 73 ⟨.func #[70] #[69, 22] false, 1, [.nilFunc]⟩ := ⟨by kernel_rfl, by kernel_rfl⟩
theorem ty74 : TyOk Try.prog 74 ⟨.func #[69, 69] #[69, 22] false, 1, [.nilFunc]⟩ := ⟨by kernel_rfl, by kernel_rfl⟩
theorem ty75 : TyOk Try.prog 75 ⟨.func #[29, 29, 69] #[4, 22] false, 1, [.nilFunc]⟩ := ⟨by kernel_rfl, by kernel_rfl⟩
theorem ty76 : TyOk Try.prog 76 ⟨.func #[69] #[3, 22] false, 1, [.nilFunc]⟩ := ⟨by kernel_rfl, by kernel_rfl⟩
theorem ty77 : TyOk Try.prog 77 ⟨.func #[69] #[4] false, 1, [.nilFunc]⟩ := ⟨by kernel_rfl, by kernel_rfl⟩
theorem ty78 : TyOk Try.prog 78 ⟨.func #[69, 29] #[4] false, 1, [.nilFunc]⟩ := ⟨by kernel_rfl, by kernel_rfl⟩
theorem ty79 : TyOk Try.prog 79 ⟨.func #[29, 29, 69, 69, 70] #[4] false, 1, [.nilFunc]⟩ := ⟨by kernel_rfl, by kernel_rfl⟩
theorem ty80 : TyOk Try.prog 80 ⟨.func #[70, 69, 69] #[4] false, 1, [.nilFunc]⟩ := ⟨by kernel_rfl, by kernel_rfl⟩
theorem ty81 : TyOk Try.prog 81 ⟨.func #[3, 3] #[22] false, 1, [.nilFunc]⟩ := ⟨by kernel_rfl, by kernel_rfl⟩
theorem ty82 : TyOk Try.prog 82 ⟨.func #[3, 3] #[3, 22] false, 1, [.nilFunc]⟩ := ⟨by kernel_rfl, by kernel_rfl⟩
theorem ty83 : TyOk Try.prog 83 ⟨.func #[86] #[3, 22] true, 1, [.nilFunc]⟩ := ⟨by kernel_rfl, by kernel_rfl⟩
theorem ty84 : TyOk Try.prog 84 ⟨.func #[3] #[3, 22] false, 1, [.nilFunc]⟩ := ⟨by kernel_rfl, by kernel_rfl⟩
theorem ty85 : TyOk Try.prog 85 ⟨.func #[3, 3, 3] #[3, 22] false, 1, [.nilFunc]⟩ := ⟨by kernel_rfl, by kernel_rfl⟩
theorem ty86 : TyOk Try.prog 86 ⟨.slice 3, 1, [.slice none 0 0]⟩ := ⟨by kernel_rfl, by kernel_rfl⟩
theorem ty87 : TyOk Try.prog 87 ⟨.struct #[⟨ "Below", 4, 0, false, "", "", 0⟩, ⟨ "D", 86, 1, false, "", "", 8⟩], 2, [.bool false, .slice none 0 0]⟩ := ⟨by kernel_rfl, by kernel_rfl⟩
theorem ty88 : TyOk Try.prog 88 ⟨.struct #[⟨ "Below", 4, 0, false, "", "", 0⟩, ⟨ "D", 86, 1, false, "", "", 8⟩], 2, [.bool false, .slice none 0 0]⟩ := ⟨by kernel_rfl, by kernel_rfl⟩
theorem ty89 : TyOk Try.prog 89 ⟨.func #[88, 88] #[88] false, 1, [.nilFunc]⟩ := ⟨by kernel_rfl, by kernel_rfl⟩
theorem ty90 : TyOk Try.prog 90 ⟨.func #[3] #[88] false, 1, [.nilFunc]⟩ := ⟨by kernel_rfl, by kernel_rfl⟩
theorem ty91 : TyOk Try.prog 91 ⟨.func #[86, 86] #[4] false, 1, [.nilFunc]⟩ := ⟨by kernel_rfl, by kernel_rfl⟩
theorem ty92 : TyOk Try.prog 92 ⟨.func #[70] #[4] true, 1, [.nilFunc]⟩ := ⟨by kernel_rfl, by kernel_rfl⟩
theorem ty93 : TyOk Try.prog 93 ⟨.array 3 3, 3, [.int .i64 0, .int .i64 0, .int .i64 0]⟩ := ⟨by kernel_rfl, by kernel_rfl⟩
theorem ty94 : TyOk Try.prog 94 ⟨.func #[29, 29, 29, 29] #[3, 22] false, 1, [.nilFunc]⟩ := ⟨by kernel_rfl, by kernel_rfl⟩
theorem ty95 : TyOk Try.prog 95 ⟨.func #[3] #[4] false, 1, [.nilFunc]⟩ := ⟨by kernel_rfl, by kernel_rfl⟩
theorem ty96 : TyOk Try.prog 96 ⟨.func #[95, 86] #[4] true, 1, [.nilFunc]⟩ := ⟨by kernel_rfl, by kernel_rfl⟩
theorem ty97 : TyOk Try.prog 97 ⟨.func #[70, 30] #[4] false, 1, [.nilFunc]⟩ := ⟨by kernel_rfl, by kernel_rfl⟩
theorem ty98 : TyOk Try.prog 98 ⟨.func #[3, 3] #[3] false, 1, [.nilFunc]⟩ := ⟨by kernel_rfl, by kernel_rfl⟩
theorem ty99 : TyOk Try.prog 99 ⟨.func #[3] #[3] false, 1, [.nilFunc]⟩ := ⟨by kernel_rfl, by kernel_rfl⟩
theorem ty100 : TyOk Try.prog 100 ⟨.func #[109] #[4] true, 1, [.nilFunc]⟩ := ⟨by kernel_rfl, by kernel_rfl⟩
theorem ty101 : TyOk Try.prog 101 ⟨.func #[134] #[] false, 1, [.nilFunc]⟩ := ⟨by kernel_rfl, by kernel_rfl⟩
theorem ty102 : TyOk Try.prog 102 ⟨.func #[134] #[] false, 1, [.nilFunc]⟩ := ⟨by kernel_rfl, by kernel_rfl⟩
theorem ty103 : TyOk Try.prog 103 ⟨.func #[44] #[102] false, 1, [.nilFunc]⟩ := ⟨by kernel_rfl, by kernel_rfl⟩
theorem ty104 : TyOk Try.prog 104 ⟨.func #[43] #[3] false, 1, [.nilFunc]⟩ := ⟨by kernel_rfl, by kernel_rfl⟩
theorem ty105 : TyOk Try.prog 105 ⟨.func #[43] #[4] false, 1, [.nilFunc]⟩ := ⟨by kernel_rfl, by kernel_rfl⟩
theorem ty106 : TyOk Try.prog 106 ⟨.func #[44, 3, 43] #[3] false, 1, [.nilFunc]⟩ := ⟨by kernel_rfl, by kernel_rfl⟩
theorem ty107 : TyOk Try.prog 107 ⟨.func #[44, 44, 3] #[4, 22] false, 1, [.nilFunc]⟩ := ⟨by kernel_rfl, by kernel_rfl⟩
theorem ty108 : TyOk Try.prog 108 ⟨.func #[44, 109, 4] #[4] false, 1, [.nilFunc]⟩ := ⟨by kernel_rfl, by kernel_rfl⟩
theorem ty109 : TyOk Try.prog 109 ⟨.slice 43, 1, [.slice none 0 0]⟩ := ⟨by kernel_rfl, by kernel_rfl⟩
theorem ty110 : TyOk Try.prog 110 ⟨.func #[44, 3, 109] #[4] true, 1, [.nilFunc]⟩ := ⟨by kernel_rfl, by kernel_rfl⟩
theorem ty111 : TyOk Try.prog 111 ⟨.func #[43, 43, 43] #[3, 22] false, 1, [.nilFunc]⟩ := ⟨by kernel_rfl, by kernel_rfl⟩
theorem ty112 : TyOk Try.prog 112 ⟨.func #[86] #[3, 22] false, 1, [.nilFunc]⟩ := ⟨by kernel_rfl, by kernel_rfl⟩
theorem ty113 : TyOk Try.prog 113 ⟨.func #[114] #[3] false, 1, [.nilFunc]⟩ := ⟨by kernel_rfl, by kernel_rfl⟩
theorem ty114 : TyOk Try.prog 114 ⟨.struct #[⟨ "N", 3, 0, false, "", "", 0⟩, ⟨ "D", 3, 1, false, "", "", 8⟩], 2, [.int .i64 0, .int .i64 0]⟩ := ⟨by kernel_rfl, by kernel_rfl⟩
theorem ty115 : TyOk Try.prog 115 ⟨.func #[55, 65] #[55] false, 1, [.nilFunc]⟩ := ⟨by kernel_rfl, by kernel_rfl⟩
theorem ty116 : TyOk Try.prog 116 ⟨.func #[88, 88] #[4] false, 1, [.nilFunc]⟩ := ⟨by kernel_rfl, by kernel_rfl⟩
theorem ty117 : TyOk Try.prog 117 ⟨.func #[29] #[93] false, 1, [.nilFunc]⟩ := ⟨by kernel_rfl, by kernel_rfl⟩
theorem ty118 : TyOk Try.prog 118 ⟨.func #[93] #[29] false, 1, [.nilFunc]⟩ := ⟨by kernel_rfl, by kernel_rfl⟩
theorem ty119 : TyOk Try.prog 119 ⟨.func #[70] #[4] false, 1, [.nilFunc]⟩ := ⟨by kernel_rfl, by kernel_rfl⟩
theorem ty120 : TyOk Try.prog 120 ⟨.func #[3, 3, 3] #[] false, 1, [.nilFunc]⟩ := ⟨by kernel_rfl, by kernel_rfl⟩
theorem ty121 : TyOk Try.prog 121 ⟨.func #[29] #[4] false, 1, [.nilFunc]⟩ := ⟨by kernel_rfl, by kernel_rfl⟩
theorem ty123 : TyOk Try.prog 123 ⟨.func #[3, 3, 3, 3, 54, 54] #[54, 54, 4] false, 1, [.nilFunc]⟩ := ⟨by kernel_rfl, by kernel_rfl⟩
theorem ty125 : TyOk Try.prog 125 ⟨.func #[3] #[124] false, 1, [.nilFunc]⟩ := ⟨by kernel_rfl, by kernel_rfl⟩
theorem ty126 : TyOk Try.prog 126 ⟨.func #[3, 95] #[3] false, 1, [.nilFunc]⟩ := ⟨by kernel_rfl, by kernel_rfl⟩
theorem ty127 : TyOk Try.prog 127 ⟨.func #[4, 86] #[88] false, 1, [.nilFunc]⟩ := ⟨by kernel_rfl, by kernel_rfl⟩
theorem ty128 : TyOk Try.prog 128 ⟨.func #[88, 88] #[86] false, 1, [.nilFunc]⟩ := ⟨by kernel_rfl, by kernel_rfl⟩
theorem ty129 : TyOk Try.prog 129 ⟨.func #[88, 88] #[3] false, 1, [.nilFunc]⟩ := ⟨by kernel_rfl, by kernel_rfl⟩
theorem ty130 : TyOk Try.prog 130 ⟨.func #[3, 86] #[4] true, 1, [.nilFunc]⟩ := ⟨by kernel_rfl, by kernel_rfl⟩
theorem ty132 : TyOk Try.prog 132 ⟨.func #[29, 29, 29] #[29, 22] false, 1, [.nilFunc]⟩ := ⟨by kernel_rfl, by kernel_rfl⟩
theorem ty133 : TyOk Try.prog 133 ⟨.func #[29, 29] #[29] false, 1, [.nilFunc]⟩ := ⟨by kernel_rfl, by kernel_rfl⟩
theorem ty134 : TyOk Try.prog 134 ⟨.func #[104] #[4] false, 1, [.nilFunc]⟩ := ⟨by kernel_rfl, by kernel_rfl⟩
theorem ty135 : TyOk Try.prog 135 ⟨.func #[44, 3, 109] #[3] false, 1, [.nilFunc]⟩ := ⟨by kernel_rfl, by kernel_rfl⟩
theorem ty136 : TyOk Try.prog 136 ⟨.array 3 43, 6, [.int .i64 0, .int .i64 0, .int .i64 0, .int .i64 0, .int .i64 0, .int .i64 0]⟩ := ⟨by kernel_rfl, by kernel_rfl⟩
theorem ty137 : TyOk Try.prog 137 ⟨.func #[] #[3, 22] false, 1, [.nilFunc]⟩ := ⟨by kernel_rfl, by kernel_rfl⟩
theorem ty138 : TyOk Try.prog 138 ⟨.func #[43, 43] #[3, 22] false, 1, [.nilFunc]⟩ := ⟨by kernel_rfl, by kernel_rfl⟩
theorem ty139 : TyOk Try.prog 139 ⟨.func #[43, 43] #[43] false, 1, [.nilFunc]⟩ := ⟨by kernel_rfl, by kernel_rfl⟩
theorem ty140 : TyOk Try.prog 140 ⟨.struct #[⟨ "Hi", 3, 0, false, "", "", 0⟩, ⟨ "Lo", 3, 1, false, "", "", 8⟩], 2, [.int .i64 0, .int .i64 0]⟩ := ⟨by kernel_rfl, by kernel_rfl⟩
theorem ty141 : TyOk Try.prog 141 ⟨.struct #[⟨ "Hi", 3, 0, false, "", "", 0⟩, ⟨ "Lo", 3, 1, false, "", "", 8⟩], 2, [.int .i64 0, .int .i64 0]⟩ := ⟨by kernel_rfl, by kernel_rfl⟩
theorem ty143 : TyOk Try.prog 143 ⟨.func #[3, 3] #[141, 22] false, 1, [.nilFunc]⟩ := ⟨by kernel_rfl, by kernel_rfl⟩
theorem ty144 : TyOk Try.prog 144 ⟨.func #[141, 141] #[3] false, 1, [.nilFunc]⟩ := ⟨by kernel_rfl, by kernel_rfl⟩
theorem ty145 : TyOk Try.prog 145 ⟨.func #[86] #[3] true, 1, [.nilFunc]⟩ := ⟨by kernel_rfl, by kernel_rfl⟩
theorem ty146 : TyOk Try.prog 146 ⟨.func #[55, 55, 65] #[55] false, 1, [.nilFunc]⟩ := ⟨by kernel_rfl, by kernel_rfl⟩
theorem ty147 : TyOk Try.prog 147 ⟨.func #[88] #[88] false, 1, [.nilFunc]⟩ := ⟨by kernel_rfl, by kernel_rfl⟩
theorem ty148 : TyOk Try.prog 148 ⟨.func #[88, 3] #[3] false, 1, [.nilFunc]⟩ := ⟨by kernel_rfl, by kernel_rfl⟩
theorem ty149 : TyOk Try.prog 149 ⟨.array 3 29, 9, [.int .i64 0, .int .i64 0, .int .i64 0, .int .i64 0, .int .i64 0, .int .i64 0, .int .i64 0, .int .i64 0, .int .i64 0]⟩ := ⟨by kernel_rfl, by kernel_rfl⟩
theorem ty150 : TyOk Try.prog 150 ⟨.func #[] #[29, 22] false, 1, [.nilFunc]⟩ := ⟨by kernel_rfl, by kernel_rfl⟩
theorem ty151 : TyOk Try.prog 151 ⟨.func #[29, 29] #[29, 22] false, 1, [.nilFunc]⟩ := ⟨by kernel_rfl, by kernel_rfl⟩
theorem ty152 : TyOk Try.prog 152 ⟨.array 2 3, 2, [.int .i64 0, .int .i64 0]⟩ := ⟨by kernel_rfl, by kernel_rfl⟩
theorem ty153 : TyOk Try.prog 153 ⟨.func #[3] #[152] false, 1, [.nilFunc]⟩ := ⟨by kernel_rfl, by kernel_rfl⟩
theorem ty154 : TyOk Try.prog 154 ⟨.func #[141] #[141, 22] false, 1, [.nilFunc]⟩ := ⟨by kernel_rfl, by kernel_rfl⟩
theorem ty155 : TyOk Try.prog 155 ⟨.func #[86] #[4] true, 1, [.nilFunc]⟩ := ⟨by kernel_rfl, by kernel_rfl⟩
theorem ty156 : TyOk Try.prog 156 ⟨.func #[141] #[4] false, 1, [.nilFunc]⟩ := ⟨by kernel_rfl, by kernel_rfl⟩
theorem ty157 : TyOk Try.prog 157 ⟨.func #[] #[9] false, 1, [.nilFunc]⟩ := ⟨by kernel_rfl, by kernel_rfl⟩
theorem ty163 : TyOk Try.prog 163 ⟨.func #[] #[3] false, 1, [.nilFunc]⟩ := ⟨by kernel_rfl, by kernel_rfl⟩
theorem ty167 : TyOk Try.prog 167 ⟨.func #[173, 173] #[4] false, 1, [.nilFunc]⟩ := ⟨by kernel_rfl, by kernel_rfl⟩
theorem ty168 : TyOk Try.prog 168 ⟨.pointer 5, 1, [.pointer none]⟩ := ⟨by kernel_rfl, by kernel_rfl⟩
theorem tys_ok : ∀ e ∈ tys, TyOk Try.prog e.1 e.2 :=
  List.forall_mem_cons.2 ⟨ty1,
  List.forall_mem_cons.2 ⟨ty2,
  List.forall_mem_cons.2 ⟨ty3,
  List.forall_mem_cons.2 ⟨ty4,
  List.forall_mem_cons.2 ⟨ty22,
  List.forall_mem_cons.2 ⟨ty24,
  List.forall_mem_cons.2 ⟨ty25,
  List.forall_mem_cons.2 ⟨ty26,
  List.forall_mem_cons.2 ⟨ty27,
  List.forall_mem_cons.2 ⟨ty28,
  List.forall_mem_cons.2 ⟨ty29,
  List.forall_mem_cons.2 ⟨ty30,
  List.forall_mem_cons.2 ⟨ty31,
  List.forall_mem_cons.2 ⟨ty32,
  List.forall_mem_cons.2 ⟨ty34,
  List.forall_mem_cons.2 ⟨ty36,
  List.forall_mem_cons.2 ⟨ty38,
  List.forall_mem_cons.2 ⟨ty39,
  List.forall_mem_cons.2 ⟨ty40,
  List.forall_mem_cons.2 ⟨ty41,
  List.forall_mem_cons.2 ⟨ty42,
  List.forall_mem_cons.2 ⟨ty43,
  List.forall_mem_cons.2 ⟨ty44,
  List.forall_mem_cons.2 ⟨ty45,
  List.forall_mem_cons.2 ⟨ty46,
  List.forall_mem_cons.2 ⟨ty47,
  List.forall_mem_cons.2 ⟨ty48,
  List.forall_mem_cons.2 ⟨ty49,
  List.forall_mem_cons.2 ⟨ty50,
  List.forall_mem_cons.2 ⟨ty51,
  List.forall_mem_cons.2 ⟨ty52,
  List.forall_mem_cons.2 ⟨ty53,
  List.forall_mem_cons.2 ⟨ty54,
  List.forall_mem_cons.2 ⟨ty55,
  List.forall_mem_cons.2 ⟨ty56,
  List.forall_mem_cons.2 ⟨ty57,
  List.forall_mem_cons.2 ⟨ty59,
  List.forall_mem_cons.2 ⟨ty61,
  List.forall_mem_cons.2 ⟨ty62,
  List.forall_mem_cons.2 ⟨ty63,
  List.forall_mem_cons.2 ⟨ty64,
  List.forall_mem_cons.2 ⟨ty65,
  List.forall_mem_cons.2 ⟨ty66,
  List.forall_mem_cons.2 ⟨ty67,
  List.forall_mem_cons.2 ⟨ty68,
  List.forall_mem_cons.2 ⟨ty69,
  List.forall_mem_cons.2 ⟨ty70,
  List.forall_mem_cons.2 ⟨ty72,
  List.forall_mem_cons.2 ⟨ty73,
  List.forall_mem_cons.2 ⟨ty74,
  List.forall_mem_cons.2 ⟨ty75,
  List.forall_mem_cons.2 ⟨ty76,
  List.forall_mem_cons.2 ⟨ty77,
  List.forall_mem_cons.2 ⟨ty78,
  List.forall_mem_cons.2 ⟨ty79,
  List.forall_mem_cons.2 ⟨ty80,
  List.forall_mem_cons.2 ⟨ty81,
  List.forall_mem_cons.2 ⟨ty82,
  List.forall_mem_cons.2 ⟨ty83,
  List.forall_mem_cons.2 ⟨ty84,
  List.forall_mem_cons.2 ⟨ty85,
  List.forall_mem_cons.2 ⟨ty86,
  List.forall_mem_cons.2 ⟨ty87,
  List.forall_mem_cons.2 ⟨ty88,
  List.forall_mem_cons.2 ⟨ty89,
  List.forall_mem_cons.2 ⟨ty90,
  List.forall_mem_cons.2 ⟨ty91,
  List.forall_mem_cons.2 ⟨ty92,
  List.forall_mem_cons.2 ⟨ty93,
  List.forall_mem_cons.2 ⟨ty94,
  List.forall_mem_cons.2 ⟨ty95,
  List.forall_mem_cons.2 ⟨ty96,
  List.forall_mem_cons.2 ⟨ty97,
  List.forall_mem_cons.2 ⟨ty98,
  List.forall_mem_cons.2 ⟨ty99,
  List.forall_mem_cons.2 ⟨ty100,
  List.forall_mem_cons.2 ⟨ty101,
  List.forall_mem_cons.2 ⟨ty102,
  List.forall_mem_cons.2 ⟨ty103,
  List.forall_mem_cons.2 ⟨ty104,
  List.forall_mem_cons.2 ⟨ty105,
  List.forall_mem_cons.2 ⟨ty106,
  List.forall_mem_cons.2 ⟨ty107,
  List.forall_mem_cons.2 ⟨ty108,
  List.forall_mem_cons.2 ⟨ty109,
  List.forall_mem_cons.2 ⟨ty110,
  List.forall_mem_cons.2 ⟨ty111,
  List.forall_mem_cons.2 ⟨ty112,
  List.forall_mem_cons.2 ⟨ty113,
  List.forall_mem_cons.2 ⟨ty114,
  List.forall_mem_cons.2 ⟨ty115,
  List.forall_mem_cons.2 ⟨ty116,
  List.forall_mem_cons.2 ⟨ty117,
  List.forall_mem_cons.2 ⟨ty118,
  List.forall_mem_cons.2 ⟨ty119,
  List.forall_mem_cons.2 ⟨ty120,
  List.forall_mem_cons.2 ⟨ty121,
  List.forall_mem_cons.2 ⟨ty123,
  List.forall_mem_cons.2 ⟨ty125,
  List.forall_mem_cons.2 ⟨ty126,
  List.forall_mem_cons.2 ⟨ty127,
  List.forall_mem_cons.2 ⟨ty128,
  List.forall_mem_cons.2 ⟨ty129,
  List.forall_mem_cons.2 ⟨ty130,
  List.forall_mem_cons.2 ⟨ty132,
  List.forall_mem_cons.2 ⟨ty133,
  List.forall_mem_cons.2 ⟨ty134,
  List.forall_mem_cons.2 ⟨ty135,
  List.forall_mem_cons.2 ⟨ty136,
  List.forall_mem_cons.2 ⟨ty137,
  List.forall_mem_cons.2 ⟨ty138,
  List.forall_mem_cons.2 ⟨ty139,
  List.forall_mem_cons.2 ⟨ty140,
  List.forall_mem_cons.2 ⟨ty141,
  List.forall_mem_cons.2 ⟨ty143,
  List.forall_mem_cons.2 ⟨ty144,
  List.forall_mem_cons.2 ⟨ty145,
  List.forall_mem_cons.2 ⟨ty146,
  List.forall_mem_cons.2 ⟨ty147,
  List.forall_mem_cons.2 ⟨ty148,
  List.forall_mem_cons.2 ⟨ty149,
  List.forall_mem_cons.2 ⟨ty150,
  List.forall_mem_cons.2 ⟨ty151,
  List.forall_mem_cons.2 ⟨ty152,
  List.forall_mem_cons.2 ⟨ty153,
  List.forall_mem_cons.2 ⟨ty154,
  List.forall_mem_cons.2 ⟨ty155,
  List.forall_mem_cons.2 ⟨ty156,
  List.forall_mem_cons.2 ⟨ty157,
  List.forall_mem_cons.2 ⟨ty163,
  List.forall_mem_cons.2 ⟨ty167,
  List.forall_mem_cons.2 ⟨ty168,
  (fun _ h => by cases h)⟩⟩⟩⟩⟩⟩⟩⟩⟩⟩⟩⟩⟩⟩⟩⟩⟩⟩⟩⟩⟩⟩⟩⟩⟩⟩⟩⟩⟩⟩⟩⟩⟩⟩⟩⟩⟩⟩⟩⟩⟩⟩⟩⟩⟩⟩⟩⟩⟩⟩⟩⟩⟩⟩⟩⟩⟩⟩⟩⟩⟩⟩⟩⟩⟩⟩⟩⟩⟩⟩⟩⟩⟩⟩⟩⟩⟩⟩⟩⟩⟩⟩⟩⟩⟩⟩⟩⟩⟩⟩⟩⟩⟩⟩⟩⟩⟩⟩⟩⟩⟩⟩⟩⟩⟩⟩⟩⟩⟩⟩⟩⟩⟩⟩⟩⟩⟩⟩⟩⟩⟩⟩⟩⟩⟩⟩⟩⟩⟩⟩⟩⟩

noncomputable def fns : List (Nat × Func) := [(3, Try.f3), (4, Try.f4), (5, Try.f5), (6, Try.f6), (7, Try.f7), (8, Try.f8), (9, Try.f9), (10, Try.f10), (11, Try.f11), (12, Try.f12), (13, Try.f13), (14, Try.f14), (15, Try.f15), (16, Try.f16), (17, Try.f17), (18, Try.f18), (19, Try.f19), (20, Try.f20), (21, Try.f21), (22, Try.f22), (23, Try.f23), (24, Try.f24), (25, Try.f25), (26, Try.f26), (27, Try.f27), (28, Try.f28), (29, Try.f29), (30, Try.f30), (31, Try.f31), (32, Try.f32), (33, Try.f33), (34, Try.f34), (35, Try.f35), (36, Try.f36), (37, Try.f37), (38, Try.f38), (39, Try.f39), (40, Try.f40), (41, Try.f41), (42, Try.f42), (43, Try.f43), (44, Try.f44), (45, Try.f45), (46, Try.f46), (47, Try.f47), (48, Try.f48), (49, Try.f49), (50, Try.f50), (51, Try.f51), (52, Try.f52), (53, Try.f53), (54, Try.f54), (55, Try.f55), (56, Try.f56), (57, Try.f57), (58, Try.f58), (59, Try.f59), (60, Try.f60), (61, Try.f61), (62, Try.f62), (63, Try.f63), (64, Try.f64), (65, Try.f65), (66, Try.f66), (67, Try.f67), (68, Try.f68), (69, Try.f69), (70, Try.f70), (71, Try.f71), (72, Try.f72), (73, Try.f73), (74, Try.f74), (75, Try.f75), (76, Try.f76), (77, Try.f77), (78, Try.f78), (79, Try.f79), (80, Try.f80), (81, Try.f81), (82, Try.f82), (83, Try.f83), (84, Try.f84), (85, Try.f85), (86, Try.f86), (87, Try.f87), (88, Try.f88), (89, Try.f89), (90, Try.f90), (91, Try.f91), (92, Try.f92), (93, Try.f93), (94, Try.f94), (95, Try.f95), (96, Try.f96), (97, Try.f97), (98, Try.f98), (99, Try.f99), (100, Try.f100), (101, Try.f101), (102, Try.f102), (103, Try.f103), (104, Try.f104), (105, Try.f105), (106, Try.f106), (107, Try.f107), (108, Try.f108), (109, Try.f109), (110, Try.f110), (111, Try.f111), (112, Try.f112), (113, Try.f113), (114, Try.f114), (115, Try.f115), (116, Try.f116), (117, Try.f117), (118, Try.f118), (119, Try.f119), (120, Try.f120), (121, Try.f121), (122, Try.f122), (123, Try.f123), (124, Try.f124), (125, Try.f125), (126, Try.f126), (127, Try.f127), (128, Try.f128), (129, Try.f129), (130, Try.f130), (131, Try.f131), (132, Try.f132), (133, Try.f133), (134, Try.f134), (135, Try.f135), (136, Try.f136), (137, Try.f137), (138, Try.f138), (139, Try.f139), (140, Try.f140), (141, Try.f141), (142, Try.f142), (143, Try.f143), (144, Try.f144), (145, Try.f145), (146, Try.f146), (147, Try.f147), (148, Try.f148), (149, Try.f149), (150, Try.f150)]
theorem fns_ok : ∀ e ∈ fns, FnOk Try.prog e.1 e.2 :=
  List.forall_mem_cons.2 ⟨⟨Try.func3, by kernel_rfl, by kernel_rfl⟩,
  List.forall_mem_cons.2 ⟨⟨Try.func4, by kernel_rfl, by kernel_rfl⟩,
  List.forall_mem_cons.2 ⟨⟨Try.func5, by kernel_rfl, by kernel_rfl⟩,
  List.forall_mem_cons.2 ⟨⟨Try.func6, by kernel_rfl, by kernel_rfl⟩,
  List.forall_mem_cons.2 ⟨⟨Try.func7, by kernel_rfl, by kernel_rfl⟩,
  List.forall_mem_cons.2 ⟨⟨Try.func8, by kernel_rfl, by kernel_rfl⟩,
  List.forall_mem_cons.2 ⟨⟨Try.func9, by kernel_rfl, by kernel_rfl⟩,
  List.forall_mem_cons.2 ⟨⟨Try.func10, by kernel_rfl, by kernel_rfl⟩,
  List.forall_mem_cons.2 ⟨⟨Try.func11, by kernel_rfl, by kernel_rfl⟩,
  List.forall_mem_cons.2 ⟨⟨Try.func12, by kernel_rfl, by kernel_rfl⟩,
  List.forall_mem_cons.2 ⟨⟨Try.func13, by kernel_rfl, by kernel_rfl⟩,
  List.forall_mem_cons.2 ⟨⟨Try.func14, by kernel_rfl, by kernel_rfl⟩,
  List.forall_mem_cons.2 ⟨⟨Try.func15, by kernel_rfl, by kernel_rfl⟩,
  List.forall_mem_cons.2 ⟨⟨Try.func16, by kernel_rfl, by kernel_rfl⟩,
  List.forall_mem_cons.2 ⟨⟨Try.func17, by kernel_rfl, by kernel_rfl⟩,
  List.forall_mem_cons.2 ⟨⟨Try.func18, by kernel_rfl, by kernel_rfl⟩,
  List.forall_mem_cons.2 ⟨⟨Try.func19, by kernel_rfl, by kernel_rfl⟩,
  List.forall_mem_cons.2 ⟨⟨Try.func20, by kernel_rfl, by kernel_rfl⟩,
  List.forall_mem_cons.2 ⟨⟨Try.func21, by kernel_rfl, by kernel_rfl⟩,
  List.forall_mem_cons.2 ⟨⟨Try.func22, by kernel_rfl, by kernel_rfl⟩,
  List.forall_mem_cons.2 ⟨⟨Try.func23, by kernel_rfl, by kernel_rfl⟩,
  List.forall_mem_cons.2 ⟨⟨Try.func24, by kernel_rfl, by kernel_rfl⟩,
  List.forall_mem_cons.2 ⟨⟨Try.func25, by kernel_rfl, by kernel_rfl⟩,
  List.forall_mem_cons.2 ⟨⟨Try.func26, by kernel_rfl, by kernel_rfl⟩,
  List.forall_mem_cons.2 ⟨⟨Try.func27, by kernel_rfl, by kernel_rfl⟩,
  List.forall_mem_cons.2 ⟨⟨Try.func28, by kernel_rfl, by kernel_rfl⟩,
  List.forall_mem_cons.2 ⟨⟨Try.func29, by kernel_rfl, by kernel_rfl⟩,
  List.forall_mem_cons.2 ⟨⟨Try.func30, by kernel_rfl, by kernel_rfl⟩,
  List.forall_mem_cons.2 ⟨⟨Try.func31, by kernel_rfl, by kernel_rfl⟩,
  List.forall_mem_cons.2 ⟨⟨Try.func32, by kernel_rfl, by kernel_rfl⟩,
  List.forall_mem_cons.2 ⟨⟨Try.func33, by kernel_rfl, by kernel_rfl⟩,
  List.forall_mem_cons.2 ⟨⟨Try.func34, by kernel_rfl, by kernel_rfl⟩,
  List.forall_mem_cons.2 ⟨⟨Try.func35, by kernel_rfl, by kernel_rfl⟩,
  List.forall_mem_cons.2 ⟨⟨Try.func36, by kernel_rfl, by kernel_rfl⟩,
  List.forall_mem_cons.2 ⟨⟨Try.func37, by kernel_rfl, by kernel_rfl⟩,
  List.forall_mem_cons.2 ⟨⟨Try.func38, by kernel_rfl, by kernel_rfl⟩,
  List.forall_mem_cons.2 ⟨⟨Try.func39, by kernel_rfl, by kernel_rfl⟩,
  List.forall_mem_cons.2 ⟨⟨Try.func40, by kernel_rfl, by kernel_rfl⟩,
  List.forall_mem_cons.2 ⟨⟨Try.func41, by kernel_rfl, by kernel_rfl⟩,
  List.forall_mem_cons.2 ⟨⟨Try.func42, by kernel_rfl, by kernel_rfl⟩,
  List.forall_mem_cons.2 ⟨⟨Try.func43, by kernel_rfl, by kernel_rfl⟩,
  List.forall_mem_cons.2 ⟨⟨Try.func44, by kernel_rfl, by kernel_rfl⟩,
  List.forall_mem_cons.2 ⟨⟨Try.func45, by kernel_rfl, by kernel_rfl⟩,
  List.forall_mem_cons.2 ⟨⟨Try.func46, by kernel_rfl, by kernel_rfl⟩,
  List.forall_mem_cons.2 ⟨⟨Try.func47, by kernel_rfl, by kernel_rfl⟩,
  List.forall_mem_cons.2 ⟨⟨Try.func48, by kernel_rfl, by kernel_rfl⟩,
  List.forall_mem_cons.2 ⟨⟨Try.func49, by kernel_rfl, by kernel_rfl⟩,
  List.forall_mem_cons.2 ⟨⟨Try.func50, by kernel_rfl, by kernel_rfl⟩,
  List.forall_mem_cons.2 ⟨⟨Try.func51, by kernel_rfl, by kernel_rfl⟩,
  List.forall_mem_cons.2 ⟨⟨Try.func52, by kernel_rfl, by kernel_rfl⟩,
  List.forall_mem_cons.2 ⟨⟨Try.func53, by kernel_rfl, by kernel_rfl⟩,
  List.forall_mem_cons.2 ⟨⟨Try.func54, by kernel_rfl, by kernel_rfl⟩,
  List.forall_mem_cons.2 ⟨⟨Try.func55, by kernel_rfl, by kernel_rfl⟩,
  List.forall_mem_cons.2 ⟨⟨Try.func56, by kernel_rfl, by kernel_rfl⟩,
  List.forall_mem_cons.2 ⟨⟨Try.func57, by kernel_rfl, by kernel_rfl⟩,
  List.forall_mem_cons.2 ⟨⟨Try.func58, by kernel_rfl, by kernel_rfl⟩,
  List.forall_mem_cons.2 ⟨⟨Try.func59, by kernel_rfl, by kernel_rfl⟩,
  List.forall_mem_cons.2 ⟨⟨Try.func60, by kernel_rfl, by kernel_rfl⟩,
  List.forall_mem_cons.2 ⟨⟨Try.func61, by kernel_rfl, by kernel_rfl⟩,
  List.forall_mem_cons.2 ⟨⟨Try.func62, by kernel_rfl, by kernel_rfl⟩,
  List.forall_mem_cons.2 ⟨⟨Try.func63, by kernel_rfl, by kernel_rfl⟩,
  List.forall_mem_cons.2 ⟨⟨Try.func64, by kernel_rfl, by kernel_rfl⟩,
  List.forall_mem_cons.2 ⟨⟨Try.func65, by kernel_rfl, by kernel_rfl⟩,
  List.forall_mem_cons.2 ⟨⟨Try.func66, by kernel_rfl, by kernel_rfl⟩,
  List.forall_mem_cons.2 ⟨⟨Try.func67, by kernel_rfl, by kernel_rfl⟩,
  List.forall_mem_cons.2 ⟨⟨Try.func68, by kernel_rfl, by kernel_rfl⟩,
  List.forall_mem_cons.2 ⟨⟨Try.func69, by kernel_rfl, by kernel_rfl⟩,
  List.forall_mem_cons.2 ⟨⟨Try.func70, by kernel_rfl, by kernel_rfl⟩,
  List.forall_mem_cons.2 ⟨⟨Try.func71, by kernel_rfl, by kernel_rfl⟩,
  List.forall_mem_cons.2 ⟨⟨Try.func72, by kernel_rfl, by kernel_rfl⟩,
  List.forall_mem_cons.2 ⟨⟨Try.func73, by kernel_rfl, by kernel_rfl⟩,
  List.forall_mem_cons.2 ⟨⟨Try.func74, by kernel_rfl, by kernel_rfl⟩,
  List.forall_mem_cons.2 ⟨⟨Try.func75, by kernel_rfl, by kernel_rfl⟩,
  List.forall_mem_cons.2 ⟨⟨Try.func76, by kernel_rfl, by kernel_rfl⟩,
  List.forall_mem_cons.2 ⟨⟨Try.func77, by kernel_rfl, by kernel_rfl⟩,
  List.forall_mem_cons.2 ⟨⟨Try.func78, by kernel_rfl, by kernel_rfl⟩,
  List.forall_mem_cons.2 ⟨⟨Try.func79, by kernel_rfl, by kernel_rfl⟩,
  List.forall_mem_cons.2 ⟨⟨Try.func80, by kernel_rfl, by kernel_rfl⟩,
  List.forall_mem_cons.2 ⟨⟨Try.func81, by kernel_rfl, by kernel_rfl⟩,
  List.forall_mem_cons.2 ⟨⟨Try.func82, by kernel_rfl, by kernel_rfl⟩,
  List.forall_mem_cons.2 ⟨⟨Try.func83, by kernel_rfl, by kernel_rfl⟩,
  List.forall_mem_cons.2 ⟨⟨Try.func84, by kernel_rfl, by kernel_rfl⟩,
  List.forall_mem_cons.2 ⟨⟨Try.func85, by kernel_rfl, by kernel_rfl⟩,
  List.forall_mem_cons.2 ⟨⟨Try.func86, by kernel_rfl, by kernel_rfl⟩,
  List.forall_mem_cons.2 ⟨⟨Try.func87, by kernel_rfl, by kernel_rfl⟩,
  List.forall_mem_cons.2 ⟨⟨Try.func88, by kernel_rfl, by kernel_rfl⟩,
  List.forall_mem_cons.2 ⟨⟨Try.func89, by kernel_rfl, by kernel_rfl⟩,
  List.forall_mem_cons.2 ⟨⟨Try.func90, by kernel_rfl, by kernel_rfl⟩,
  List.forall_mem_cons.2 ⟨⟨Try.func91, by kernel_rfl, by kernel_rfl⟩,
  List.forall_mem_cons.2 ⟨⟨Try.func92, by kernel_rfl, by kernel_rfl⟩,
  List.forall_mem_cons.2 ⟨⟨Try.func93, by kernel_rfl, by kernel_rfl⟩,
  List.forall_mem_cons.2 ⟨⟨Try.func94, by kernel_rfl, by kernel_rfl⟩,
  List.forall_mem_cons.2 ⟨⟨Try.func95, by kernel_rfl, by kernel_rfl⟩,
  List.forall_mem_cons.2 ⟨⟨Try.func96, by kernel_rfl, by kernel_rfl⟩,
  List.forall_mem_cons.2 ⟨⟨Try.func97, by kernel_rfl, by kernel_rfl⟩,
  List.forall_mem_cons.2 ⟨⟨Try.func98, by kernel_rfl, by kernel_rfl⟩,
  List.forall_mem_cons.2 ⟨⟨Try.func99, by kernel_rfl, by kernel_rfl⟩,
  List.forall_mem_cons.2 ⟨⟨Try.func100, by kernel_rfl, by kernel_rfl⟩,
  List.forall_mem_cons.2 ⟨⟨Try.func101, by kernel_rfl, by kernel_rfl⟩,
  List.forall_mem_cons.2 ⟨⟨Try.func102, by kernel_rfl, by kernel_rfl⟩,
  List.forall_mem_cons.2 ⟨⟨Try.func103, by kernel_rfl, by kernel_rfl⟩,
  List.forall_mem_cons.2 ⟨⟨Try.func104, by kernel_rfl, by kernel_rfl⟩,
  List.forall_mem_cons.2 ⟨⟨Try.func105, by kernel_rfl, by kernel_rfl⟩,
  List.forall_mem_cons.2 ⟨⟨Try.func106, by kernel_rfl, by kernel_rfl⟩,
  List.forall_mem_cons.2 ⟨⟨Try.func107, by kernel_rfl, by kernel_rfl⟩,
  List.forall_mem_cons.2 ⟨⟨Try.func108, by kernel_rfl, by kernel_rfl⟩,
  List.forall_mem_cons.2 ⟨⟨Try.func109, by kernel_rfl, by kernel_rfl⟩,
  List.forall_mem_cons.2 ⟨⟨Try.func110, by kernel_rfl, by kernel_rfl⟩,
  List.forall_mem_cons.2 ⟨⟨Try.func111, by kernel_rfl, by kernel_rfl⟩,
  List.forall_mem_cons.2 ⟨⟨Try.func112, by kernel_rfl, by kernel_rfl⟩,
  List.forall_mem_cons.2 ⟨⟨Try.func113, by kernel_rfl, by kernel_rfl⟩,
  List.forall_mem_cons.2 ⟨⟨Try.func114, by kernel_rfl, by kernel_rfl⟩,
  List.forall_mem_cons.2 ⟨⟨Try.func115, by kernel_rfl, by kernel_rfl⟩,
  List.forall_mem_cons.2 ⟨⟨Try.func116, by kernel_rfl, by kernel_rfl⟩,
  List.forall_mem_cons.2 ⟨⟨Try.func117, by kernel_rfl, by kernel_rfl⟩,
  List.forall_mem_cons.2 ⟨⟨Try.func118, by kernel_rfl, by kernel_rfl⟩,
  List.forall_mem_cons.2 ⟨⟨Try.func119, by kernel_rfl, by kernel_rfl⟩,
  List.forall_mem_cons.2 ⟨⟨Try.func120, by kernel_rfl, by kernel_rfl⟩,
  List.forall_mem_cons.2 ⟨⟨Try.func121, by kernel_rfl, by kernel_rfl⟩,
  List.forall_mem_cons.2 ⟨⟨Try.func122, by kernel_rfl, by kernel_rfl⟩,
  List.forall_mem_cons.2 ⟨⟨Try.func123, by kernel_rfl, by kernel_rfl⟩,
  List.forall_mem_cons.2 ⟨⟨Try.func124, by kernel_rfl, by kernel_rfl⟩,
  List.forall_mem_cons.2 ⟨⟨Try.func125, by kernel_rfl, by kernel_rfl⟩,
  List.forall_mem_cons.2 ⟨⟨Try.func126, by kernel_rfl, by kernel_rfl⟩,
  List.forall_mem_cons.2 ⟨⟨Try.func127, by kernel_rfl, by kernel_rfl⟩,
  List.forall_mem_cons.2 ⟨⟨Try.func128, by kernel_rfl, by kernel_rfl⟩,
  List.forall_mem_cons.2 ⟨⟨Try.func129, by kernel_rfl, by kernel_rfl⟩,
  List.forall_mem_cons.2 ⟨⟨Try.func130, by kernel_rfl, by kernel_rfl⟩,
  List.forall_mem_cons.2 ⟨⟨Try.func131, by kernel_rfl, by kernel_rfl⟩,
  List.forall_mem_cons.2 ⟨⟨Try.func132, by kernel_rfl, by kernel_rfl⟩,
  List.forall_mem_cons.2 ⟨⟨Try.func133, by kernel_rfl, by kernel_rfl⟩,
  List.forall_mem_cons.2 ⟨⟨Try.func134, by kernel_rfl, by kernel_rfl⟩,
  List.forall_mem_cons.2 ⟨⟨Try.func135, by kernel_rfl, by kernel_rfl⟩,
  List.forall_mem_cons.2 ⟨⟨Try.func136, by kernel_rfl, by kernel_rfl⟩,
  List.forall_mem_cons.2 ⟨⟨Try.func137, by kernel_rfl, by kernel_rfl⟩,
  List.forall_mem_cons.2 ⟨⟨Try.func138, by kernel_rfl, by kernel_rfl⟩,
  List.forall_mem_cons.2 ⟨⟨Try.func139, by kernel_rfl, by kernel_rfl⟩,
  List.forall_mem_cons.2 ⟨⟨Try.func140, by kernel_rfl, by kernel_rfl⟩,
  List.forall_mem_cons.2 ⟨⟨Try.func141, by kernel_rfl, by kernel_rfl⟩,
  List.forall_mem_cons.2 ⟨⟨Try.func142, by kernel_rfl, by kernel_rfl⟩,
  List.forall_mem_cons.2 ⟨⟨Try.func143, by kernel_rfl, by kernel_rfl⟩,
  List.forall_mem_cons.2 ⟨⟨Try.func144, by kernel_rfl, by kernel_rfl⟩,
  List.forall_mem_cons.2 ⟨⟨Try.func145, by kernel_rfl, by kernel_rfl⟩,
  List.forall_mem_cons.2 ⟨⟨Try.func146, by kernel_rfl, by kernel_rfl⟩,
  List.forall_mem_cons.2 ⟨⟨Try.func147, by kernel_rfl, by kernel_rfl⟩,
  List.forall_mem_cons.2 ⟨⟨Try.func148, by kernel_rfl, by kernel_rfl⟩,
  List.forall_mem_cons.2 ⟨⟨Try.func149, by kernel_rfl, by kernel_rfl⟩,
  List.forall_mem_cons.2 ⟨⟨Try.func150, by kernel_rfl, by kernel_rfl⟩,
  (fun _ h => by cases h)⟩⟩⟩⟩⟩⟩⟩⟩⟩⟩⟩⟩⟩⟩⟩⟩⟩⟩⟩⟩⟩⟩⟩⟩⟩⟩⟩⟩⟩⟩⟩⟩⟩⟩⟩⟩⟩⟩⟩⟩⟩⟩⟩⟩⟩⟩⟩⟩⟩⟩⟩⟩⟩⟩⟩⟩⟩⟩⟩⟩⟩⟩⟩⟩⟩⟩⟩⟩⟩⟩⟩⟩⟩⟩⟩⟩⟩⟩⟩⟩⟩⟩⟩⟩⟩⟩⟩⟩⟩⟩⟩⟩⟩⟩⟩⟩⟩⟩⟩⟩⟩⟩⟩⟩⟩⟩⟩⟩⟩⟩⟩⟩⟩⟩⟩⟩⟩⟩⟩⟩⟩⟩⟩⟩⟩⟩⟩⟩⟩⟩⟩⟩⟩⟩⟩⟩⟩⟩⟩⟩⟩⟩⟩⟩⟩⟩⟩⟩

end Go.Proofs.Ytfpnkcmplmkghaa.Sx
