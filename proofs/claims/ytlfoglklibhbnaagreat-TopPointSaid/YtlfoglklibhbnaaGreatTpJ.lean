/- Parts of the proof of TopPoint. No condition of their own. -/
import Derived.Test.YtlfoglklibhbnaaGreatChecked
import Derived.Test.YtlfoglklibhbnaaGreatTpD
import Derived.KernelRfl
set_option linter.unusedVariables false
set_option linter.unusedSimpArgs false
namespace Go.Proofs.YtlfoglklibhbnaaGreat.Sx
def tys : List (Nat × TI) := [
 (1, ⟨.func #[] #[] false, 1, [.nilFunc]⟩),
 (2, ⟨.int .i64, 1, [.int .i64 0]⟩),
 (3, ⟨.int .i64, 1, [.int .i64 0]⟩),
 (4, ⟨.bool, 1, [.bool false]⟩),
 (22, ⟨.slice 63, 1, [.slice none 0 0]⟩),
 (23, ⟨.slice 38, 1, [.slice none 0 0]⟩),
 (28, ⟨.func #[] #[4] false, 1, [.nilFunc]⟩),
 (37, ⟨.struct #[⟨ "X", 3, 0, false, "", "", 0⟩, ⟨ "Y", 3, 1, false, "", "", 8⟩], 2, [.int .i64 0, .int .i64 0]⟩),
 (38, ⟨.struct #[⟨ "X", 3, 0, false, "", "", 0⟩, ⟨ "Y", 3, 1, false, "", "", 8⟩], 2, [.int .i64 0, .int .i64 0]⟩),
 (39, ⟨.array 3 38, 6, [.int .i64 0, .int .i64 0, .int .i64 0, .int .i64 0, .int .i64 0, .int .i64 0]⟩),
 (43, ⟨.int .i64, 1, [.int .i64 0]⟩),
 (47, ⟨.func #[38, 38, 38] #[3, 43] false, 1, [.nilFunc]⟩),
 (49, ⟨.slice 39, 1, [.slice none 0 0]⟩),
 (50, ⟨.slice 3, 1, [.slice none 0 0]⟩),
 (54, ⟨.func #[3, 3, 49] #[50, 43] true, 1, [.nilFunc]⟩),
 (56, ⟨.func #[38] #[3, 3, 43] false, 1, [.nilFunc]⟩),
 (59, ⟨.struct #[⟨ "Axis", 3, 0, false, "", "", 0⟩, ⟨ "Side", 3, 1, false, "", "", 8⟩, ⟨ "Tris", 50, 2, false, "", "", 16⟩], 3, [.int .i64 0, .int .i64 0, .slice none 0 0]⟩),
 (62, ⟨.struct #[⟨ "X", 3, 0, false, "", "", 0⟩, ⟨ "Y", 3, 1, false, "", "", 8⟩, ⟨ "Z", 3, 2, false, "", "", 16⟩], 3, [.int .i64 0, .int .i64 0, .int .i64 0]⟩),
 (63, ⟨.struct #[⟨ "X", 3, 0, false, "", "", 0⟩, ⟨ "Y", 3, 1, false, "", "", 8⟩, ⟨ "Z", 3, 2, false, "", "", 16⟩], 3, [.int .i64 0, .int .i64 0, .int .i64 0]⟩),
 (64, ⟨.struct #[⟨ "V", 3, 0, false, "", "", 0⟩, ⟨ "T", 3, 1, false, "", "", 8⟩, ⟨ "N", 3, 2, false, "", "", 16⟩], 3, [.int .i64 0, .int .i64 0, .int .i64 0]⟩),
 (69, ⟨.struct #[⟨ "Tris", 50, 0, false, "", "", 0⟩, ⟨ "UV", 49, 1, false, "", "", 24⟩, ⟨ "W", 3, 2, false, "", "", 48⟩, ⟨ "H", 3, 3, false, "", "", 56⟩], 4, [.slice none 0 0, .slice none 0 0, .int .i64 0, .int .i64 0]⟩),
 (78, ⟨.struct #[⟨ "axis", 3, 0, false, "", "limewash/chart", 0⟩, ⟨ "side", 3, 1, false, "", "limewash/chart", 8⟩], 2, [.int .i64 0, .int .i64 0]⟩),
 (84, ⟨.func #[3] #[4] false, 1, [.nilFunc]⟩),
 (85, ⟨.func #[3, 3] #[39] false, 1, [.nilFunc]⟩),
 (86, ⟨.array 3 38, 6, [.int .i64 0, .int .i64 0, .int .i64 0, .int .i64 0, .int .i64 0, .int .i64 0]⟩),
 (87, ⟨.func #[] #[3, 43] false, 1, [.nilFunc]⟩),
 (91, ⟨.struct #[⟨ "X", 3, 0, false, "", "", 0⟩, ⟨ "Y", 3, 1, false, "", "", 8⟩, ⟨ "W", 3, 2, false, "", "", 16⟩, ⟨ "H", 3, 3, false, "", "", 24⟩], 4, [.int .i64 0, .int .i64 0, .int .i64 0, .int .i64 0]⟩),
 (94, ⟨.func #[38] #[4] false, 1, [.nilFunc]⟩),
 (95, ⟨.func #[23, 94] #[4] false, 1, [.nilFunc]⟩),
 (96, ⟨.func #[39] #[4] false, 1, [.nilFunc]⟩),
 (97, ⟨.func #[140] #[] false, 1, [.nilFunc]⟩),
 (98, ⟨.func #[140] #[] false, 1, [.nilFunc]⟩),
 (99, ⟨.func #[39] #[98] false, 1, [.nilFunc]⟩),
 (101, ⟨.func #[3, 3, 39] #[4, 43] false, 1, [.nilFunc]⟩),
 (105, ⟨.func #[50, 84] #[3] false, 1, [.nilFunc]⟩),
 (108, ⟨.func #[49] #[38, 38, 43] true, 1, [.nilFunc]⟩),
 (109, ⟨.func #[38] #[38] false, 1, [.nilFunc]⟩),
 (110, ⟨.func #[49, 109] #[49] false, 1, [.nilFunc]⟩),
 (111, ⟨.func #[49] #[4] false, 1, [.nilFunc]⟩),
 (113, ⟨.func #[38] #[3, 3] false, 1, [.nilFunc]⟩),
 (114, ⟨.func #[50] #[50] false, 1, [.nilFunc]⟩),
 (115, ⟨.func #[3, 3, 3] #[4] false, 1, [.nilFunc]⟩),
 (120, ⟨.func #[] #[38] false, 1, [.nilFunc]⟩),
 (126, ⟨.array 3 63, 9, [.int .i64 0, .int .i64 0, .int .i64 0, .int .i64 0, .int .i64 0, .int .i64 0, .int .i64 0, .int .i64 0, .int .i64 0]⟩),
 (127, ⟨.func #[3] #[126] false, 1, [.nilFunc]⟩),
 (128, ⟨.func #[63, 63, 63] #[3, 3, 43] false, 1, [.nilFunc]⟩),
 (130, ⟨.func #[63, 3] #[38, 43] false, 1, [.nilFunc]⟩),
 (131, ⟨.func #[23] #[4] true, 1, [.nilFunc]⟩),
 (132, ⟨.func #[38, 38] #[3, 43] false, 1, [.nilFunc]⟩),
 (133, ⟨.func #[38, 38] #[38] false, 1, [.nilFunc]⟩),
 (138, ⟨.func #[136, 136] #[136, 136] false, 1, [.nilFunc]⟩),
 (139, ⟨.func #[23, 94] #[3] false, 1, [.nilFunc]⟩),
 (140, ⟨.func #[3, 3] #[4] false, 1, [.nilFunc]⟩),
 (141, ⟨.func #[38, 3, 39] #[4, 43] false, 1, [.nilFunc]⟩),
 (142, ⟨.func #[39, 39] #[4, 43] false, 1, [.nilFunc]⟩),
 (143, ⟨.func #[50, 84] #[4] false, 1, [.nilFunc]⟩),
 (145, ⟨.func #[94] #[] false, 1, [.nilFunc]⟩),
 (146, ⟨.func #[94] #[] false, 1, [.nilFunc]⟩),
 (147, ⟨.func #[49] #[146] false, 1, [.nilFunc]⟩),
 (148, ⟨.func #[49] #[49] false, 1, [.nilFunc]⟩),
 (149, ⟨.func #[3] #[3, 43] false, 1, [.nilFunc]⟩),
 (151, ⟨.func #[50, 152] #[] false, 1, [.nilFunc]⟩),
 (152, ⟨.func #[3, 3] #[3] false, 1, [.nilFunc]⟩),
 (153, ⟨.func #[50] #[4] true, 1, [.nilFunc]⟩),
 (155, ⟨.func #[3, 3, 3] #[3, 3, 4] false, 1, [.nilFunc]⟩),
 (156, ⟨.func #[3, 3, 3] #[] false, 1, [.nilFunc]⟩),
 (157, ⟨.func #[22, 158] #[4] false, 1, [.nilFunc]⟩),
 (158, ⟨.func #[63] #[4] false, 1, [.nilFunc]⟩),
 (160, ⟨.func #[63, 63, 63] #[63, 43] false, 1, [.nilFunc]⟩),
 (161, ⟨.func #[63] #[3] false, 1, [.nilFunc]⟩),
 (162, ⟨.array 3 3, 3, [.int .i64 0, .int .i64 0, .int .i64 0]⟩),
 (163, ⟨.func #[63] #[162] false, 1, [.nilFunc]⟩),
 (164, ⟨.func #[3, 50] #[4] true, 1, [.nilFunc]⟩),
 (168, ⟨.func #[49, 96] #[4] false, 1, [.nilFunc]⟩),
 (175, ⟨.func #[39, 3, 23] #[4] true, 1, [.nilFunc]⟩),
 (176, ⟨.func #[39, 39, 3] #[4, 43] false, 1, [.nilFunc]⟩),
 (181, ⟨.func #[136] #[3] false, 1, [.nilFunc]⟩),
 (182, ⟨.func #[50] #[3] true, 1, [.nilFunc]⟩),
 (184, ⟨.func #[22] #[4] true, 1, [.nilFunc]⟩),
 (185, ⟨.func #[3, 3, 4] #[4] false, 1, [.nilFunc]⟩),
 (186, ⟨.func #[22, 158] #[3] false, 1, [.nilFunc]⟩),
 (187, ⟨.array 3 63, 9, [.int .i64 0, .int .i64 0, .int .i64 0, .int .i64 0, .int .i64 0, .int .i64 0, .int .i64 0, .int .i64 0, .int .i64 0]⟩),
 (188, ⟨.func #[] #[63, 43] false, 1, [.nilFunc]⟩),
 (189, ⟨.func #[3] #[3] false, 1, [.nilFunc]⟩),
 (191, ⟨.func #[3, 3, 3, 3] #[4] false, 1, [.nilFunc]⟩),
 (192, ⟨.func #[49, 96] #[3] false, 1, [.nilFunc]⟩),
 (193, ⟨.func #[214] #[] false, 1, [.nilFunc]⟩),
 (194, ⟨.func #[214] #[] false, 1, [.nilFunc]⟩),
 (195, ⟨.func #[39] #[194] false, 1, [.nilFunc]⟩),
 (196, ⟨.func #[38] #[3] false, 1, [.nilFunc]⟩),
 (199, ⟨.array 2 3, 2, [.int .i64 0, .int .i64 0]⟩),
 (201, ⟨.func #[50] #[] false, 1, [.nilFunc]⟩),
 (212, ⟨.func #[63, 63] #[63, 43] false, 1, [.nilFunc]⟩),
 (213, ⟨.func #[63, 63] #[63] false, 1, [.nilFunc]⟩),
 (214, ⟨.func #[196] #[4] false, 1, [.nilFunc]⟩),
 (217, ⟨.func #[3] #[136] false, 1, [.nilFunc]⟩),
 (220, ⟨.pointer 3, 1, [.pointer none]⟩),
 (222, ⟨.func #[162] #[63] false, 1, [.nilFunc]⟩),
 (233, ⟨.func #[] #[9] false, 1, [.nilFunc]⟩),
 (239, ⟨.func #[] #[3] false, 1, [.nilFunc]⟩),
 (242, ⟨.func #[248, 248] #[4] false, 1, [.nilFunc]⟩),
 (243, ⟨.pointer 5, 1, [.pointer none]⟩)]
theorem ty1 : TyOk Tryz.prog 1 ⟨.func #[] #[] false, 1, [.nilFunc]⟩ := ⟨by kernel_rfl, by kernel_rfl⟩
theorem ty2 : TyOk Tryz.prog 2 ⟨.int .i64, 1, [.int .i64 0]⟩ := ⟨by kernel_rfl, by kernel_rfl⟩
theorem ty3 : TyOk Tryz.prog 3 ⟨.int .i64, 1, [.int .i64 0]⟩ := ⟨by kernel_rfl, by kernel_rfl⟩
theorem ty4 : TyOk Tryz.prog 4 ⟨.bool, 1, [.bool false]⟩ := ⟨by kernel_rfl, by kernel_rfl⟩
theorem ty22 : TyOk Tryz.prog 22 ⟨.slice 63, 1, [.slice none 0 0]⟩ := ⟨by kernel_rfl, by kernel_rfl⟩
theorem ty23 : TyOk Tryz.prog 23 ⟨.slice 38, 1, [.slice none 0 0]⟩ := ⟨by kernel_rfl, by kernel_rfl⟩
theorem ty28 : TyOk Tryz.prog 28 ⟨.func #[] #[4] false, 1, [.nilFunc]⟩ := ⟨by kernel_rfl, by kernel_rfl⟩
theorem ty37 : TyOk Tryz.prog 37 ⟨.struct #[⟨ "X", 3, 0, false, "", "", 0⟩, ⟨ "Y", 3, 1, false, "", "", 8⟩], 2, [.int .i64 0, .int .i64 0]⟩ := ⟨by kernel_rfl, by kernel_rfl⟩
theorem ty38 : TyOk Tryz.prog 38 ⟨.struct #[⟨ "X", 3, 0, false, "", "", 0⟩, ⟨ "Y", 3, 1, false, "", "", 8⟩], 2, [.int .i64 0, .int .i64 0]⟩ := ⟨by kernel_rfl, by kernel_rfl⟩
theorem ty39 : TyOk Tryz.prog 39 ⟨.array 3 38, 6, [.int .i64 0, .int .i64 0, .int .i64 0, .int .i64 0, .int .i64 0, .int .i64 0]⟩ := ⟨by kernel_rfl, by kernel_rfl⟩
theorem ty43 : TyOk Tryz.prog 43 ⟨.int .i64, 1, [.int .i64 0]⟩ := ⟨by kernel_rfl, by kernel_rfl⟩
theorem ty47 : TyOk Tryz.prog 47 ⟨.func #[38, 38, 38] #[3, 43] false, 1, [.nilFunc]⟩ := ⟨by kernel_rfl, by kernel_rfl⟩
theorem ty49 : TyOk Tryz.prog 49 ⟨.slice 39, 1, [.slice none 0 0]⟩ := ⟨by kernel_rfl, by kernel_rfl⟩
theorem ty50 : TyOk Tryz.prog 50 ⟨.slice 3, 1, [.slice none 0 0]⟩ := ⟨by kernel_rfl, by kernel_rfl⟩
theorem ty54 : TyOk Tryz.prog 54 ⟨.func #[3, 3, 49] #[50, 43] true, 1, [.nilFunc]⟩ := ⟨by kernel_rfl, by kernel_rfl⟩
theorem ty56 : TyOk Tryz.prog 56 ⟨.func #[38] #[3, 3, 43] false, 1, [.nilFunc]⟩ := ⟨by kernel_rfl, by kernel_rfl⟩
theorem ty59 : TyOk Tryz.prog 59 ⟨.struct #[⟨ "Axis", 3, 0, false, "", "", 0⟩, ⟨ "Side", 3, 1, false, "", "", 8⟩, ⟨ "Tris", 50, 2, false, "", "", 16⟩], 3, [.int .i64 0, .int .i64 0, .slice none 0 0]⟩ := ⟨by kernel_rfl, by kernel_rfl⟩
theorem ty62 : TyOk Tryz.prog 62 ⟨.struct #[⟨ "X", 3, 0, false, "", "", 0⟩, ⟨ "Y", 3, 1, false, "", "", 8⟩, ⟨ "Z", 3, 2, false, "", "", 16⟩], 3, [.int .i64 0, .int .i64 0, .int .i64 0]⟩ := ⟨by kernel_rfl, by kernel_rfl⟩
theorem ty63 : TyOk Tryz.prog 63 ⟨.struct #[⟨ "X", 3, 0, false, "", "", 0⟩, ⟨ "Y", 3, 1, false, "", "", 8⟩, ⟨ "Z", 3, 2, false, "", "", 16⟩], 3, [.int .i64 0, .int .i64 0, .int .i64 0]⟩ := ⟨by kernel_rfl, by kernel_rfl⟩
theorem ty64 : TyOk Tryz.prog 64 ⟨.struct #[⟨ "V", 3, 0, false, "", "", 0⟩, ⟨ "T", 3, 1, false, "", "", 8⟩, ⟨ "N", 3, 2, false, "", "", 16⟩], 3, [.int .i64 0, .int .i64 0, .int .i64 0]⟩ := ⟨by kernel_rfl, by kernel_rfl⟩
theorem ty69 : TyOk Tryz.prog 69 ⟨.struct #[⟨ "Tris", 50, 0, false, "", "", 0⟩, ⟨ "UV", 49, 1, false, "", "", 24⟩, ⟨ "W", 3, 2, false, "", "", 48⟩, ⟨ "H", 3, 3, false, "", "", 56⟩], 4, [.slice none 0 0, .slice none 0 0, .int .i64 0, .int .i64 0]⟩ := ⟨by kernel_rfl, by kernel_rfl⟩
theorem ty78 : TyOk Tryz.prog 78 ⟨.struct #[⟨ "axis", 3, 0, false, "", "limewash/chart", 0⟩, ⟨ "side", 3, 1, false, "", "limewash/chart", 8⟩], 2, [.int .i64 0, .int .i64 0]⟩ := ⟨by kernel_rfl, by kernel_rfl⟩
theorem ty84 : TyOk Tryz.prog 84 ⟨.func #[3] #[4] false, 1, [.nilFunc]⟩ := ⟨by kernel_rfl, by kernel_rfl⟩
theorem ty85 : TyOk Tryz.prog 85 ⟨.func #[3, 3] #[39] false, 1, [.nilFunc]⟩ := ⟨by kernel_rfl, by kernel_rfl⟩
theorem ty86 : TyOk Tryz.prog 86 ⟨.array 3 38, 6, [.int .i64 0, .int .i64 0, .int .i64 0, .int .i64 0, .int .i64 0, .int .i64 0]⟩ := ⟨by kernel_rfl, by kernel_rfl⟩
theorem ty87 : TyOk Tryz.prog 87 ⟨.func #[] #[3, 43] false, 1, [.nilFunc]⟩ := ⟨by kernel_rfl, by kernel_rfl⟩
theorem ty91 : TyOk Tryz.prog 91 ⟨.struct #[⟨ "X", 3, 0, false, "", "", 0⟩, ⟨ "Y", 3, 1, false, "", "", 8⟩, ⟨ "W", 3, 2, false, "", "", 16⟩, ⟨ "H", 3, 3, false, "", "", 24⟩], 4, [.int .i64 0, .int .i64 0, .int .i64 0, .int .i64 0]⟩ := ⟨by kernel_rfl, by kernel_rfl⟩
theorem ty94 : TyOk Tryz.prog 94 ⟨.func #[38] #[4] false, 1, [.nilFunc]⟩ := ⟨by kernel_rfl, by kernel_rfl⟩
theorem ty95 : TyOk Tryz.prog 95 ⟨.func #[23, 94] #[4] false, 1, [.nilFunc]⟩ := ⟨by kernel_rfl, by kernel_rfl⟩
theorem ty96 : TyOk Tryz.prog 96 ⟨.func #[39] #[4] false, 1, [.nilFunc]⟩ := ⟨by kernel_rfl, by kernel_rfl⟩
theorem ty97 : TyOk Tryz.prog 97 ⟨.func #[140] #[] false, 1, [.nilFunc]⟩ := ⟨by kernel_rfl, by kernel_rfl⟩
theorem ty98 : TyOk Tryz.prog 98 ⟨.func #[140] #[] false, 1, [.nilFunc]⟩ := ⟨by kernel_rfl, by kernel_rfl⟩
theorem ty99 : TyOk Tryz.prog 99 ⟨.func #[39] #[98] false, 1, [.nilFunc]⟩ := ⟨by kernel_rfl, by kernel_rfl⟩
theorem ty101 : TyOk Tryz.prog 101 ⟨.func #[3, 3, 39] #[4, 43] false, 1, [.nilFunc]⟩ := ⟨by kernel_rfl, by kernel_rfl⟩
theorem ty105 : TyOk Tryz.prog 105 ⟨.func #[50, 84] #[3] false, 1, [.nilFunc]⟩ := ⟨by kernel_rfl, by kernel_rfl⟩
theorem ty108 : TyOk Tryz.prog 108 ⟨.func #[49] #[38, 38, 43] true, 1, [.nilFunc]⟩ := ⟨by kernel_rfl, by kernel_rfl⟩
theorem ty109 : TyOk Tryz.prog 109 ⟨.func #[38] #[38] false, 1, [.nilFunc]⟩ := ⟨by kernel_rfl, by kernel_rfl⟩
theorem ty110 : TyOk Tryz.prog 110 ⟨.func #[49, 109] #[49] false, 1, [.nilFunc]⟩ := ⟨by kernel_rfl, by kernel_rfl⟩
theorem ty111 : TyOk Tryz.prog 111 ⟨.func #[49] #[4] false, 1, [.nilFunc]⟩ := ⟨by kernel_rfl, by kernel_rfl⟩
theorem ty113 : TyOk Tryz.prog 113 ⟨.func #[38] #[3, 3] false, 1, [.nilFunc]⟩ := ⟨by kernel_rfl, by kernel_rfl⟩
theorem ty114 : TyOk Tryz.prog 114 ⟨.func #[50] #[50] false, 1, [.nilFunc]⟩ := ⟨by kernel_rfl, by kernel_rfl⟩
theorem ty115 : TyOk Tryz.prog 115 ⟨.func #[3, 3, 3] #[4] false, 1, [.nilFunc]⟩ := ⟨by kernel_rfl, by kernel_rfl⟩
theorem ty120 : TyOk Tryz.prog 120 ⟨.func #[] #[38] false, 1, [.nilFunc]⟩ := ⟨by kernel_rfl, by kernel_rfl⟩
theorem ty126 : TyOk Tryz.prog 126 ⟨.array 3 63, 9, [.int .i64 0, .int .i64 0, .int .i64 0, .int .i64 0, .int .i64 0, .int .i64 0, .int .i64 0, .int .i64 0, .int .i64 0]⟩ := ⟨by kernel_rfl, by kernel_rfl⟩
theorem ty127 : TyOk Tryz.prog 127 ⟨.func #[3] #[126] false, 1, [.nilFunc]⟩ := ⟨by kernel_rfl, by kernel_rfl⟩
theorem ty128 : TyOk Tryz.prog 128 ⟨.func #[63, 63, 63] #[3, 3, 43] false, 1, [.nilFunc]⟩ := ⟨by kernel_rfl, by kernel_rfl⟩
theorem ty130 : TyOk Tryz.prog 130 ⟨.func #[63, 3] #[38, 43] false, 1, [.nilFunc]⟩ := ⟨by kernel_rfl, by kernel_rfl⟩
theorem ty131 : TyOk Tryz.prog 131 ⟨.func #[23] #[4] true, 1, [.nilFunc]⟩ := ⟨by kernel_rfl, by kernel_rfl⟩
theorem ty132 : TyOk Tryz.prog 132 ⟨.func #[38, 38] #[3, 43] false, 1, [.nilFunc]⟩ := ⟨by kernel_rfl, by kernel_rfl⟩
theorem ty133 : TyOk Tryz.prog 133 ⟨.func #[38, 38] #[38] false, 1, [.nilFunc]⟩ := ⟨by kernel_rfl, by kernel_rfl⟩
theorem ty138 : TyOk Tryz.prog 138 ⟨.func #[136, 136] #[136, 136] false, 1, [.nilFunc]⟩ := ⟨by kernel_rfl, by kernel_rfl⟩
theorem ty139 : TyOk Tryz.prog 139 ⟨.func #[23, 94] #[3] false, 1, [.nilFunc]⟩ := ⟨by kernel_rfl, by kernel_rfl⟩
theorem ty140 : TyOk Tryz.prog 140 ⟨.func #[3, 3] #[4] false, 1, [.nilFunc]⟩ := ⟨by kernel_rfl, by kernel_rfl⟩
theorem ty141 : TyOk Tryz.prog 141 ⟨.func #[38, 3, 39] #[4, 43] false, 1, [.nilFunc]⟩ := ⟨by kernel_rfl, by kernel_rfl⟩
theorem ty142 : TyOk Tryz.prog 142 ⟨.func #[39, 39] #[4, 43] false, 1, [.nilFunc]⟩ := ⟨by kernel_rfl, by kernel_rfl⟩
theorem ty143 : TyOk Tryz.prog 143 ⟨.func #[50, 84] #[4] false, 1, [.nilFunc]⟩ := ⟨by kernel_rfl, by kernel_rfl⟩
theorem ty145 : TyOk Tryz.prog 145 ⟨.func #[94] #[] false, 1, [.nilFunc]⟩ := ⟨by kernel_rfl, by kernel_rfl⟩
theorem ty146 : TyOk Tryz.prog 146 ⟨.func #[94] #[] false, 1, [.nilFunc]⟩ := ⟨by kernel_rfl, by kernel_rfl⟩
theorem ty147 : TyOk Tryz.prog 147 ⟨.func #[49] #[146] false, 1, [.nilFunc]⟩ := ⟨by kernel_rfl, by kernel_rfl⟩
theorem ty148 : TyOk Tryz.prog 148 ⟨.func #[49] #[49] false, 1, [.nilFunc]⟩ := ⟨by kernel_rfl, by kernel_rfl⟩
theorem ty149 : TyOk Tryz.prog 149 ⟨.func #[3] #[3, 43] false, 1, [.nilFunc]⟩ := ⟨by kernel_rfl, by kernel_rfl⟩
theorem ty151 : TyOk Tryz.prog 151 ⟨.func #[50, 152] #[] false, 1, [.nilFunc]⟩ := ⟨by kernel_rfl, by kernel_rfl⟩
theorem ty152 : TyOk Tryz.prog 152 ⟨.func #[3, 3] #[3] false, 1, [.nilFunc]⟩ := ⟨by kernel_rfl, by kernel_rfl⟩
theorem ty153 : TyOk Tryz.prog 153 ⟨.func #[50] #[4] true, 1, [.nilFunc]⟩ := ⟨by kernel_rfl, by kernel_rfl⟩
theorem ty155 : TyOk Tryz.prog 155 ⟨.func #[3, 3, 3] #[3, 3, 4] false, 1, [.nilFunc]⟩ := ⟨by kernel_rfl, by kernel_rfl⟩
theorem ty156 : TyOk Tryz.prog 156 ⟨.func #[3, 3, 3] #[] false, 1, [.nilFunc]⟩ := ⟨by kernel_rfl, by kernel_rfl⟩
theorem ty157 : TyOk Tryz.prog 157 ⟨.func #[22, 158] #[4] false, 1, [.nilFunc]⟩ := ⟨by kernel_rfl, by kernel_rfl⟩
theorem ty158 : TyOk Tryz.prog 158 ⟨.func #[63] #[4] false, 1, [.nilFunc]⟩ := ⟨by kernel_rfl, by kernel_rfl⟩
theorem ty160 : TyOk Tryz.prog 160 ⟨.func #[63, 63, 63] #[63, 43] false, 1, [.nilFunc]⟩ := ⟨by kernel_rfl, by kernel_rfl⟩
theorem ty161 : TyOk Tryz.prog 161 ⟨.func #[63] #[3] false, 1, [.nilFunc]⟩ := ⟨by kernel_rfl, by kernel_rfl⟩
theorem ty162 : TyOk Tryz.prog 162 ⟨.array 3 3, 3, [.int .i64 0, .int .i64 0, .int .i64 0]⟩ := ⟨by kernel_rfl, by kernel_rfl⟩
theorem ty163 : TyOk Tryz.prog 163 ⟨.func #[63] #[162] false, 1, [.nilFunc]⟩ := ⟨by kernel_rfl, by kernel_rfl⟩
theorem ty164 : TyOk Tryz.prog 164 ⟨.func #[3, 50] #[4] true, 1, [.nilFunc]⟩ := ⟨by kernel_rfl, by kernel_rfl⟩
theorem ty168 : TyOk Tryz.prog 168 ⟨.func #[49, 96] #[4] false, 1, [.nilFunc]⟩ := ⟨by kernel_rfl, by kernel_rfl⟩
theorem ty175 : TyOk Tryz.prog 175 ⟨.func #[39, 3, 23] #[4] true, 1, [.nilFunc]⟩ := ⟨by kernel_rfl, by kernel_rfl⟩
theorem ty176 : TyOk Tryz.prog 176 ⟨.func #[39, 39, 3] #[4, 43] false, 1, [.nilFunc]⟩ := ⟨by kernel_rfl, by kernel_rfl⟩
theorem ty181 : TyOk Tryz.prog 181 ⟨.func #[136] #[3] false, 1, [.nilFunc]⟩ := ⟨by kernel_rfl, by kernel_rfl⟩
theorem ty182 : TyOk Tryz.prog 182 ⟨.func #[50] #[3] true, 1, [.nilFunc]⟩ := ⟨by kernel_rfl, by kernel_rfl⟩
theorem ty184 : TyOk Tryz.prog 184 ⟨.func #[22] #[4] true, 1, [.nilFunc]⟩ := ⟨by kernel_rfl, by kernel_rfl⟩
theorem ty185 : TyOk Tryz.prog 185 ⟨.func #[3, 3, 4] #[4] false, 1, [.nilFunc]⟩ := ⟨by kernel_rfl, by kernel_rfl⟩
theorem ty186 : TyOk Tryz.prog 186 ⟨.func #[22, 158] #[3] false, 1, [.nilFunc]⟩ := ⟨by kernel_rfl, by kernel_rfl⟩
theorem ty187 : TyOk Tryz.prog 187 ⟨.array 3 63, 9, [.int .i64 0, .int .i64 0, .int .i64 0, .int .i64 0, .int .i64 0, .int .i64 0, .int .i64 0, .int .i64 0, .int .i64 0]⟩ := ⟨by kernel_rfl, by kernel_rfl⟩
theorem ty188 : TyOk Tryz.prog 188 ⟨.func #[] #[63, 43] false, 1, [.nilFunc]⟩ := ⟨by kernel_rfl, by kernel_rfl⟩
theorem ty189 : TyOk Tryz.prog 189 ⟨.func #[3] #[3] false, 1, [.nilFunc]⟩ := ⟨by kernel_rfl, by kernel_rfl⟩
theorem ty191 : TyOk Tryz.prog 191 ⟨.func #[3, 3, 3, 3] #[4] false, 1, [.nilFunc]⟩ := ⟨by kernel_rfl, by kernel_rfl⟩
theorem ty192 : TyOk Tryz.prog 192 ⟨.func #[49, 96] #[3] false, 1, [.nilFunc]⟩ := ⟨by kernel_rfl, by kernel_rfl⟩
theorem ty193 : TyOk Tryz.prog 193 ⟨.func #[214] #[] false, 1, [.nilFunc]⟩ := ⟨by kernel_rfl, by kernel_rfl⟩
theorem ty194 : TyOk Tryz.prog 194 ⟨.func #[214] #[] false, 1, [.nilFunc]⟩ := ⟨by kernel_rfl, by kernel_rfl⟩
theorem ty195 : TyOk Tryz.prog 195 ⟨.func #[39] #[194] false, 1, [.nilFunc]⟩ := ⟨by kernel_rfl, by kernel_rfl⟩
theorem ty196 : TyOk Tryz.prog 196 ⟨.func #[38] #[3] false, 1, [.nilFunc]⟩ := ⟨by kernel_rfl, by kernel_rfl⟩
theorem ty199 : TyOk Tryz.prog 199 ⟨.array 2 3, 2, [.int .i64 0, .int .i64 0]⟩ := ⟨by kernel_rfl, by kernel_rfl⟩
theorem ty201 : TyOk Tryz.prog 201 ⟨.func #[50] #[] false, 1, [.nilFunc]⟩ := ⟨by kernel_rfl, by kernel_rfl⟩
theorem ty212 : TyOk Tryz.prog 212 ⟨.func #[63, 63] #[63, 43] false, 1, [.nilFunc]⟩ := ⟨by kernel_rfl, by kernel_rfl⟩
theorem ty213 : TyOk Tryz.prog 213 ⟨.func #[63, 63] #[63] false, 1, [.nilFunc]⟩ := ⟨by kernel_rfl, by kernel_rfl⟩
theorem ty214 : TyOk Tryz.prog 214 ⟨.func #[196] #[4] false, 1, [.nilFunc]⟩ := ⟨by kernel_rfl, by kernel_rfl⟩
theorem ty217 : TyOk Tryz.prog 217 ⟨.func #[3] #[136] false, 1, [.nilFunc]⟩ := ⟨by kernel_rfl, by kernel_rfl⟩
theorem ty220 : TyOk Tryz.prog 220 ⟨.pointer 3, 1, [.pointer none]⟩ := ⟨by kernel_rfl, by kernel_rfl⟩
theorem ty222 : TyOk Tryz.prog 222 ⟨.func #[162] #[63] false, 1, [.nilFunc]⟩ := ⟨by kernel_rfl, by kernel_rfl⟩
theorem ty233 : TyOk Tryz.prog 233 ⟨.func #[] #[9] false, 1, [.nilFunc]⟩ := ⟨by kernel_rfl, by kernel_rfl⟩
theorem ty239 : TyOk Tryz.prog 239 ⟨.func #[] #[3] false, 1, [.nilFunc]⟩ := ⟨by kernel_rfl, by kernel_rfl⟩
theorem ty242 : TyOk Tryz.prog 242 ⟨.func #[248, 248] #[4] false, 1, [.nilFunc]⟩ := ⟨by kernel_rfl, by kernel_rfl⟩
theorem ty243 : TyOk Tryz.prog 243 ⟨.pointer 5, 1, [.pointer none]⟩ := ⟨by kernel_rfl, by kernel_rfl⟩
theorem tys_ok : ∀ e ∈ tys, TyOk Tryz.prog e.1 e.2 :=
 List.forall_mem_cons.2 ⟨ty1,
 List.forall_mem_cons.2 ⟨ty2,
 List.forall_mem_cons.2 ⟨ty3,
 List.forall_mem_cons.2 ⟨ty4,
 List.forall_mem_cons.2 ⟨ty22,
 List.forall_mem_cons.2 ⟨ty23,
 List.forall_mem_cons.2 ⟨ty28,
 List.forall_mem_cons.2 ⟨ty37,
 List.forall_mem_cons.2 ⟨ty38,
 List.forall_mem_cons.2 ⟨ty39,
 List.forall_mem_cons.2 ⟨ty43,
 List.forall_mem_cons.2 ⟨ty47,
 List.forall_mem_cons.2 ⟨ty49,
 List.forall_mem_cons.2 ⟨ty50,
 List.forall_mem_cons.2 ⟨ty54,
 List.forall_mem_cons.2 ⟨ty56,
 List.forall_mem_cons.2 ⟨ty59,
 List.forall_mem_cons.2 ⟨ty62,
 List.forall_mem_cons.2 ⟨ty63,
 List.forall_mem_cons.2 ⟨ty64,
 List.forall_mem_cons.2 ⟨ty69,
 List.forall_mem_cons.2 ⟨ty78,
 List.forall_mem_cons.2 ⟨ty84,
 List.forall_mem_cons.2 ⟨ty85,
 List.forall_mem_cons.2 ⟨ty86,
 List.forall_mem_cons.2 ⟨ty87,
 List.forall_mem_cons.2 ⟨ty91,
 List.forall_mem_cons.2 ⟨ty94,
 List.forall_mem_cons.2 ⟨ty95,
 List.forall_mem_cons.2 ⟨ty96,
 List.forall_mem_cons.2 ⟨ty97,
 List.forall_mem_cons.2 ⟨ty98,
 List.forall_mem_cons.2 ⟨ty99,
 List.forall_mem_cons.2 ⟨ty101,
 List.forall_mem_cons.2 ⟨ty105,
 List.forall_mem_cons.2 ⟨ty108,
 List.forall_mem_cons.2 ⟨ty109,
 List.forall_mem_cons.2 ⟨ty110,
 List.forall_mem_cons.2 ⟨ty111,
 List.forall_mem_cons.2 ⟨ty113,
 List.forall_mem_cons.2 ⟨ty114,
 List.forall_mem_cons.2 ⟨ty115,
 List.forall_mem_cons.2 ⟨ty120,
 List.forall_mem_cons.2 ⟨ty126,
 List.forall_mem_cons.2 ⟨ty127,
 List.forall_mem_cons.2 ⟨ty128,
 List.forall_mem_cons.2 ⟨ty130,
 List.forall_mem_cons.2 ⟨ty131,
 List.forall_mem_cons.2 ⟨ty132,
 List.forall_mem_cons.2 ⟨ty133,
 List.forall_mem_cons.2 ⟨ty138,
 List.forall_mem_cons.2 ⟨ty139,
 List.forall_mem_cons.2 ⟨ty140,
 List.forall_mem_cons.2 ⟨ty141,
 List.forall_mem_cons.2 ⟨ty142,
 List.forall_mem_cons.2 ⟨ty143,
 List.forall_mem_cons.2 ⟨ty145,
 List.forall_mem_cons.2 ⟨ty146,
 List.forall_mem_cons.2 ⟨ty147,
 List.forall_mem_cons.2 ⟨ty148,
 List.forall_mem_cons.2 ⟨ty149,
 List.forall_mem_cons.2 ⟨ty151,
 List.forall_mem_cons.2 ⟨ty152,
 List.forall_mem_cons.2 ⟨ty153,
 List.forall_mem_cons.2 ⟨ty155,
 List.forall_mem_cons.2 ⟨ty156,
 List.forall_mem_cons.2 ⟨ty157,
 List.forall_mem_cons.2 ⟨ty158,
 List.forall_mem_cons.2 ⟨ty160,
 List.forall_mem_cons.2 ⟨ty161,
 List.forall_mem_cons.2 ⟨ty162,
 List.forall_mem_cons.2 ⟨ty163,
 List.forall_mem_cons.2 ⟨ty164,
 List.forall_mem_cons.2 ⟨ty168,
 List.forall_mem_cons.2 ⟨ty175,
 List.forall_mem_cons.2 ⟨ty176,
 List.forall_mem_cons.2 ⟨ty181,
 List.forall_mem_cons.2 ⟨ty182,
 List.forall_mem_cons.2 ⟨ty184,
 List.forall_mem_cons.2 ⟨ty185,
 List.forall_mem_cons.2 ⟨ty186,
 List.forall_mem_cons.2 ⟨ty187,
 List.forall_mem_cons.2 ⟨ty188,
 List.forall_mem_cons.2 ⟨ty189,
 List.forall_mem_cons.2 ⟨ty191,
 List.forall_mem_cons.2 ⟨ty192,
 List.forall_mem_cons.2 ⟨ty193,
 List.forall_mem_cons.2 ⟨ty194,
 List.forall_mem_cons.2 ⟨ty195,
 List.forall_mem_cons.2 ⟨ty196,
 List.forall_mem_cons.2 ⟨ty199,
 List.forall_mem_cons.2 ⟨ty201,
 List.forall_mem_cons.2 ⟨ty212,
 List.forall_mem_cons.2 ⟨ty213,
 List.forall_mem_cons.2 ⟨ty214,
 List.forall_mem_cons.2 ⟨ty217,
 List.forall_mem_cons.2 ⟨ty220,
 List.forall_mem_cons.2 ⟨ty222,
 List.forall_mem_cons.2 ⟨ty233,
 List.forall_mem_cons.2 ⟨ty239,
 List.forall_mem_cons.2 ⟨ty242,
 List.forall_mem_cons.2 ⟨ty243,
 (fun _ h => by cases h)⟩⟩⟩⟩⟩⟩⟩⟩⟩⟩⟩⟩⟩⟩⟩⟩⟩⟩⟩⟩⟩⟩⟩⟩⟩⟩⟩⟩⟩⟩⟩⟩⟩⟩⟩⟩⟩⟩⟩⟩⟩⟩⟩⟩⟩⟩⟩⟩⟩⟩⟩⟩⟩⟩⟩⟩⟩⟩⟩⟩⟩⟩⟩⟩⟩⟩⟩⟩⟩⟩⟩⟩⟩⟩⟩⟩⟩⟩⟩⟩⟩⟩⟩⟩⟩⟩⟩⟩⟩⟩⟩⟩⟩⟩⟩⟩⟩⟩⟩⟩⟩⟩
noncomputable def fns : List (Nat × Func) := [(12, Tryz.f12), (14, Tryz.f14), (15, Tryz.f15), (26, Tryz.f26), (30, Tryz.f30), (32, Tryz.f32), (33, Tryz.f33), (34, Tryz.f34), (52, Tryz.f52), (53, Tryz.f53), (54, Tryz.f54), (55, Tryz.f55), (56, Tryz.f56), (62, Tryz.f62), (63, Tryz.f63), (67, Tryz.f67), (83, Tryz.f83), (84, Tryz.f84), (85, Tryz.f85), (86, Tryz.f86), (87, Tryz.f87), (88, Tryz.f88), (96, Tryz.f96), (97, Tryz.f97), (103, Tryz.f103), (106, Tryz.f106), (109, Tryz.f109), (110, Tryz.f110), (111, Tryz.f111), (112, Tryz.f112), (117, Tryz.f117), (131, Tryz.f131), (132, Tryz.f132), (133, Tryz.f133), (134, Tryz.f134), (135, Tryz.f135), (136, Tryz.f136), (143, Tryz.f143), (150, Tryz.f150)]
theorem fns_ok : ∀ e ∈ fns, FnOk Tryz.prog e.1 e.2 :=
 List.forall_mem_cons.2 ⟨⟨Tryz.func12, by kernel_rfl, by kernel_rfl⟩,
 List.forall_mem_cons.2 ⟨⟨Tryz.func14, by kernel_rfl, by kernel_rfl⟩,
 List.forall_mem_cons.2 ⟨⟨Tryz.func15, by kernel_rfl, by kernel_rfl⟩,
 List.forall_mem_cons.2 ⟨⟨Tryz.func26, by kernel_rfl, by kernel_rfl⟩,
 List.forall_mem_cons.2 ⟨⟨Tryz.func30, by kernel_rfl, by kernel_rfl⟩,
 List.forall_mem_cons.2 ⟨⟨Tryz.func32, by kernel_rfl, by kernel_rfl⟩,
 List.forall_mem_cons.2 ⟨⟨Tryz.func33, by kernel_rfl, by kernel_rfl⟩,
 List.forall_mem_cons.2 ⟨⟨Tryz.func34, by kernel_rfl, by kernel_rfl⟩,
 List.forall_mem_cons.2 ⟨⟨Tryz.func52, by kernel_rfl, by kernel_rfl⟩,
 List.forall_mem_cons.2 ⟨⟨Tryz.func53, by kernel_rfl, by kernel_rfl⟩,
 List.forall_mem_cons.2 ⟨⟨Tryz.func54, by kernel_rfl, by kernel_rfl⟩,
 List.forall_mem_cons.2 ⟨⟨Tryz.func55, by kernel_rfl, by kernel_rfl⟩,
 List.forall_mem_cons.2 ⟨⟨Tryz.func56, by kernel_rfl, by kernel_rfl⟩,
 List.forall_mem_cons.2 ⟨⟨Tryz.func62, by kernel_rfl, by kernel_rfl⟩,
 List.forall_mem_cons.2 ⟨⟨Tryz.func63, by kernel_rfl, by kernel_rfl⟩,
 List.forall_mem_cons.2 ⟨⟨Tryz.func67, by kernel_rfl, by kernel_rfl⟩,
 List.forall_mem_cons.2 ⟨⟨Tryz.func83, by kernel_rfl, by kernel_rfl⟩,
 List.forall_mem_cons.2 ⟨⟨Tryz.func84, by kernel_rfl, by kernel_rfl⟩,
 List.forall_mem_cons.2 ⟨⟨Tryz.func85, by kernel_rfl, by kernel_rfl⟩,
 List.forall_mem_cons.2 ⟨⟨Tryz.func86, by kernel_rfl, by kernel_rfl⟩,
 List.forall_mem_cons.2 ⟨⟨Tryz.func87, by kernel_rfl, by kernel_rfl⟩,
 List.forall_mem_cons.2 ⟨⟨Tryz.func88, by kernel_rfl, by kernel_rfl⟩,
 List.forall_mem_cons.2 ⟨⟨Tryz.func96, by kernel_rfl, by kernel_rfl⟩,
 List.forall_mem_cons.2 ⟨⟨Tryz.func97, by kernel_rfl, by kernel_rfl⟩,
 List.forall_mem_cons.2 ⟨⟨Tryz.func103, by kernel_rfl, by kernel_rfl⟩,
 List.forall_mem_cons.2 ⟨⟨Tryz.func106, by kernel_rfl, by kernel_rfl⟩,
 List.forall_mem_cons.2 ⟨⟨Tryz.func109, by kernel_rfl, by kernel_rfl⟩,
 List.forall_mem_cons.2 ⟨⟨Tryz.func110, by kernel_rfl, by kernel_rfl⟩,
 List.forall_mem_cons.2 ⟨⟨Tryz.func111, by kernel_rfl, by kernel_rfl⟩,
 List.forall_mem_cons.2 ⟨⟨Tryz.func112, by kernel_rfl, by kernel_rfl⟩,
 List.forall_mem_cons.2 ⟨⟨Tryz.func117, by kernel_rfl, by kernel_rfl⟩,
 List.forall_mem_cons.2 ⟨⟨Tryz.func131, by kernel_rfl, by kernel_rfl⟩,
 List.forall_mem_cons.2 ⟨⟨Tryz.func132, by kernel_rfl, by kernel_rfl⟩,
 List.forall_mem_cons.2 ⟨⟨Tryz.func133, by kernel_rfl, by kernel_rfl⟩,
 List.forall_mem_cons.2 ⟨⟨Tryz.func134, by kernel_rfl, by kernel_rfl⟩,
 List.forall_mem_cons.2 ⟨⟨Tryz.func135, by kernel_rfl, by kernel_rfl⟩,
 List.forall_mem_cons.2 ⟨⟨Tryz.func136, by kernel_rfl, by kernel_rfl⟩,
 List.forall_mem_cons.2 ⟨⟨Tryz.func143, by kernel_rfl, by kernel_rfl⟩,
 List.forall_mem_cons.2 ⟨⟨Tryz.func150, by kernel_rfl, by kernel_rfl⟩,
 (fun _ h => by cases h)⟩⟩⟩⟩⟩⟩⟩⟩⟩⟩⟩⟩⟩⟩⟩⟩⟩⟩⟩⟩⟩⟩⟩⟩⟩⟩⟩⟩⟩⟩⟩⟩⟩⟩⟩⟩⟩⟩⟩
end Go.Proofs.YtlfoglklibhbnaaGreat.Sx
