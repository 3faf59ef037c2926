/- FnClient: the statement, from the law of the abstract run. No condition. -/
import Derived.Test.YtlbagejkjkfkjaaHCClient4
import Derived.Test.YtlbagejkjkfkjaaB6
import Derived.Test.YtlbagejkjkfkjaaProg
import Derived.Test.YtlbagejkjkfkjaaRows
import Derived.ProofKit
import Derived.OpenShut
import Derived.ShutString
import Derived.ChangeOld
import Derived.Below
import Derived.SizedLaws
/- The functions that FnClient reaches: the program's code against the compact code, entry by entry. -/
namespace Go.Proofs.Ytlbagejkjkfkjaa.A.Client
open Go
def c : CC where
  T := [(3, ⟨1, 8, false, some [.int .i64 0], (.int .i64)⟩),
    (4, ⟨1, 1, false, some [.bool false], .bool⟩),
    (5, ⟨1, 1, false, some [.int .u8 0], (.int .u8)⟩),
    (22, ⟨1, 24, false, some [.nil], (.slice 5 19)⟩),
    (24, ⟨1, 8, false, some [.int .u64 0], (.int .u64)⟩),
    (38, ⟨5, 40, true, some [.int .i64 0, .int .i64 0, .int .u64 0, .int .u64 0, .int .i64 0], (.struct [(0, 1, false), (1, 1, false), (2, 1, false), (3, 1, false), (4, 1, false)])⟩),
    (46, ⟨1, 24, false, some [.nil], (.slice 175 7)⟩),
    (48, ⟨5, 56, true, some [.int .i64 0, .nil, .bool false, .int .u64 0, .int .i64 0], (.struct [(0, 1, false), (1, 1, false), (2, 1, false), (3, 1, false), (4, 1, false)])⟩),
    (50, ⟨14, 128, true, some [.int .i64 0, .int .i64 0, .int .i64 0, .nil, .bool false, .int .u64 0, .int .i64 0, .bool false, .int .i64 0, .int .i64 0, .int .i64 0, .int .u64 0, .int .u64 0, .int .i64 0], (.struct [(0, 1, false), (1, 1, false), (2, 5, true), (7, 1, false), (8, 1, false), (9, 5, true)])⟩),
    (58, ⟨8, 64, true, some [.int .i64 0, .int .i64 0, .int .i64 0, .int .i64 0, .int .i64 0, .int .u64 0, .int .u64 0, .int .i64 0], (.struct [(0, 1, false), (1, 1, false), (2, 1, false), (3, 5, true)])⟩),
    (113, ⟨9, 88, true, some [.int .i64 0, .int .i64 0, .int .i64 0, .int .u64 0, .int .i64 0, .nil, .bool false, .int .u64 0, .int .i64 0], (.struct [(0, 1, false), (1, 1, false), (2, 1, false), (3, 1, false), (4, 5, true)])⟩),
    (121, ⟨3, 24, true, some [.int .i64 0, .int .u64 0, .int .i64 0], (.struct [(0, 1, false), (1, 1, false), (2, 1, false)])⟩),
    (126, ⟨1, 24, false, some [.nil], (.slice 121 14)⟩),
    (129, ⟨1, 24, false, some [.nil], (.slice 3 15)⟩),
    (133, ⟨1, 24, false, some [.nil], (.slice 24 13)⟩),
    (175, ⟨3, 24, true, some [.int .u64 0, .int .u64 0, .int .i64 0], (.struct [(0, 1, false), (1, 1, false), (2, 1, false)])⟩),
    (195, ⟨3, 40, true, some [.nil, .int .i64 0, .int .i64 0], (.struct [(0, 1, false), (1, 1, false), (2, 1, false)])⟩),
    (240, ⟨1, 8, false, some [.int .u64 0], (.int .u64)⟩)]
  F := [(11, 174), (15, 144), (22, 147), (28, 150), (29, 151), (36, 160), (38, 161), (51, 175), (52, 79), (53, 90), (54, 176), (55, 177), (57, 180), (70, 187), (77, 194), (84, 197), (85, 78), (86, 198), (87, 199), (88, 110), (89, 200), (91, 201), (92, 202), (94, 5), (113, 219), (114, 220), (115, 107), (116, 106), (117, 116), (119, 115), (120, 103), (121, 104), (122, 121), (123, 221), (124, 222), (125, 223), (131, 225), (132, 226), (143, 235), (145, 236), (146, 237), (148, 238), (149, 239), (150, 240), (152, 69), (156, 7), (168, 92), (169, 253), (170, 252), (171, 126), (172, 125), (173, 124), (174, 120), (175, 122), (181, 257), (182, 258), (190, 263), (191, 264), (204, 271)]
  eqT := [(38, [.i .i64, .i .i64, .i .u64, .i .u64, .i .i64]), (58, [.i .i64, .i .i64, .i .i64, .i .i64, .i .i64, .i .u64, .i .u64, .i .i64])]
  adds := []
def F : Nat → Option RF := lk (tI11 ++ tI12 ++ tI16 ++ tLaws ++ tLibslicesIndexFuncimplRangeimplRange ++ tS01d ++ tS10 ++ tS11 ++ tS12 ++ tS16 ++ tWFnClient)
def tab : List (Nat × FuncId × RF) := [(174, 11, r174), (144, 15, r144), (147, 22, r147), (151, 29, r151), (161, 38, r161), (175, 51, r175), (79, 52, r79), (90, 53, r90), (176, 54, r176), (177, 55, r177), (197, 84, r197), (78, 85, r78), (198, 86, r198), (199, 87, r199), (110, 88, r110), (202, 92, r202), (194, 77, r194), (5, 94, r5), (219, 113, r219), (220, 114, r220), (107, 115, r107), (200, 89, r200), (106, 116, r106), (116, 117, r116), (115, 119, r115), (103, 120, r103), (150, 28, r150), (160, 36, r160), (187, 70, r187), (225, 131, r225), (226, 132, r226), (236, 145, r236), (92, 168, r92), (253, 169, r253), (252, 170, r252), (235, 143, r235), (237, 146, r237), (239, 149, r239), (126, 171, r126), (125, 172, r125), (7, 156, r7), (124, 173, r124), (121, 122, r121), (120, 174, r120), (201, 91, r201), (180, 57, r180), (257, 181, r257), (238, 148, r238), (258, 182, r258), (263, 190, r263), (240, 150, r240), (264, 191, r264), (69, 152, r69), (104, 121, r104), (221, 123, r221), (222, 124, r222), (223, 125, r223), (271, 204, r271), (122, 175, r122)]
def tags : List (Nat × TypeId × Nat) := [(7, 175, 3), (13, 24, 1), (14, 121, 3), (15, 3, 1), (19, 5, 1)]
theorem ok174 : FnOk Try.prog c F (174, 11, r174) := ⟨Try.f11, [], [[0, 1, 2, 3, 4, 5, 6, 7, 8, 9, 10, 11, 12, 13, 14, 15, 16, 17, 18, 19, 20, 21, 22, 23, 24, 25, 26, 27, 28, 29, 30, 31, 32, 33, 34, 35, 36, 37, 38, 39, 40, 41, 42, 43, 44, 45, 46, 47, 48, 49, 50, 51, 52, 53, 54, 55, 56, 57, 58, 59, 60], [0, 1, 2, 3, 4, 5, 6, 7, 8, 9, 10, 11, 12, 13, 14, 15, 16, 17, 18, 19, 20, 21, 22, 23, 24, 25, 26, 27, 28, 29, 30, 31, 32, 33, 34, 35, 36, 37, 38, 39, 40, 41, 42, 43, 44, 45, 46, 47, 48, 49, 50, 51, 52, 53, 54, 55, 56, 57, 58, 59, 60], [], [], [0, 3, 4, 5, 6, 7, 9], [15, 5, 0, 1, 2, 3, 4, 9, 6, 7, 8, 10, 11, 12, 13, 14, 16, 17], [0, 1, 2, 3, 4, 5, 6, 7, 8, 9, 10, 11, 12, 13, 15, 16, 14, 17], [], [], [13, 5, 0, 1, 2, 3, 4, 6, 7, 8, 9, 10, 11, 12, 14, 15], [0, 1, 2, 3, 4, 5, 6, 7, 8, 9, 10, 11, 13, 14, 12, 15], [], [], [0, 1, 2, 3, 4, 5, 6, 7, 8, 9, 10, 11, 12, 13, 14, 15, 16, 17, 18, 19, 20, 21, 22, 23, 24, 25, 26, 27, 28, 29, 30, 31, 32, 33, 34, 35, 36, 37, 38], [0, 1, 2, 3, 4, 5, 6, 7, 8, 9, 10, 11, 12, 13, 14, 15, 16, 17, 18, 19, 20, 21, 22, 23, 24, 25, 26, 27, 28, 29, 30, 31, 32, 33, 34, 35, 36, 37, 38], [], []], Try.func11, by kernel_rfl, by kernel_rfl, by kernel_rfl⟩
theorem ok144 : FnOk Try.prog c F (144, 15, r144) := ⟨Try.f15, [], [], Try.func15, by kernel_rfl, by kernel_rfl, by kernel_rfl⟩
theorem ok147 : FnOk Try.prog c F (147, 22, r147) := ⟨Try.f22, [], [], Try.func22, by kernel_rfl, by kernel_rfl, by kernel_rfl⟩
theorem ok151 : FnOk Try.prog c F (151, 29, r151) := ⟨Try.f29, [], [[0, 1, 2, 3, 4, 5], [0, 1, 2, 3, 4, 5], [], []], Try.func29, by kernel_rfl, by kernel_rfl, by kernel_rfl⟩
theorem ok161 : FnOk Try.prog c F (161, 38, r161) := ⟨Try.f38, [], [[0, 1, 2, 3, 4, 5], [0, 1, 2, 3, 4, 5], [], []], Try.func38, by kernel_rfl, by kernel_rfl, by kernel_rfl⟩
theorem ok175 : FnOk Try.prog c F (175, 51, r175) := ⟨Try.f51, [], [[0, 1, 2, 3, 4, 5], [0, 3, 1, 4, 2, 5], [2, 3], []], Try.func51, by kernel_rfl, by kernel_rfl, by kernel_rfl⟩
theorem ok79 : FnOk Try.prog c F (79, 52, r79) := ⟨Try.f52, [], [], Try.func52, by kernel_rfl, by kernel_rfl, by kernel_rfl⟩
theorem ok90 : FnOk Try.prog c F (90, 53, r90) := ⟨Try.f53, [], [[6, 0, 1, 2, 3, 4, 5, 7, 8, 9, 10, 11], [0, 1, 2, 3, 4, 5, 6, 7, 8, 9, 10, 11], [], []], Try.func53, by kernel_rfl, by kernel_rfl, by kernel_rfl⟩
theorem ok176 : FnOk Try.prog c F (176, 54, r176) := ⟨Try.f54, [6], [[0, 1, 2, 3, 4], [0, 3, 1, 2, 4], [4], []], Try.func54, by kernel_rfl, by kernel_rfl, by kernel_rfl⟩
theorem ok177 : FnOk Try.prog c F (177, 55, r177) := ⟨Try.f55, [], [], Try.func55, by kernel_rfl, by kernel_rfl, by kernel_rfl⟩
theorem ok197 : FnOk Try.prog c F (197, 84, r197) := ⟨Try.f84, [], [], Try.func84, by kernel_rfl, by kernel_rfl, by kernel_rfl⟩
theorem ok78 : FnOk Try.prog c F (78, 85, r78) := ⟨Try.f85, [], [], Try.func85, by kernel_rfl, by kernel_rfl, by kernel_rfl⟩
theorem ok198 : FnOk Try.prog c F (198, 86, r198) := ⟨Try.f86, [], [], Try.func86, by kernel_rfl, by kernel_rfl, by kernel_rfl⟩
theorem ok199 : FnOk Try.prog c F (199, 87, r199) := ⟨Try.f87, [], [], Try.func87, by kernel_rfl, by kernel_rfl, by kernel_rfl⟩
theorem ok110 : FnOk Try.prog c F (110, 88, r110) := ⟨Try.f88, [], [], Try.func88, by kernel_rfl, by kernel_rfl, by kernel_rfl⟩
theorem ok202 : FnOk Try.prog c F (202, 92, r202) := ⟨Try.f92, [], [[0, 1, 2, 3, 4, 5, 6, 7, 8, 9, 10, 11, 16, 12, 13, 14, 15, 17, 18], [0, 1, 2, 3, 4, 5, 6, 7, 8, 9, 10, 11, 12, 13, 14, 15, 16, 17, 18], [], []], Try.func92, by kernel_rfl, by kernel_rfl, by kernel_rfl⟩
theorem ok194 : FnOk Try.prog c F (194, 77, r194) := ⟨Try.f77, [31], [[0, 3, 4]], Try.func77, by kernel_rfl, by kernel_rfl, by kernel_rfl⟩
theorem ok5 : FnOk Try.prog c F (5, 94, r5) := ⟨Try.f94, [], [], Try.func94, by kernel_rfl, by kernel_rfl, by kernel_rfl⟩
theorem ok219 : FnOk Try.prog c F (219, 113, r219) := ⟨Try.f113, [], [[8, 1, 2, 0, 3, 4, 5, 6, 7, 9, 10], [0, 1, 2, 3, 4, 5, 6, 8, 9, 7, 10], [], [0, 3], [5, 0, 3, 1, 2, 4, 6], [0, 1, 2, 3, 4, 5, 6], [], [1, 3], [0, 4, 5, 7, 9, 10], [1, 0, 2, 3, 4, 5, 6, 7, 8], [0, 1, 2, 3, 4, 5, 8, 6, 7], [], [0, 2], [1, 0, 2, 3, 4, 5, 6, 7, 8, 9], [0, 1, 2, 3, 4, 5, 6, 7, 9, 8], [], [0, 4], [0, 1, 2, 3], [0, 2, 1, 3], [4], []], Try.func113, by kernel_rfl, by kernel_rfl, by kernel_rfl⟩
theorem ok220 : FnOk Try.prog c F (220, 114, r220) := ⟨Try.f114, [], [], Try.func114, by kernel_rfl, by kernel_rfl, by kernel_rfl⟩
theorem ok107 : FnOk Try.prog c F (107, 115, r107) := ⟨Try.f115, [3], [], Try.func115, by kernel_rfl, by kernel_rfl, by kernel_rfl⟩
theorem ok200 : FnOk Try.prog c F (200, 89, r200) := ⟨Try.f89, [], [], Try.func89, by kernel_rfl, by kernel_rfl, by kernel_rfl⟩
theorem ok106 : FnOk Try.prog c F (106, 116, r106) := ⟨Try.f116, [], [[9, 0, 1, 2, 3, 4, 5, 6, 7, 8, 10], [0, 1, 2, 3, 4, 5, 6, 7, 8, 9, 10], [], []], Try.func116, by kernel_rfl, by kernel_rfl, by kernel_rfl⟩
theorem ok116 : FnOk Try.prog c F (116, 117, r116) := ⟨Try.f117, [], [], Try.func117, by kernel_rfl, by kernel_rfl, by kernel_rfl⟩
theorem ok115 : FnOk Try.prog c F (115, 119, r115) := ⟨Try.f119, [], [[1, 2, 3, 4], [4, 0, 1, 2, 3, 5, 6, 7, 8, 9, 10], [0, 1, 2, 3, 4, 5, 6, 7, 8, 9, 10], [], []], Try.func119, by kernel_rfl, by kernel_rfl, by kernel_rfl⟩
theorem ok103 : FnOk Try.prog c F (103, 120, r103) := ⟨Try.f120, [], [[0, 1, 2, 3, 4, 5, 6, 7, 10, 8, 9, 11, 12, 13, 14, 15, 16, 17, 18], [0, 1, 2, 3, 4, 5, 6, 7, 8, 9, 10, 11, 12, 13, 14, 15, 16, 17, 18], [], []], Try.func120, by kernel_rfl, by kernel_rfl, by kernel_rfl⟩
theorem ok150 : FnOk Try.prog c F (150, 28, r150) := ⟨Try.f28, [], [[0, 1, 2, 3, 4, 5], [0, 1, 2, 3, 4, 5], [], []], Try.func28, by kernel_rfl, by kernel_rfl, by kernel_rfl⟩
theorem ok160 : FnOk Try.prog c F (160, 36, r160) := ⟨Try.f36, [], [[0, 1, 2, 3, 4, 5], [0, 1, 2, 3, 4, 5], [], []], Try.func36, by kernel_rfl, by kernel_rfl, by kernel_rfl⟩
theorem ok187 : FnOk Try.prog c F (187, 70, r187) := ⟨Try.f70, [], [[1, 4, 6, 7, 8], [9, 1, 2, 3, 0, 4, 5, 6, 7, 8, 10, 11], [0, 1, 2, 3, 4, 5, 6, 7, 9, 10, 8, 11], [], []], Try.func70, by kernel_rfl, by kernel_rfl, by kernel_rfl⟩
theorem ok225 : FnOk Try.prog c F (225, 131, r225) := ⟨Try.f131, [], [], Try.func131, by kernel_rfl, by kernel_rfl, by kernel_rfl⟩
theorem ok226 : FnOk Try.prog c F (226, 132, r226) := ⟨Try.f132, [], [[0, 5, 6]], Try.func132, by kernel_rfl, by kernel_rfl, by kernel_rfl⟩
theorem ok236 : FnOk Try.prog c F (236, 145, r236) := ⟨Try.f145, [], [], Try.func145, by kernel_rfl, by kernel_rfl, by kernel_rfl⟩
theorem ok92 : FnOk Try.prog c F (92, 168, r92) := ⟨Try.f168, [], [], Try.func168, by kernel_rfl, by kernel_rfl, by kernel_rfl⟩
theorem ok253 : FnOk Try.prog c F (253, 169, r253) := ⟨Try.f169, [], [[0, 2, 3, 1, 4, 5], [0, 1, 4, 2, 3, 5], [4], []], Try.func169, by kernel_rfl, by kernel_rfl, by kernel_rfl⟩
theorem ok252 : FnOk Try.prog c F (252, 170, r252) := ⟨Try.f170, [], [[10, 4, 7, 0, 1, 2, 3, 5, 6, 8, 9, 11], [0, 1, 2, 3, 4, 5, 6, 7, 8, 9, 10, 11], [], [1, 3, 6, 8]], Try.func170, by kernel_rfl, by kernel_rfl, by kernel_rfl⟩
theorem ok235 : FnOk Try.prog c F (235, 143, r235) := ⟨Try.f143, [], [], Try.func143, by kernel_rfl, by kernel_rfl, by kernel_rfl⟩
theorem ok237 : FnOk Try.prog c F (237, 146, r237) := ⟨Try.f146, [], [], Try.func146, by kernel_rfl, by kernel_rfl, by kernel_rfl⟩
theorem ok239 : FnOk Try.prog c F (239, 149, r239) := ⟨Try.f149, [], [], Try.func149, by kernel_rfl, by kernel_rfl, by kernel_rfl⟩
theorem ok126 : FnOk Try.prog c F (126, 171, r126) := ⟨Try.f171, [], [[0, 1, 7, 8]], Try.func171, by kernel_rfl, by kernel_rfl, by kernel_rfl⟩
theorem ok125 : FnOk Try.prog c F (125, 172, r125) := ⟨Try.f172, [], [], Try.func172, by kernel_rfl, by kernel_rfl, by kernel_rfl⟩
theorem ok7 : FnOk Try.prog c F (7, 156, r7) := ⟨Try.f156, [], [], Try.func156, by kernel_rfl, by kernel_rfl, by kernel_rfl⟩
theorem ok124 : FnOk Try.prog c F (124, 173, r124) := ⟨Try.f173, [], [[0, 30, 31, 32], [0, 1, 2, 3, 4, 5, 6, 7, 8, 9, 10, 11, 12, 13, 14, 15, 16, 17, 18, 22, 23, 24, 25, 19, 20, 21, 26, 27, 28, 29, 30, 31], [0, 1, 2, 3, 4, 5, 6, 7, 8, 9, 10, 11, 12, 13, 14, 15, 16, 17, 18, 19, 20, 21, 22, 23, 24, 25, 26, 27, 28, 29, 30, 31], [], []], Try.func173, by kernel_rfl, by kernel_rfl, by kernel_rfl⟩
theorem ok121 : FnOk Try.prog c F (121, 122, r121) := ⟨Try.f122, [], [[0, 1, 5]], Try.func122, by kernel_rfl, by kernel_rfl, by kernel_rfl⟩
theorem ok120 : FnOk Try.prog c F (120, 174, r120) := ⟨Try.f174, [], [[0, 3], [0, 1, 2, 3, 4, 5, 6, 7, 8, 9, 10, 11, 12, 13, 14, 15, 16, 17, 18, 19, 20, 21, 22, 25, 26, 27, 28, 23, 24, 29, 30, 31, 32, 33, 34, 35], [0, 1, 2, 3, 4, 5, 6, 7, 8, 9, 10, 11, 12, 13, 14, 15, 16, 17, 18, 19, 20, 21, 22, 23, 24, 25, 26, 27, 28, 29, 30, 31, 32, 33, 34, 35], [], []], Try.func174, by kernel_rfl, by kernel_rfl, by kernel_rfl⟩
theorem ok201 : FnOk Try.prog c F (201, 91, r201) := ⟨Try.f91, [], [], Try.func91, by kernel_rfl, by kernel_rfl, by kernel_rfl⟩
theorem ok180 : FnOk Try.prog c F (180, 57, r180) := ⟨Try.f57, [], [[6, 0, 1, 2, 3, 4, 5, 7, 8, 9, 10, 11, 12, 13, 14, 15, 16], [0, 1, 2, 3, 4, 5, 6, 7, 8, 9, 10, 11, 12, 14, 15, 13, 16], [], [], [2, 0, 1, 3, 4, 5, 6, 7, 8, 9, 10, 11, 12], [0, 1, 2, 3, 4, 5, 6, 7, 8, 9, 10, 11, 12], [], [], [0, 1, 2, 3, 4, 9, 5, 6, 7, 8, 10, 11, 12, 13, 14], [0, 1, 2, 3, 4, 5, 6, 7, 8, 9, 10, 11, 12, 13, 14], [], []], Try.func57, by kernel_rfl, by kernel_rfl, by kernel_rfl⟩
theorem ok257 : FnOk Try.prog c F (257, 181, r257) := ⟨Try.f181, [], [], Try.func181, by kernel_rfl, by kernel_rfl, by kernel_rfl⟩
theorem ok238 : FnOk Try.prog c F (238, 148, r238) := ⟨Try.f148, [], [], Try.func148, by kernel_rfl, by kernel_rfl, by kernel_rfl⟩
theorem ok258 : FnOk Try.prog c F (258, 182, r258) := ⟨Try.f182, [], [], Try.func182, by kernel_rfl, by kernel_rfl, by kernel_rfl⟩
theorem ok263 : FnOk Try.prog c F (263, 190, r263) := ⟨Try.f190, [], [[0, 1, 5, 6, 2, 3, 4, 7, 8, 9, 10, 11, 12], [0, 1, 2, 3, 4, 5, 6, 7, 8, 9, 10, 11, 12], [], [], [0, 1, 4, 5, 2, 3, 6, 7, 8, 9], [0, 1, 2, 3, 4, 5, 6, 7, 8, 9], [], [], [0, 1, 2, 5, 6, 3, 4, 7, 8, 9, 10, 11, 12, 13, 14], [0, 1, 2, 3, 4, 5, 6, 7, 8, 9, 10, 11, 12, 13, 14], [], []], Try.func190, by kernel_rfl, by kernel_rfl, by kernel_rfl⟩
theorem ok240 : FnOk Try.prog c F (240, 150, r240) := ⟨Try.f150, [], [], Try.func150, by kernel_rfl, by kernel_rfl, by kernel_rfl⟩
theorem ok264 : FnOk Try.prog c F (264, 191, r264) := ⟨Try.f191, [], [[0, 3, 4]], Try.func191, by kernel_rfl, by kernel_rfl, by kernel_rfl⟩
theorem ok69 : FnOk Try.prog c F (69, 152, r69) := ⟨Try.f152, [], [[4, 0, 1, 2, 3, 9, 10, 5, 6, 7, 8, 11, 12], [0, 1, 2, 3, 4, 5, 6, 7, 8, 11, 9, 10, 12], [], []], Try.func152, by kernel_rfl, by kernel_rfl, by kernel_rfl⟩
theorem ok104 : FnOk Try.prog c F (104, 121, r104) := ⟨Try.f121, [], [[0, 1, 5]], Try.func121, by kernel_rfl, by kernel_rfl, by kernel_rfl⟩
theorem ok221 : FnOk Try.prog c F (221, 123, r221) := ⟨Try.f123, [], [[0, 1, 2, 8, 9, 10], [0, 1, 2, 3, 6, 7, 8, 9, 10, 4, 5, 11, 12, 13, 14, 15, 16], [0, 1, 2, 3, 4, 5, 6, 7, 8, 9, 10, 11, 12, 13, 14, 15, 16], [], []], Try.func123, by kernel_rfl, by kernel_rfl, by kernel_rfl⟩
theorem ok222 : FnOk Try.prog c F (222, 124, r222) := ⟨Try.f124, [], [[0, 1, 2, 3, 4, 5, 6, 7, 8, 9, 10, 11, 12, 13, 14, 17, 18, 19, 20, 15, 16, 21, 22, 23, 24], [0, 1, 2, 3, 4, 5, 6, 7, 8, 9, 10, 11, 12, 13, 14, 15, 16, 17, 18, 19, 20, 21, 22, 23, 24], [], [], [0, 1, 6, 7]], Try.func124, by kernel_rfl, by kernel_rfl, by kernel_rfl⟩
theorem ok223 : FnOk Try.prog c F (223, 125, r223) := ⟨Try.f125, [], [[0, 1, 2, 8, 9]], Try.func125, by kernel_rfl, by kernel_rfl, by kernel_rfl⟩
theorem ok271 : FnOk Try.prog c F (271, 204, r271) := ⟨Try.f204, [], [], Try.func204, by kernel_rfl, by kernel_rfl, by kernel_rfl⟩
theorem ok122 : FnOk Try.prog c F (122, 175, r122) := ⟨Try.f175, [], [], Try.func175, by kernel_rfl, by kernel_rfl, by kernel_rfl⟩
theorem okT : (c.T.all fun x => x.2.okB Try.prog (mkCfg Try.prog tab tags).ET (mkCfg Try.prog tab tags).SZ x.1) = true := by kernel_rfl
theorem okF : (c.F.all fun x => decide ((lk tab x.2).map (·.1) = some x.1)) = true := by kernel_rfl
theorem okTab : AllT (FnOk Try.prog c F) tab := ⟨ok174, ok144, ok147, ok151, ok161, ok175, ok79, ok90, ok176, ok177, ok197, ok78, ok198, ok199, ok110, ok202, ok194, ok5, ok219, ok220, ok107, ok200, ok106, ok116, ok115, ok103, ok150, ok160, ok187, ok225, ok226, ok236, ok92, ok253, ok252, ok235, ok237, ok239, ok126, ok125, ok7, ok124, ok121, ok120, ok201, ok180, ok257, ok238, ok258, ok263, ok240, ok264, ok69, ok104, ok221, ok222, ok223, ok271, ok122, trivial⟩
theorem prog (O : Nat) : ProgOk ((mkCfg Try.prog tab tags).at O) c F (fun _ _ _ => none) :=
  mkProg okT okF okTab ⟨⟩ ⟨⟨by kernel_rfl, by kernel_rfl, by kernel_rfl⟩, ⟨by kernel_rfl, by kernel_rfl, by kernel_rfl⟩, trivial⟩ O
theorem inI11 : AllT (fun x => F x.1 = some x.2) tI11 := ⟨rfl, rfl, rfl, rfl, rfl, rfl, trivial⟩
theorem inI12 : AllT (fun x => F x.1 = some x.2) tI12 := ⟨rfl, rfl, rfl, rfl, rfl, rfl, rfl, rfl, rfl, trivial⟩
theorem inI16 : AllT (fun x => F x.1 = some x.2) tI16 := ⟨rfl, rfl, rfl, rfl, rfl, rfl, rfl, rfl, rfl, rfl, rfl, trivial⟩
theorem inLaws : AllT (fun x => F x.1 = some x.2) tLaws := ⟨rfl, rfl, trivial⟩
theorem inLibslicesIndexFuncimplRangeimplRange : AllT (fun x => F x.1 = some x.2) tLibslicesIndexFuncimplRangeimplRange := ⟨rfl, trivial⟩
theorem inS01d : AllT (fun x => F x.1 = some x.2) tS01d := ⟨rfl, rfl, rfl, rfl, rfl, rfl, rfl, rfl, rfl, trivial⟩
theorem inS10 : AllT (fun x => F x.1 = some x.2) tS10 := ⟨rfl, rfl, rfl, rfl, rfl, rfl, rfl, rfl, rfl, rfl, rfl, rfl, rfl, trivial⟩
theorem inS11 : AllT (fun x => F x.1 = some x.2) tS11 := ⟨rfl, rfl, rfl, rfl, rfl, rfl, rfl, trivial⟩
theorem inS12 : AllT (fun x => F x.1 = some x.2) tS12 := ⟨rfl, rfl, rfl, rfl, rfl, rfl, rfl, rfl, rfl, rfl, rfl, rfl, trivial⟩
theorem inS16 : AllT (fun x => F x.1 = some x.2) tS16 := ⟨rfl, rfl, rfl, rfl, rfl, rfl, rfl, rfl, rfl, rfl, rfl, rfl, rfl, rfl, trivial⟩
theorem inWFnClient : AllT (fun x => F x.1 = some x.2) tWFnClient := ⟨rfl, trivial⟩
end Go.Proofs.Ytlbagejkjkfkjaa.A.Client
/- FnClient: the law's function answers true, whatever is drawn. -/
namespace Go.Proofs.Ytlbagejkjkfkjaa.A
open Go
set_option linter.unusedSimpArgs false
set_option linter.unusedVariables false
section
variable {F : Nat → Option RF} {Z : CallF} {g h : Heap}
theorem hold (h : Heap) (n f : Nat) (p : Nat → Option (List (List Cell))) : ∃ g', Heap.mk n f p = g' := ⟨_, rfl⟩
set_option maxHeartbeats 8000000 in
set_option maxRecDepth 8000 in
theorem law_Client (hI11 : Has F tI11) (hI12 : Has F tI12) (hI16 : Has F tI16) (hLaws : Has F tLaws) (hLi : Has F tLibslicesIndexFuncimplRangeimplRange) (hS : Has F tS01d) (hS10 : Has F tS10) (hS11 : Has F tS11) (hS12 : Has F tS12) (hS16 : Has F tS16) (hW : Has F tWFnClient)
    (h : Heap) (avs : List V) (hfl : h.floor = h.next) (w : ArgsWf h 8 [shUint8S] avs) : ∃ h', call F Z 174 avs h = some (.c (.bool true), h') := by
  obtain ⟨x, _, rfl, xw, w1⟩ := ArgsWf.slice w
  obtain ⟨code, v, hby⟩ := Wf.areBytes xw
  obtain rfl := w1.nil
  have f0 : h.floor ≤ h.next := by omega
  rw [call_run F Z (hW.lk (g := 174) rfl) _ _ rfl]
  have hb := big_run (Z := Z) hLaws v
  by_cases hbig : (code.length : Int) > 1048576
  · rw [decide_eq_true hbig] at hb
    simp only [run0, run1, run2, run3, run4, noSlot, ownS, ownK, memN, RO.dst, lk, drop, forget, number, Nat.reduceBEq, cut?, splice?, builds, List.length_cons, List.length_nil, List.drop_succ_cons, List.drop_zero, List.take_succ_cons, List.take_zero, List.cons_append, List.nil_append, List.append_nil, List.drop_nil, List.take_nil, Nat.reduceAdd, Nat.reduceLeDiff, Nat.zero_add, Nat.add_zero, ↓reduceIte, Bool.not_true, Bool.not_false, decide_true, decide_false, eq_self, bne_self_eq_false, List.getElem?_cons_zero, List.getElem?_cons_succ, decide_eq_true_eq, Bool.false_eq_true, Bool.true_eq_false, reduceCtorEq, Nat.le_refl, hb]
    exact ⟨_, rfl⟩
  rw [decide_eq_false hbig] at hb
  obtain ⟨c0, cs0, d, ds, q, h1, fp, fq, e1, o1, v0, vd, w0, s0, dg, dok, dsm, okq, hop⟩ := DrawRightClient_c (Z := Z) hS hS10 hS11 hS12 hS16 f0 v
  obtain ⟨l1, l2, l3⟩ := Client.lenI v0
  -- the client is set free
  obtain ⟨cs1, h2, f1, e2, o2, v1, _⟩ := sClientStop_c (Z := Z) hS hS11 hS12 hS16 (o1.le f0) v0 w0.ok w0.small
  obtain ⟨wc, hbz, hsq⟩ := stop_free w0
  have s1 : (clientStop c0).1.seq ≤ 10 := by omega
  have s2 : 0 ≤ (clientStop c0).1.seq := (client_parts wc.good).2.1.1
  clear hsq
  generalize (clientStop c0).2 = z0 at e2
  generalize (clientStop c0).1 = c1 at *
  obtain ⟨ci, cq, cch, cbz, ctr, cak⟩ := c1
  have hbz : cbz = false := hbz
  subst hbz
  replace s1 : cq ≤ 10 := s1
  replace s2 : 0 ≤ cq := s2
  have o12 := o1.trans o2
  -- it asks
  obtain ⟨ask1, wa⟩ := ask_free wc rfl (show cq ≤ 1000 by omega) hop okq
  obtain ⟨bs, h3, f3, e3, o3, vb, _⟩ := ClientAsk_c (Z := Z) hI11 hI12 hI16 hLi (o12.le f0) v1 q wc.ok wc.small okq
  rw [ask1] at e3 vb
  have v1' := Client.okI.on v1 o3
  have o13 := o12.trans o3
  -- what it says of itself
  obtain ⟨hq4, e4, o4⟩ := ClientOk_c (Z := Z) (h := ⟨h3.next, h3.next, h3.get⟩) hI11 hI12 hI16 hLi (Nat.le_refl _) (Client.okI.up v1' _) wc.ok
  obtain ⟨h4, m4⟩ := hold h3 hq4.next h3.floor hq4.get
  have p4 := quiet_on o4
  rw [m4] at p4
  obtain ⟨hq5, e5, o5⟩ := ClientOk_c (Z := Z) (h := ⟨h4.next, h4.next, h4.get⟩) hI11 hI12 hI16 hLi (Nat.le_refl _) (Client.okI.up (Client.okI.on vb p4) _) wa.ok
  obtain ⟨h5, m5⟩ := hold h4 hq5.next h4.floor hq5.get
  have p5 := quiet_on o5
  rw [m5] at p5
  have p45 := p4.trans p5
  obtain ⟨hq6, e6, o6⟩ := ClientWhere_c (Z := Z) (h := ⟨h5.next, h5.next, h5.get⟩) hI11 hI12 hI16 hLi (Nat.le_refl _) (Client.okI.up (Client.okI.on v1' p45) _) q.id wc.ok okq.id
  obtain ⟨h6, m6⟩ := hold h5 hq6.next h5.floor hq6.get
  have p6 := quiet_on o6
  rw [m6] at p6
  have p46 := p45.trans p6
  have hwh : (⟨ci, cq, cch, false, ctr, cak⟩ : Client).where_ q.id = (cch.of_ q.id).group := by simp [Client.where_, wc.good]
  rw [hwh] at e6
  rw [wc.good] at e4
  rw [wa.good] at e5
  -- again and again
  have f6 := (o13.trans p46).le f0
  obtain ⟨s', ⟨bs6, g6, f66, rfl, og, wg, vg⟩, key⟩ := loop_goes (F := F) (Z := Z) (live := [0, 3, 4, 5, 6, 7, 9]) (b := r174L0) 5 (fun i s => ∃ (bs' : List Cell) (g' : Heap) (fp' : List Nat), s = ⟨[(0, .c x), (9, .c (.int .i64 (((i + 1 : Nat) : Int))))], [(3, 3, 0), (4, 4, 0), (5, 5, 0), (6, 6, 0), (7, 7, 0)], [(3, cs1), (4, ds), (5, q.enc), (6, bs'), (7, ((⟨ci, cq, cch, false, ctr, cak⟩ : Client).asks q).msg.enc)], g'⟩ ∧ On h6 g' ∧ CGood (((⟨ci, cq, cch, false, ctr, cak⟩ : Client).asks q).tried ((i + 1 : Nat) : Int)) ∧ Client.RI g' bs' (((⟨ci, cq, cch, false, ctr, cak⟩ : Client).asks q).tried ((i + 1 : Nat) : Int)) fp') (fun i s hi ⟨bs', g', fp', hs, og, wg, vg⟩ => by
    subst hs
    obtain ⟨bs2, g2, fp2, o', v', e⟩ := client_turn (F := F) (Z := Z) (x := x) hI11 hI12 hI16 hLi (og.le f6) (t := ((i + 1 : Nat) : Int)) (by omega) wg vg cs1 ds q.enc
    exact ⟨_, ⟨bs2, g2, fp2, rfl, og.trans o', (again_one wg (by omega)).2, v'⟩, e⟩) (s := ⟨[(0, .c x), (9, .c (.int .i64 ((0 + 1 : Nat) : Int)))], [(3, 3, 0), (4, 4, 0), (5, 5, 0), (6, 6, 0), (7, 7, 0)], [(3, cs1), (4, ds), (5, q.enc), (6, bs), (7, ((⟨ci, cq, cch, false, ctr, cak⟩ : Client).asks q).msg.enc)], h6⟩) ⟨bs, h6, f3, rfl, On.refl h6, wa, Client.okI.on vb p46⟩
  replace wg : CGood (((⟨ci, cq, cch, false, ctr, cak⟩ : Client).asks q).tried 6) := wg
  replace vg : Client.RI g6 bs6 (((⟨ci, cq, cch, false, ctr, cak⟩ : Client).asks q).tried 6) f66 := vg
  -- no more
  obtain ⟨bs8, h8, f8, e8, o8, v8, _⟩ := ClientAgain_c (Z := Z) hI11 hI12 hI16 hLi (og.le f6) vg wg.ok wg.small
  rw [again_six wg] at e8 v8
  have vg8 := Client.okI.on vg o8
  obtain ⟨bs9, h9, f9, e9, o9, v9, _⟩ := ClientAsk_c (Z := Z) hI11 hI12 hI16 hLi ((og.trans o8).le f6) vg8 q wg.ok wg.small okq
  rw [ask_busy rfl] at e9 v9
  have vg9 := Client.okI.on vg8 o9
  have o69 := (og.trans o8).trans o9
  -- an old answer
  have hs1 : 0 ≤ ci ∧ ci ≤ 1000 := by have h := (client_parts wc.good).1; simp only at h; omega
  have r1 : Reply.RI h9 [.int .i64 ci, .int .i64 (cq + 1 - 1), .int .i64 0, .int .u64 0, .int .i64 0, .nil, .bool false, .int .u64 0, .int .i64 0] ⟨ci, cq + 1 - 1, 0, 0, ch0⟩ [] := ⟨.nil, [], rfl, rfl, SlR.nil _ _ _⟩
  obtain ⟨bs10, h10, f10, e10, o10, v10, _⟩ := ClientHear_c (Z := Z) hI11 hI12 hI16 hLi (o69.le f6) vg9 r1 wg.ok wg.small ⟨by simp only; omega, by simp only; omega, by simp, by simp, ch0_ok⟩ ch0_small
  have hh : clientHear (((⟨ci, cq, cch, false, ctr, cak⟩ : Client).asks q).tried 6) ⟨ci, cq + 1 - 1, 0, 0, ch0⟩ = (((⟨ci, cq, cch, false, ctr, cak⟩ : Client).asks q).tried 6, -2) := hear_old wg
  rw [hh] at e10 v10
  have vg10 := Client.okI.on vg9 o10
  have o610 := o69.trans o10
  have on10 := o13.trans (p46.trans o610)
  -- told away
  obtain ⟨b1, hb1, e11⟩ := at_byte (Z := Z) (x := x) hLaws hby (by omega) (i := 3) (by omega)
  replace e11 := e11 ⟨h10.next, h10.next, h10.get⟩ (show Vw 19 byte_enc h10 x code from v.on on10)
  have hb1' : Int.tmod b1 3 = b1 % 3 := Int.tmod_eq_emod_of_nonneg hb1.1
  have vd10 := Chart.okI.on vd (o2.trans (o3.trans (p46.trans o610)))
  obtain ⟨xd, pd, rfl, rfl, rd⟩ := vd10
  have r2 : Reply.RI h10 [.int .i64 ci, .int .i64 (cq + 1), .int .i64 (8 + Int.tmod b1 3), .int .u64 0, .int .i64 d.epoch, xd, .bool d.moving, .int .u64 d.lo, .int .i64 d.to] ⟨ci, cq + 1, 8 + Int.tmod b1 3, 0, d⟩ _ := ⟨xd, _, rfl, rfl, rd⟩
  have ok2 : (⟨ci, cq + 1, 8 + Int.tmod b1 3, 0, d⟩ : Reply).Ok := ⟨by simp only; omega, by simp only; omega, by simp only [hb1']; omega, by simp, dok⟩
  obtain ⟨bs12, hq12, f12, e12, o12', v12, _⟩ := ClientHear_c (Z := Z) (h := ⟨h10.next, h10.next, h10.get⟩) hI11 hI12 hI16 hLi (Nat.le_refl _) (Client.okI.up vg10 _) (Reply.okI.up r2 _) wg.ok wg.small ok2 dsm
  obtain ⟨h12, m12⟩ := hold h10 hq12.next h10.floor hq12.get
  have p12 := quiet_on o12'
  replace v12 := Client.okI.up v12 h10.floor
  rw [m12] at p12 v12
  have hh : clientHear (((⟨ci, cq, cch, false, ctr, cak⟩ : Client).asks q).tried 6) ⟨ci, cq + 1, 8 + Int.tmod b1 3, 0, d⟩ = ((((⟨ci, cq, cch, false, ctr, cak⟩ : Client).asks q).tried 6).takes ⟨ci, cq + 1, 8 + Int.tmod b1 3, 0, d⟩, -1) := hear_wait wg rfl (by rw [hb1']; omega)
  rw [hh] at e12 v12
  simp only at e12 v12
  have w12 := (wg.hear ok2 dsm).1
  rw [hh] at w12
  simp only at w12
  have hep := takes_epoch (b := ((⟨ci, cq, cch, false, ctr, cak⟩ : Client).asks q).tried 6) dg ci (cq + 1) (8 + Int.tmod b1 3) 0
  obtain ⟨tA, tB, tC⟩ := Client.takes_id (c := ((⟨ci, cq, cch, false, ctr, cak⟩ : Client).asks q).tried 6) (r := ⟨ci, cq + 1, 8 + Int.tmod b1 3, 0, d⟩)
  generalize (((⟨ci, cq, cch, false, ctr, cak⟩ : Client).asks q).tried 6).takes ⟨ci, cq + 1, 8 + Int.tmod b1 3, 0, d⟩ = W at *
  obtain ⟨wi, wq, wch, wbz, wtr, wak⟩ := W
  have t1 : wi = ci := tA
  have t2 : wq = cq + 1 := tB
  have t3 : wbz = true := tC
  clear tA tB tC
  subst t1 t2 t3
  replace hep : (cch.epoch < d.epoch ∧ wch.epoch = d.epoch) ∨ (¬ cch.epoch < d.epoch ∧ wch.epoch = cch.epoch) := hep
  have on12 := on10.trans p12
  -- told an answer
  obtain ⟨b2, hb2, e13'⟩ := at_byte (Z := Z) (x := x) hLaws hby (by omega) (i := 4) (by omega)
  have e13 := e13' ⟨h12.next, h12.next, h12.get⟩ (show Vw 19 byte_enc h12 x code from v.on on12)
  have hb2' : Int.tmod b2 8 = b2 % 8 := Int.tmod_eq_emod_of_nonneg hb2.1
  have r3 : Reply.RI h12 [.int .i64 wi, .int .i64 (cq + 1), .int .i64 (Int.tmod b2 8), .int .u64 0, .int .i64 0, .nil, .bool false, .int .u64 0, .int .i64 0] ⟨wi, cq + 1, Int.tmod b2 8, 0, ch0⟩ [] := ⟨.nil, [], rfl, rfl, SlR.nil _ _ _⟩
  have ok3 : (⟨wi, cq + 1, Int.tmod b2 8, 0, ch0⟩ : Reply).Ok := ⟨by simp only; omega, by simp only; omega, by simp only [hb2']; omega, by simp, ch0_ok⟩
  obtain ⟨bs14, hq14, f14, e14, o14, v14, _⟩ := ClientHear_c (Z := Z) (h := ⟨h12.next, h12.next, h12.get⟩) hI11 hI12 hI16 hLi (Nat.le_refl _) (Client.okI.up v12 _) (Reply.okI.up r3 _) w12.ok w12.small ok3 ch0_small
  obtain ⟨h14, m14⟩ := hold h12 hq14.next h12.floor hq14.get
  have p14 := quiet_on o14
  replace v14 := Client.okI.up v14 h12.floor
  rw [m14] at p14 v14
  have hh : clientHear ⟨wi, cq + 1, wch, true, wtr, wak⟩ ⟨wi, cq + 1, Int.tmod b2 8, 0, ch0⟩ = ((⟨wi, cq + 1, wch, true, wtr, wak⟩ : Client).stop, Int.tmod b2 8) := hear_free w12 rfl (by rw [hb2']; omega)
  rw [hh] at e14 v14
  have w14 := w12.stop
  have on14 := on12.trans p14
  -- the next call
  obtain ⟨ask2, wn⟩ := ask_free w14 rfl (show cq + 1 ≤ 1000 by omega) hop okq
  obtain ⟨bs15, h15, f15, e15, o15, v15, _⟩ := ClientAsk_c (Z := Z) hI11 hI12 hI16 hLi (on14.le f0) v14 q w14.ok w14.small okq
  rw [ask2] at e15 v15
  have on15 := on14.trans o15
  have v14' := Client.okI.on v14 o15
  have e16 := e13' ⟨h15.next, h15.next, h15.get⟩ (show Vw 19 byte_enc h15 x code from v.on on15)
  obtain ⟨hq17, e17, o17⟩ := ClientOk_c (Z := Z) (h := ⟨h15.next, h15.next, h15.get⟩) hI11 hI12 hI16 hLi (Nat.le_refl _) (Client.okI.up v14' _) w14.ok
  obtain ⟨h17, m17⟩ := hold h15 hq17.next h15.floor hq17.get
  have p17 := quiet_on o17
  rw [m17] at p17
  obtain ⟨hq18, e18, o18⟩ := ClientWhere_c (Z := Z) (h := ⟨h17.next, h17.next, h17.get⟩) hI11 hI12 hI16 hLi (Nat.le_refl _) (Client.okI.up (Client.okI.on v14' p17) _) q.id w14.ok okq.id
  obtain ⟨h18, m18⟩ := hold h17 hq18.next h17.floor hq18.get
  have hwh2 : ((⟨wi, cq + 1, wch, true, wtr, wak⟩ : Client).stop).where_ q.id = (wch.of_ q.id).group := by unfold Client.where_; rw [w14.good]; rfl
  rw [hwh2] at e18
  rw [w14.good] at e17
  obtain ⟨a1, a2, a3⟩ := Client.lenI v8
  obtain ⟨b1', b2', b3'⟩ := Client.lenI v9
  obtain ⟨qe, qo, qi, qa, qt⟩ := q
  obtain ⟨y1, _, rfl, _, _⟩ := v1
  obtain ⟨y3, _, rfl, _, _⟩ := vb
  obtain ⟨y6, _, rfl, _, _⟩ := vg
  obtain ⟨y10, _, rfl, _, _⟩ := v10
  obtain ⟨y12, _, rfl, _, _⟩ := v12
  obtain ⟨y14, _, rfl, _, _⟩ := v14
  obtain ⟨y15, _, rfl, _, _⟩ := v15
  simp only [Request.enc, ClientMsg.enc, ClientMsg.none_, Client.asks, Client.msg, Client.tried, Client.stop] at e1 e3 e4 e5 e6 e8 e9 e10 e12 e14 e15 e17 e18 key
  simp only [show ((0 + 1 : Nat) : Int) = 1 from rfl, show ((5 + 1 : Nat) : Int) = 6 from rfl] at key
  have hw1 : IntKind.i64.wrap (cq + 1) = cq + 1 := wrapI _ (by omega) (by omega)
  have hw2 : IntKind.i64.wrap (cq + 1 - 1) = cq + 1 - 1 := wrapI _ (by omega) (by omega)
  have hw3 : IntKind.i64.wrap (8 + Int.tmod b1 3) = 8 + Int.tmod b1 3 := wrapI _ (by rw [hb1']; omega) (by rw [hb1']; omega)
  have hw4 : IntKind.i64.wrap (cq + 1 + 1) = cq + 1 + 1 := wrapI _ (by omega) (by omega)
  have rm3 := fun a => b_rem .i64 a 3 (by omega)
  have rm8 := fun a => b_rem .i64 a 8 (by omega)
  simp only [run0, run1, run2, run3, run4, noSlot, ownS, ownK, memN, RO.dst, lk, drop, forget, number, Nat.reduceBEq, cut?, splice?, builds, List.length_cons, List.length_nil, List.drop_succ_cons, List.drop_zero, List.take_succ_cons, List.take_zero, List.cons_append, List.nil_append, List.append_nil, List.drop_nil, List.take_nil, Nat.reduceAdd, Nat.reduceLeDiff, Nat.zero_add, Nat.add_zero, ↓reduceIte, Bool.not_true, Bool.not_false, decide_true, decide_false, eq_self, bne_self_eq_false, List.getElem?_cons_zero, List.getElem?_cons_succ, decide_eq_true_eq, Bool.false_eq_true, Bool.true_eq_false, reduceCtorEq, Nat.le_refl, List.replicate_succ, List.replicate_zero, fills, and_self, List.set_cons_zero, List.set_cons_succ, Nat.reduceLT, Nat.zero_lt_succ, Nat.zero_lt_one, hb, e1, l1, l2, l3, e2, e3, e4, m4, e5, m5, e6, m6, hw1, bne_self_eq_false, key]
  rw [loop_run]
  conv in (codeF _ _ r174L0 _) => unfold r174L0
  have hnl : ¬ (6 : Int) < 6 := by omega
  have hA : ¬ wch.epoch < cch.epoch := by omega
  have hB : ¬ wch.epoch < d.epoch := by omega
  rcases hep with ⟨x1, x2⟩ | ⟨x1, x2⟩
  · have g1 : d.epoch > cch.epoch := x1
    have g2 : wch.epoch > cch.epoch := by omega
    simp only [run0, run1, run2, run3, run4, noSlot, ownS, ownK, memN, RO.dst, lk, drop, forget, number, Nat.reduceBEq, cut?, splice?, builds, List.length_cons, List.length_nil, List.drop_succ_cons, List.drop_zero, List.take_succ_cons, List.take_zero, List.cons_append, List.nil_append, List.append_nil, List.drop_nil, List.take_nil, Nat.reduceAdd, Nat.reduceLeDiff, Nat.zero_add, Nat.add_zero, ↓reduceIte, Bool.not_true, Bool.not_false, decide_true, decide_false, eq_self, bne_self_eq_false, List.getElem?_cons_zero, List.getElem?_cons_succ, decide_eq_true_eq, Bool.false_eq_true, Bool.true_eq_false, reduceCtorEq, Nat.le_refl, List.replicate_succ, List.replicate_zero, fills, and_self, List.set_cons_zero, List.set_cons_succ, Nat.reduceLT, Nat.zero_lt_succ, Nat.zero_lt_one, hnl, e8, a1, a2, a3, e9, b1', b2', b3', hw1, hw2, e10, e11, rm3, hw3, e12, m12, bne_self_eq_false, hA, hB, g1, g2, e13, rm8, e14, m14, e15, e16, beq_self_eq_true, e17, m17, hw4, e18, m18]
    exact ⟨_, rfl⟩
  · have g1 : ¬ d.epoch > cch.epoch := x1
    have g2 : ¬ wch.epoch > cch.epoch := by omega
    simp only [run0, run1, run2, run3, run4, noSlot, ownS, ownK, memN, RO.dst, lk, drop, forget, number, Nat.reduceBEq, cut?, splice?, builds, List.length_cons, List.length_nil, List.drop_succ_cons, List.drop_zero, List.take_succ_cons, List.take_zero, List.cons_append, List.nil_append, List.append_nil, List.drop_nil, List.take_nil, Nat.reduceAdd, Nat.reduceLeDiff, Nat.zero_add, Nat.add_zero, ↓reduceIte, Bool.not_true, Bool.not_false, decide_true, decide_false, eq_self, bne_self_eq_false, List.getElem?_cons_zero, List.getElem?_cons_succ, decide_eq_true_eq, Bool.false_eq_true, Bool.true_eq_false, reduceCtorEq, Nat.le_refl, List.replicate_succ, List.replicate_zero, fills, and_self, List.set_cons_zero, List.set_cons_succ, Nat.reduceLT, Nat.zero_lt_succ, Nat.zero_lt_one, hnl, e8, a1, a2, a3, e9, b1', b2', b3', hw1, hw2, e10, e11, rm3, hw3, e12, m12, bne_self_eq_false, hA, hB, g1, g2, e13, rm8, e14, m14, e15, e16, beq_self_eq_true, e17, m17, hw4, e18, m18]
    exact ⟨_, rfl⟩
end
end Go.Proofs.Ytlbagejkjkfkjaa.A
/- FnClient: the row's statement, from the law of the abstract run. No condition. -/
namespace Go.Proofs.Ytlbagejkjkfkjaa.A.Client
open Go Go.ChangeShapes Go.WideShapes Go.ChangeAt Go.RowKit
theorem own : ownKnob Try.prog.godebug = none := by kernel_rfl
set_option maxRecDepth 100000 in
theorem lifted (os : Os) (started : os.Started) (H : Type) (enc : TypeId × Value → H) :
    ReturnsInHanded {} Try.checked os 11 .any (Rows.fnClientSpec.pre6 enc Try.prog Try.f11 Rows.fnClientRow.domain false) (Rows.fnClientSpec.post enc Try.prog Try.f11 false true false false) := by
  refine returnsInHanded_of_change_sized (C := Try.checked) own started (by kernel_rfl) Try.func11
    (ChangeSpec.witness6 (enc := enc) (C := Try.checked) false ⟨#[], #[.slice none 0 0], []⟩ 8 (by kernel_rfl) (by kernel_rfl) (by kernel_rfl) (by kernel_rfl)) ?_
  intro W base args ds gs before hval hW _ _ _
  have hW' := hW
  obtain ⟨p, q, hA, hV, rfl, hfz, hnd⟩ := hW
  obtain ⟨rfl, rfl⟩ := trodVars_none hV
  have r0 : DataW.TrodAll enc Try.prog W 0 (fun _ => true) true [22] args.toList ds p := hA
  obtain ⟨_, _, d0, _, _, _, _, rfl, _, _, r1⟩ := trodAll_cons r0
  obtain ⟨_, rfl, _⟩ := trodAll_nil r1
  refine (law_calls (ts := [22]) (ss := [shUint8S]) prog (show (mkCfg Try.prog tab tags).G 174 = some 11 from by kernel_rfl) ⟨show shIs Try.prog (mkCfg Try.prog tab tags).ET (mkCfg Try.prog tab tags).SZ 8 22 shUint8S = true from by kernel_rfl, trivial⟩ (law_Client inI11 inI12 inI16 inLaws inLibslicesIndexFuncimplRangeimplRange inS01d inS10 inS11 inS12 inS16 inWFnClient) (fun j t v h1 => hval j t v (by rw [Try.params11]; exact (List.getElem?_toArray ..).trans h1)) hA).mono fun e W' ⟨he, bel⟩ => ?_
  subst he
  exact ⟨_, rfl, _, _, _, [], _, [], hW', trodAll_mk1 (shut_bool Try.underlying4 _), trodAll_below (by kernel_rfl) bel _ _ _ _ (by kernel_rfl) hA hA.lt, rfl, bel.frame _, fun h => by cases h⟩
theorem over : Rows.fnClientRow.holds Try.pinned (OpenSpec.ofChange Rows.fnClientSpec) :=
  OpenClaim.holds_of_wide 11 Try.f11 rfl rfl rfl rfl rfl rfl rfl ⟨rfl, rfl, rfl, rfl, rfl⟩ rfl rfl rfl rfl rfl (by kernel_rfl) Try.func11 (by kernel_rfl)
    (of_decide_eq_true (by kernel_rfl)) (by unfold Func.isWrapper; first | (rw [if_pos (by decide +kernel)]; kernel_rfl) | (rw [if_neg (by decide +kernel)]; exact ⟨rfl, rfl⟩))
    (fun os started H enc _ => lifted os started H enc)
end Go.Proofs.Ytlbagejkjkfkjaa.A.Client
namespace Go.Proofs.Ytlbagejkjkfkjaa
/-- The row. -/
theorem fnClient_holds : Rows.FnClientSaid := A.Client.over
#print axioms fnClient_holds
end Go.Proofs.Ytlbagejkjkfkjaa
