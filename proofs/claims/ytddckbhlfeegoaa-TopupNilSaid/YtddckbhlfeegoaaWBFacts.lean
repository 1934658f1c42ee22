/- Facts of the program's types and functions. -/
import Derived.Test.YtddckbhlfeegoaaProg
import Derived.Test.YtddckbhlfeegoaaEngTe
namespace Go.Proofs.Ytddckbhlfeegoaa
open Go Go.Eng
theorem kag110 : aggOf Try.prog 110 = some (some 2) := by kernel_rfl
theorem kag115 : aggOf Try.prog 115 = some (some 8) := by kernel_rfl
theorem kag133 : aggOf Try.prog 133 = some (some 3) := by kernel_rfl
theorem kag148 : aggOf Try.prog 148 = some (some 2) := by kernel_rfl
theorem kag152 : aggOf Try.prog 152 = some none := by kernel_rfl
theorem kag172 : aggOf Try.prog 172 = some none := by kernel_rfl
theorem kag173 : aggOf Try.prog 173 = some none := by kernel_rfl
theorem kag197 : aggOf Try.prog 197 = some (some 2) := by kernel_rfl
theorem kag218 : aggOf Try.prog 218 = some (some 4) := by kernel_rfl
theorem kag22 : aggOf Try.prog 22 = some none := by kernel_rfl
theorem kag222 : aggOf Try.prog 222 = some (some 4) := by kernel_rfl
theorem kag24 : aggOf Try.prog 24 = some none := by kernel_rfl
theorem kag25 : aggOf Try.prog 25 = some none := by kernel_rfl
theorem kag28 : aggOf Try.prog 28 = some none := by kernel_rfl
theorem kag3 : aggOf Try.prog 3 = some none := by kernel_rfl
theorem kag30 : aggOf Try.prog 30 = some (some 8) := by kernel_rfl
theorem kag31 : aggOf Try.prog 31 = some (some 8) := by kernel_rfl
theorem kag33 : aggOf Try.prog 33 = some (some 11) := by kernel_rfl
theorem kag35 : aggOf Try.prog 35 = some (some 15) := by kernel_rfl
theorem kag4 : aggOf Try.prog 4 = some none := by kernel_rfl
theorem kag41 : aggOf Try.prog 41 = some (some 11) := by kernel_rfl
theorem kag5 : aggOf Try.prog 5 = some none := by kernel_rfl
theorem kag50 : aggOf Try.prog 50 = some none := by kernel_rfl
theorem kag54 : aggOf Try.prog 54 = some none := by kernel_rfl
theorem kag55 : aggOf Try.prog 55 = some none := by kernel_rfl
theorem kag70 : aggOf Try.prog 70 = some (some 10) := by kernel_rfl
theorem kag85 : aggOf Try.prog 85 = some (some 10) := by kernel_rfl
theorem kag9 : aggOf Try.prog 9 = some none := by kernel_rfl
theorem kag96 : aggOf Try.prog 96 = some (some 12) := by kernel_rfl
theorem kar110 : arrOf Try.prog 110 = some (2, 1) := by kernel_rfl
theorem kar198 : arrOf Try.prog 198 = some (16, 1) := by kernel_rfl
theorem kar218 : arrOf Try.prog 218 = some (4, 1) := by kernel_rfl
theorem kar222 : arrOf Try.prog 222 = some (4, 1) := by kernel_rfl
theorem kar237 : arrOf Try.prog 237 = some (3, 1) := by kernel_rfl
theorem kar30 : arrOf Try.prog 30 = some (8, 1) := by kernel_rfl
theorem kar31 : arrOf Try.prog 31 = some (8, 1) := by kernel_rfl
theorem kcall100 : Callable Try.prog 100 := ⟨Try.f100, Try.func100, by kernel_rfl, rfl⟩
theorem kcall101 : Callable Try.prog 101 := ⟨Try.f101, Try.func101, by kernel_rfl, rfl⟩
theorem kcall102 : Callable Try.prog 102 := ⟨Try.f102, Try.func102, by kernel_rfl, rfl⟩
theorem kcall103 : Callable Try.prog 103 := ⟨Try.f103, Try.func103, by kernel_rfl, rfl⟩
theorem kcall104 : Callable Try.prog 104 := ⟨Try.f104, Try.func104, by kernel_rfl, rfl⟩
theorem kcall105 : Callable Try.prog 105 := ⟨Try.f105, Try.func105, by kernel_rfl, rfl⟩
theorem kcall109 : Callable Try.prog 109 := ⟨Try.f109, Try.func109, by kernel_rfl, rfl⟩
theorem kcall114 : Callable Try.prog 114 := ⟨Try.f114, Try.func114, by kernel_rfl, rfl⟩
theorem kcall118 : Callable Try.prog 118 := ⟨Try.f118, Try.func118, by kernel_rfl, rfl⟩
theorem kcall119 : Callable Try.prog 119 := ⟨Try.f119, Try.func119, by kernel_rfl, rfl⟩
theorem kcall120 : Callable Try.prog 120 := ⟨Try.f120, Try.func120, by kernel_rfl, rfl⟩
theorem kcall121 : Callable Try.prog 121 := ⟨Try.f121, Try.func121, by kernel_rfl, rfl⟩
theorem kcall122 : Callable Try.prog 122 := ⟨Try.f122, Try.func122, by kernel_rfl, rfl⟩
theorem kcall123 : Callable Try.prog 123 := ⟨Try.f123, Try.func123, by kernel_rfl, rfl⟩
theorem kcall124 : Callable Try.prog 124 := ⟨Try.f124, Try.func124, by kernel_rfl, rfl⟩
theorem kcall128 : Callable Try.prog 128 := ⟨Try.f128, Try.func128, by kernel_rfl, rfl⟩
theorem kcall129 : Callable Try.prog 129 := ⟨Try.f129, Try.func129, by kernel_rfl, rfl⟩
theorem kcall130 : Callable Try.prog 130 := ⟨Try.f130, Try.func130, by kernel_rfl, rfl⟩
theorem kcall131 : Callable Try.prog 131 := ⟨Try.f131, Try.func131, by kernel_rfl, rfl⟩
theorem kcall140 : Callable Try.prog 140 := ⟨Try.f140, Try.func140, by kernel_rfl, rfl⟩
theorem kcall147 : Callable Try.prog 147 := ⟨Try.f147, Try.func147, by kernel_rfl, rfl⟩
theorem kcall148 : Callable Try.prog 148 := ⟨Try.f148, Try.func148, by kernel_rfl, rfl⟩
theorem kcall149 : Callable Try.prog 149 := ⟨Try.f149, Try.func149, by kernel_rfl, rfl⟩
theorem kcall150 : Callable Try.prog 150 := ⟨Try.f150, Try.func150, by kernel_rfl, rfl⟩
theorem kcall151 : Callable Try.prog 151 := ⟨Try.f151, Try.func151, by kernel_rfl, rfl⟩
theorem kcall152 : Callable Try.prog 152 := ⟨Try.f152, Try.func152, by kernel_rfl, rfl⟩
theorem kcall154 : Callable Try.prog 154 := ⟨Try.f154, Try.func154, by kernel_rfl, rfl⟩
theorem kcall155 : Callable Try.prog 155 := ⟨Try.f155, Try.func155, by kernel_rfl, rfl⟩
theorem kcall156 : Callable Try.prog 156 := ⟨Try.f156, Try.func156, by kernel_rfl, rfl⟩
theorem kcall157 : Callable Try.prog 157 := ⟨Try.f157, Try.func157, by kernel_rfl, rfl⟩
theorem kcall159 : Callable Try.prog 159 := ⟨Try.f159, Try.func159, by kernel_rfl, rfl⟩
theorem kcall160 : Callable Try.prog 160 := ⟨Try.f160, Try.func160, by kernel_rfl, rfl⟩
theorem kcall161 : Callable Try.prog 161 := ⟨Try.f161, Try.func161, by kernel_rfl, rfl⟩
theorem kcall162 : Callable Try.prog 162 := ⟨Try.f162, Try.func162, by kernel_rfl, rfl⟩
theorem kcall163 : Callable Try.prog 163 := ⟨Try.f163, Try.func163, by kernel_rfl, rfl⟩
theorem kcall165 : Callable Try.prog 165 := ⟨Try.f165, Try.func165, by kernel_rfl, rfl⟩
theorem kcall166 : Callable Try.prog 166 := ⟨Try.f166, Try.func166, by kernel_rfl, rfl⟩
theorem kcall167 : Callable Try.prog 167 := ⟨Try.f167, Try.func167, by kernel_rfl, rfl⟩
theorem kcall168 : Callable Try.prog 168 := ⟨Try.f168, Try.func168, by kernel_rfl, rfl⟩
theorem kcall169 : Callable Try.prog 169 := ⟨Try.f169, Try.func169, by kernel_rfl, rfl⟩
theorem kcall170 : Callable Try.prog 170 := ⟨Try.f170, Try.func170, by kernel_rfl, rfl⟩
theorem kcall173 : Callable Try.prog 173 := ⟨Try.f173, Try.func173, by kernel_rfl, rfl⟩
theorem kcall174 : Callable Try.prog 174 := ⟨Try.f174, Try.func174, by kernel_rfl, rfl⟩
theorem kcall175 : Callable Try.prog 175 := ⟨Try.f175, Try.func175, by kernel_rfl, rfl⟩
theorem kcall176 : Callable Try.prog 176 := ⟨Try.f176, Try.func176, by kernel_rfl, rfl⟩
theorem kcall177 : Callable Try.prog 177 := ⟨Try.f177, Try.func177, by kernel_rfl, rfl⟩
theorem kcall178 : Callable Try.prog 178 := ⟨Try.f178, Try.func178, by kernel_rfl, rfl⟩
theorem kcall179 : Callable Try.prog 179 := ⟨Try.f179, Try.func179, by kernel_rfl, rfl⟩
theorem kcall180 : Callable Try.prog 180 := ⟨Try.f180, Try.func180, by kernel_rfl, rfl⟩
theorem kcall181 : Callable Try.prog 181 := ⟨Try.f181, Try.func181, by kernel_rfl, rfl⟩
theorem kcall182 : Callable Try.prog 182 := ⟨Try.f182, Try.func182, by kernel_rfl, rfl⟩
theorem kcall183 : Callable Try.prog 183 := ⟨Try.f183, Try.func183, by kernel_rfl, rfl⟩
theorem kcall184 : Callable Try.prog 184 := ⟨Try.f184, Try.func184, by kernel_rfl, rfl⟩
theorem kcall185 : Callable Try.prog 185 := ⟨Try.f185, Try.func185, by kernel_rfl, rfl⟩
theorem kcall186 : Callable Try.prog 186 := ⟨Try.f186, Try.func186, by kernel_rfl, rfl⟩
theorem kcall20 : Callable Try.prog 20 := ⟨Try.f20, Try.func20, by kernel_rfl, rfl⟩
theorem kcall21 : Callable Try.prog 21 := ⟨Try.f21, Try.func21, by kernel_rfl, rfl⟩
theorem kcall22 : Callable Try.prog 22 := ⟨Try.f22, Try.func22, by kernel_rfl, rfl⟩
theorem kcall23 : Callable Try.prog 23 := ⟨Try.f23, Try.func23, by kernel_rfl, rfl⟩
theorem kcall24 : Callable Try.prog 24 := ⟨Try.f24, Try.func24, by kernel_rfl, rfl⟩
theorem kcall25 : Callable Try.prog 25 := ⟨Try.f25, Try.func25, by kernel_rfl, rfl⟩
theorem kcall26 : Callable Try.prog 26 := ⟨Try.f26, Try.func26, by kernel_rfl, rfl⟩
theorem kcall27 : Callable Try.prog 27 := ⟨Try.f27, Try.func27, by kernel_rfl, rfl⟩
theorem kcall28 : Callable Try.prog 28 := ⟨Try.f28, Try.func28, by kernel_rfl, rfl⟩
theorem kcall29 : Callable Try.prog 29 := ⟨Try.f29, Try.func29, by kernel_rfl, rfl⟩
theorem kcall31 : Callable Try.prog 31 := ⟨Try.f31, Try.func31, by kernel_rfl, rfl⟩
theorem kcall32 : Callable Try.prog 32 := ⟨Try.f32, Try.func32, by kernel_rfl, rfl⟩
theorem kcall33 : Callable Try.prog 33 := ⟨Try.f33, Try.func33, by kernel_rfl, rfl⟩
theorem kcall34 : Callable Try.prog 34 := ⟨Try.f34, Try.func34, by kernel_rfl, rfl⟩
theorem kcall35 : Callable Try.prog 35 := ⟨Try.f35, Try.func35, by kernel_rfl, rfl⟩
theorem kcall38 : Callable Try.prog 38 := ⟨Try.f38, Try.func38, by kernel_rfl, rfl⟩
theorem kcall39 : Callable Try.prog 39 := ⟨Try.f39, Try.func39, by kernel_rfl, rfl⟩
theorem kcall40 : Callable Try.prog 40 := ⟨Try.f40, Try.func40, by kernel_rfl, rfl⟩
theorem kcall41 : Callable Try.prog 41 := ⟨Try.f41, Try.func41, by kernel_rfl, rfl⟩
theorem kcall42 : Callable Try.prog 42 := ⟨Try.f42, Try.func42, by kernel_rfl, rfl⟩
theorem kcall43 : Callable Try.prog 43 := ⟨Try.f43, Try.func43, by kernel_rfl, rfl⟩
theorem kcall44 : Callable Try.prog 44 := ⟨Try.f44, Try.func44, by kernel_rfl, rfl⟩
theorem kcall45 : Callable Try.prog 45 := ⟨Try.f45, Try.func45, by kernel_rfl, rfl⟩
theorem kcall46 : Callable Try.prog 46 := ⟨Try.f46, Try.func46, by kernel_rfl, rfl⟩
theorem kcall47 : Callable Try.prog 47 := ⟨Try.f47, Try.func47, by kernel_rfl, rfl⟩
theorem kcall48 : Callable Try.prog 48 := ⟨Try.f48, Try.func48, by kernel_rfl, rfl⟩
theorem kcall49 : Callable Try.prog 49 := ⟨Try.f49, Try.func49, by kernel_rfl, rfl⟩
theorem kcall50 : Callable Try.prog 50 := ⟨Try.f50, Try.func50, by kernel_rfl, rfl⟩
theorem kcall51 : Callable Try.prog 51 := ⟨Try.f51, Try.func51, by kernel_rfl, rfl⟩
theorem kcall52 : Callable Try.prog 52 := ⟨Try.f52, Try.func52, by kernel_rfl, rfl⟩
theorem kcall53 : Callable Try.prog 53 := ⟨Try.f53, Try.func53, by kernel_rfl, rfl⟩
theorem kcall57 : Callable Try.prog 57 := ⟨Try.f57, Try.func57, by kernel_rfl, rfl⟩
theorem kcall58 : Callable Try.prog 58 := ⟨Try.f58, Try.func58, by kernel_rfl, rfl⟩
theorem kcall60 : Callable Try.prog 60 := ⟨Try.f60, Try.func60, by kernel_rfl, rfl⟩
theorem kcall61 : Callable Try.prog 61 := ⟨Try.f61, Try.func61, by kernel_rfl, rfl⟩
theorem kcall62 : Callable Try.prog 62 := ⟨Try.f62, Try.func62, by kernel_rfl, rfl⟩
theorem kcall63 : Callable Try.prog 63 := ⟨Try.f63, Try.func63, by kernel_rfl, rfl⟩
theorem kcall64 : Callable Try.prog 64 := ⟨Try.f64, Try.func64, by kernel_rfl, rfl⟩
theorem kcall65 : Callable Try.prog 65 := ⟨Try.f65, Try.func65, by kernel_rfl, rfl⟩
theorem kcall67 : Callable Try.prog 67 := ⟨Try.f67, Try.func67, by kernel_rfl, rfl⟩
theorem kcall68 : Callable Try.prog 68 := ⟨Try.f68, Try.func68, by kernel_rfl, rfl⟩
theorem kcall69 : Callable Try.prog 69 := ⟨Try.f69, Try.func69, by kernel_rfl, rfl⟩
theorem kcall70 : Callable Try.prog 70 := ⟨Try.f70, Try.func70, by kernel_rfl, rfl⟩
theorem kcall71 : Callable Try.prog 71 := ⟨Try.f71, Try.func71, by kernel_rfl, rfl⟩
theorem kcall72 : Callable Try.prog 72 := ⟨Try.f72, Try.func72, by kernel_rfl, rfl⟩
theorem kcall73 : Callable Try.prog 73 := ⟨Try.f73, Try.func73, by kernel_rfl, rfl⟩
theorem kcall74 : Callable Try.prog 74 := ⟨Try.f74, Try.func74, by kernel_rfl, rfl⟩
theorem kcall75 : Callable Try.prog 75 := ⟨Try.f75, Try.func75, by kernel_rfl, rfl⟩
theorem kcall79 : Callable Try.prog 79 := ⟨Try.f79, Try.func79, by kernel_rfl, rfl⟩
theorem kcall80 : Callable Try.prog 80 := ⟨Try.f80, Try.func80, by kernel_rfl, rfl⟩
theorem kcall81 : Callable Try.prog 81 := ⟨Try.f81, Try.func81, by kernel_rfl, rfl⟩
theorem kcall82 : Callable Try.prog 82 := ⟨Try.f82, Try.func82, by kernel_rfl, rfl⟩
theorem kcall83 : Callable Try.prog 83 := ⟨Try.f83, Try.func83, by kernel_rfl, rfl⟩
theorem kcall84 : Callable Try.prog 84 := ⟨Try.f84, Try.func84, by kernel_rfl, rfl⟩
theorem kcall85 : Callable Try.prog 85 := ⟨Try.f85, Try.func85, by kernel_rfl, rfl⟩
theorem kcall86 : Callable Try.prog 86 := ⟨Try.f86, Try.func86, by kernel_rfl, rfl⟩
theorem kcall87 : Callable Try.prog 87 := ⟨Try.f87, Try.func87, by kernel_rfl, rfl⟩
theorem kcall88 : Callable Try.prog 88 := ⟨Try.f88, Try.func88, by kernel_rfl, rfl⟩
theorem kcall89 : Callable Try.prog 89 := ⟨Try.f89, Try.func89, by kernel_rfl, rfl⟩
theorem kcall90 : Callable Try.prog 90 := ⟨Try.f90, Try.func90, by kernel_rfl, rfl⟩
theorem kcall91 : Callable Try.prog 91 := ⟨Try.f91, Try.func91, by kernel_rfl, rfl⟩
theorem kcall92 : Callable Try.prog 92 := ⟨Try.f92, Try.func92, by kernel_rfl, rfl⟩
theorem kcall93 : Callable Try.prog 93 := ⟨Try.f93, Try.func93, by kernel_rfl, rfl⟩
theorem kcall94 : Callable Try.prog 94 := ⟨Try.f94, Try.func94, by kernel_rfl, rfl⟩
theorem kcall95 : Callable Try.prog 95 := ⟨Try.f95, Try.func95, by kernel_rfl, rfl⟩
theorem kcall96 : Callable Try.prog 96 := ⟨Try.f96, Try.func96, by kernel_rfl, rfl⟩
theorem kcall97 : Callable Try.prog 97 := ⟨Try.f97, Try.func97, by kernel_rfl, rfl⟩
theorem kcall98 : Callable Try.prog 98 := ⟨Try.f98, Try.func98, by kernel_rfl, rfl⟩
theorem kcall99 : Callable Try.prog 99 := ⟨Try.f99, Try.func99, by kernel_rfl, rfl⟩
theorem kdig30 : DigT Try.prog 30 := ⟨by kernel_rfl, by kernel_rfl⟩
theorem kdig31 : DigT Try.prog 31 := ⟨by kernel_rfl, by kernel_rfl⟩
theorem kel237 : eltOf Try.prog 237 = some (3, 3) := by kernel_rfl
theorem kfo115_0 : fieldOff Try.prog 115 0 = some 0 := by kernel_rfl
theorem kfo115_1 : fieldOff Try.prog 115 1 = some 1 := by kernel_rfl
theorem kfo115_4 : fieldOff Try.prog 115 4 = some 4 := by kernel_rfl
theorem kfo133_0 : fieldOff Try.prog 133 0 = some 0 := by kernel_rfl
theorem kfo133_1 : fieldOff Try.prog 133 1 = some 1 := by kernel_rfl
theorem kfo133_2 : fieldOff Try.prog 133 2 = some 2 := by kernel_rfl
theorem kfo148_0 : fieldOff Try.prog 148 0 = some 0 := by kernel_rfl
theorem kfo148_1 : fieldOff Try.prog 148 1 = some 1 := by kernel_rfl
theorem kfo154_0 : fieldOff Try.prog 154 0 = some 0 := by kernel_rfl
theorem kfo154_1 : fieldOff Try.prog 154 1 = some 1 := by kernel_rfl
theorem kfo154_2 : fieldOff Try.prog 154 2 = some 2 := by kernel_rfl
theorem kfo157_0 : fieldOff Try.prog 157 0 = some 0 := by kernel_rfl
theorem kfo157_1 : fieldOff Try.prog 157 1 = some 11 := by kernel_rfl
theorem kfo175_0 : fieldOff Try.prog 175 0 = some 0 := by kernel_rfl
theorem kfo175_1 : fieldOff Try.prog 175 1 = some 1 := by kernel_rfl
theorem kfo175_2 : fieldOff Try.prog 175 2 = some 2 := by kernel_rfl
theorem kfo195_0 : fieldOff Try.prog 195 0 = some 0 := by kernel_rfl
theorem kfo195_1 : fieldOff Try.prog 195 1 = some 8 := by kernel_rfl
theorem kfo195_2 : fieldOff Try.prog 195 2 = some 9 := by kernel_rfl
theorem kfo197_0 : fieldOff Try.prog 197 0 = some 0 := by kernel_rfl
theorem kfo197_1 : fieldOff Try.prog 197 1 = some 1 := by kernel_rfl
theorem kfo200_0 : fieldOff Try.prog 200 0 = some 0 := by kernel_rfl
theorem kfo200_1 : fieldOff Try.prog 200 1 = some 10 := by kernel_rfl
theorem kfo200_2 : fieldOff Try.prog 200 2 = some 12 := by kernel_rfl
theorem kfo200_3 : fieldOff Try.prog 200 3 = some 13 := by kernel_rfl
theorem kfo200_4 : fieldOff Try.prog 200 4 = some 23 := by kernel_rfl
theorem kfo33_0 : fieldOff Try.prog 33 0 = some 0 := by kernel_rfl
theorem kfo33_1 : fieldOff Try.prog 33 1 = some 8 := by kernel_rfl
theorem kfo33_2 : fieldOff Try.prog 33 2 = some 9 := by kernel_rfl
theorem kfo33_3 : fieldOff Try.prog 33 3 = some 10 := by kernel_rfl
theorem kfo35_0 : fieldOff Try.prog 35 0 = some 0 := by kernel_rfl
theorem kfo35_1 : fieldOff Try.prog 35 1 = some 1 := by kernel_rfl
theorem kfo35_2 : fieldOff Try.prog 35 2 = some 2 := by kernel_rfl
theorem kfo35_3 : fieldOff Try.prog 35 3 = some 3 := by kernel_rfl
theorem kfo35_4 : fieldOff Try.prog 35 4 = some 4 := by kernel_rfl
theorem kfo41_0 : fieldOff Try.prog 41 0 = some 0 := by kernel_rfl
theorem kfo41_1 : fieldOff Try.prog 41 1 = some 8 := by kernel_rfl
theorem kfo41_2 : fieldOff Try.prog 41 2 = some 9 := by kernel_rfl
theorem kfo41_3 : fieldOff Try.prog 41 3 = some 10 := by kernel_rfl
theorem kfo70_0 : fieldOff Try.prog 70 0 = some 0 := by kernel_rfl
theorem kfo70_1 : fieldOff Try.prog 70 1 = some 8 := by kernel_rfl
theorem kfo70_2 : fieldOff Try.prog 70 2 = some 9 := by kernel_rfl
theorem kfo83_0 : fieldOff Try.prog 83 0 = some 0 := by kernel_rfl
theorem kfo83_1 : fieldOff Try.prog 83 1 = some 1 := by kernel_rfl
theorem kfo83_2 : fieldOff Try.prog 83 2 = some 2 := by kernel_rfl
theorem kfo83_3 : fieldOff Try.prog 83 3 = some 3 := by kernel_rfl
theorem kfo85_0 : fieldOff Try.prog 85 0 = some 0 := by kernel_rfl
theorem kfo85_1 : fieldOff Try.prog 85 1 = some 8 := by kernel_rfl
theorem kfo85_2 : fieldOff Try.prog 85 2 = some 9 := by kernel_rfl
theorem kfo96_0 : fieldOff Try.prog 96 0 = some 0 := by kernel_rfl
theorem kfo96_1 : fieldOff Try.prog 96 1 = some 1 := by kernel_rfl
theorem kfo96_2 : fieldOff Try.prog 96 2 = some 2 := by kernel_rfl
theorem kfo96_3 : fieldOff Try.prog 96 3 = some 10 := by kernel_rfl
theorem kfo96_4 : fieldOff Try.prog 96 4 = some 11 := by kernel_rfl
theorem ki2_197 : I2T Try.prog 197 := ⟨by kernel_rfl, by kernel_rfl, by kernel_rfl⟩
theorem kis3 : (Try.prog.underlying 3).isSome = true := by kernel_rfl
theorem kis5 : (Try.prog.underlying 5).isSome = true := by kernel_rfl
theorem kis50 : (Try.prog.underlying 50).isSome = true := by kernel_rfl
theorem kmixed : Try.prog.follows .mixedOrders = true := by kernel_rfl
theorem kpl115 : placesOf Try.prog 115 = some [(0, 1), (1, 1), (2, 1), (3, 1), (4, 1), (5, 1), (6, 1), (7, 1)] := by kernel_rfl
theorem kpl133 : placesOf Try.prog 133 = some [(0, 1), (1, 1), (2, 1)] := by kernel_rfl
theorem kpl148 : placesOf Try.prog 148 = some [(0, 1), (1, 1)] := by kernel_rfl
theorem kpl154 : placesOf Try.prog 154 = some [(0, 1), (1, 1), (2, 1)] := by kernel_rfl
theorem kpl157 : placesOf Try.prog 157 = some [(0, 11), (11, 1)] := by kernel_rfl
theorem kpl175 : placesOf Try.prog 175 = some [(0, 1), (1, 1), (2, 1)] := by kernel_rfl
theorem kpl195 : placesOf Try.prog 195 = some [(0, 8), (8, 1), (9, 1)] := by kernel_rfl
theorem kpl197 : placesOf Try.prog 197 = some [(0, 1), (1, 1)] := by kernel_rfl
theorem kpl200 : placesOf Try.prog 200 = some [(0, 10), (10, 2), (12, 1), (13, 10), (23, 16)] := by kernel_rfl
theorem kpl33 : placesOf Try.prog 33 = some [(0, 8), (8, 1), (9, 1), (10, 1)] := by kernel_rfl
theorem kpl41 : placesOf Try.prog 41 = some [(0, 8), (8, 1), (9, 1), (10, 1)] := by kernel_rfl
theorem kpl70 : placesOf Try.prog 70 = some [(0, 8), (8, 1), (9, 1)] := by kernel_rfl
theorem kpl85 : placesOf Try.prog 85 = some [(0, 8), (8, 1), (9, 1)] := by kernel_rfl
theorem ksl158 : sliOf Try.prog 158 = some (148, 2, 16) := by kernel_rfl
theorem ksl173 : sliOf Try.prog 173 = some (70, 10, 40) := by kernel_rfl
theorem ksl22 : sliOf Try.prog 22 = some (3, 1, 8) := by kernel_rfl
theorem ksl23 : sliOf Try.prog 23 = some (35, 15, 80) := by kernel_rfl
theorem ksl54 : sliOf Try.prog 54 = some (5, 1, 1) := by kernel_rfl
theorem ksl55 : sliOf Try.prog 55 = some (4, 1, 1) := by kernel_rfl
theorem ksl77 : sliOf Try.prog 77 = some (31, 8, 8) := by kernel_rfl
theorem ksl93 : sliOf Try.prog 93 = some (96, 12, 40) := by kernel_rfl
theorem ksz115 : (Try.prog.info? 115).map (·.size) = some 8 := by kernel_rfl
theorem ksz133 : (Try.prog.info? 133).map (·.size) = some 3 := by kernel_rfl
theorem ksz148 : (Try.prog.info? 148).map (·.size) = some 2 := by kernel_rfl
theorem ksz152 : (Try.prog.info? 152).map (·.size) = some 1 := by kernel_rfl
theorem ksz173 : (Try.prog.info? 173).map (·.size) = some 1 := by kernel_rfl
theorem ksz197 : (Try.prog.info? 197).map (·.size) = some 2 := by kernel_rfl
theorem ksz218 : (Try.prog.info? 218).map (·.size) = some 4 := by kernel_rfl
theorem ksz22 : (Try.prog.info? 22).map (·.size) = some 1 := by kernel_rfl
theorem ksz222 : (Try.prog.info? 222).map (·.size) = some 4 := by kernel_rfl
theorem ksz3 : (Try.prog.info? 3).map (·.size) = some 1 := by kernel_rfl
theorem ksz30 : (Try.prog.info? 30).map (·.size) = some 8 := by kernel_rfl
theorem ksz31 : (Try.prog.info? 31).map (·.size) = some 8 := by kernel_rfl
theorem ksz33 : (Try.prog.info? 33).map (·.size) = some 11 := by kernel_rfl
theorem ksz35 : (Try.prog.info? 35).map (·.size) = some 15 := by kernel_rfl
theorem ksz4 : (Try.prog.info? 4).map (·.size) = some 1 := by kernel_rfl
theorem ksz41 : (Try.prog.info? 41).map (·.size) = some 11 := by kernel_rfl
theorem ksz5 : (Try.prog.info? 5).map (·.size) = some 1 := by kernel_rfl
theorem ksz50 : (Try.prog.info? 50).map (·.size) = some 1 := by kernel_rfl
theorem ksz54 : (Try.prog.info? 54).map (·.size) = some 1 := by kernel_rfl
theorem ksz70 : (Try.prog.info? 70).map (·.size) = some 10 := by kernel_rfl
theorem ksz85 : (Try.prog.info? 85).map (·.size) = some 10 := by kernel_rfl
theorem ksz9 : (Try.prog.info? 9).map (·.size) = some 1 := by kernel_rfl
theorem ksz96 : (Try.prog.info? 96).map (·.size) = some 12 := by kernel_rfl
theorem kun113 : Try.prog.underlying 113 = some (.pointer 200) := by kernel_rfl
theorem kun152 : Try.prog.underlying 152 = some (.pointer 157) := by kernel_rfl
theorem kun216 : Try.prog.underlying 216 = some (.int .u64) := by kernel_rfl
theorem kun22 : Try.prog.underlying 22 = some (.slice 3) := by kernel_rfl
theorem kun24 : Try.prog.underlying 24 = some (.pointer 154) := by kernel_rfl
theorem kun3 : Try.prog.underlying 3 = some (.int .i64) := by kernel_rfl
theorem kun4 : Try.prog.underlying 4 = some (.bool) := by kernel_rfl
theorem kun5 : Try.prog.underlying 5 = some (.int .u8) := by kernel_rfl
theorem kun50 : Try.prog.underlying 50 = some (.int .u64) := by kernel_rfl
theorem kun54 : Try.prog.underlying 54 = some (.slice 5) := by kernel_rfl
theorem kun55 : Try.prog.underlying 55 = some (.slice 4) := by kernel_rfl
theorem kun66 : Try.prog.underlying 66 = some (.pointer 175) := by kernel_rfl
theorem kun9 : Try.prog.underlying 9 = some (.string) := by kernel_rfl
theorem kze115 : zeroOf Try.prog 115 = some (.agg #[.int .i64 0, .int .i64 0, .int .i64 0, .string ⟨#[]⟩, .slice none 0 0, .bool false, .int .i64 0, .int .i64 0]) := by kernel_rfl
theorem kze133 : zeroOf Try.prog 133 = some (.agg #[.int .i64 0, .int .i64 0, .int .i64 0]) := by kernel_rfl
theorem kze148 : zeroOf Try.prog 148 = some (.agg #[.nilFunc, .int .i64 0]) := by kernel_rfl
theorem kze154 : zeroOf Try.prog 154 = some (.agg #[.slice none 0 0, .int .i64 0, .pointer none]) := by kernel_rfl
theorem kze157 : zeroOf Try.prog 157 = some (.agg #[.int .u8 0, .int .u8 0, .int .u8 0, .int .u8 0, .int .u8 0, .int .u8 0, .int .u8 0, .int .u8 0, .int .i64 0, .slice none 0 0, .int .i64 0, .slice none 0 0]) := by kernel_rfl
theorem kze175 : zeroOf Try.prog 175 = some (.agg #[.int .i64 0, .slice none 0 0, .map none]) := by kernel_rfl
theorem kze195 : zeroOf Try.prog 195 = some (.agg #[.int .u8 0, .int .u8 0, .int .u8 0, .int .u8 0, .int .u8 0, .int .u8 0, .int .u8 0, .int .u8 0, .int .i64 0, .int .i64 0]) := by kernel_rfl
theorem kze197 : zeroOf Try.prog 197 = some (.agg #[.int .i64 0, .int .i64 0]) := by kernel_rfl
theorem kze200 : zeroOf Try.prog 200 = some (.agg #[.int .u8 0, .int .u8 0, .int .u8 0, .int .u8 0, .int .u8 0, .int .u8 0, .int .u8 0, .int .u8 0, .int .i64 0, .int .i64 0, .int .i64 0, .int .i64 0, .bool false, .int .u8 0, .int .u8 0, .int .u8 0, .int .u8 0, .int .u8 0, .int .u8 0, .int .u8 0, .int .u8 0, .int .i64 0, .slice none 0 0, .int .i64 0, .int .i64 0, .int .i64 0, .int .i64 0, .int .i64 0, .int .i64 0, .int .i64 0, .int .i64 0, .int .i64 0, .int .i64 0, .int .i64 0, .int .i64 0, .int .i64 0, .int .i64 0, .int .i64 0, .int .i64 0]) := by kernel_rfl
theorem kze218 : zeroOf Try.prog 218 = some (.agg #[.int .u64 0, .int .u64 0, .int .u64 0, .int .u64 0]) := by kernel_rfl
theorem kze222 : zeroOf Try.prog 222 = some (.agg #[.int .u64 0, .int .u64 0, .int .u64 0, .int .u64 0]) := by kernel_rfl
theorem kze237 : zeroOf Try.prog 237 = some (.agg #[.int .i64 0, .int .i64 0, .int .i64 0]) := by kernel_rfl
theorem kze3 : zeroOf Try.prog 3 = some (.int .i64 0) := by kernel_rfl
theorem kze30 : zeroOf Try.prog 30 = some (.agg #[.int .u8 0, .int .u8 0, .int .u8 0, .int .u8 0, .int .u8 0, .int .u8 0, .int .u8 0, .int .u8 0]) := by kernel_rfl
theorem kze31 : zeroOf Try.prog 31 = some (.agg #[.int .u8 0, .int .u8 0, .int .u8 0, .int .u8 0, .int .u8 0, .int .u8 0, .int .u8 0, .int .u8 0]) := by kernel_rfl
theorem kze33 : zeroOf Try.prog 33 = some (.agg #[.int .u8 0, .int .u8 0, .int .u8 0, .int .u8 0, .int .u8 0, .int .u8 0, .int .u8 0, .int .u8 0, .int .i64 0, .slice none 0 0, .int .i64 0]) := by kernel_rfl
theorem kze35 : zeroOf Try.prog 35 = some (.agg #[.int .i64 0, .int .i64 0, .int .i64 0, .int .i64 0, .int .u8 0, .int .u8 0, .int .u8 0, .int .u8 0, .int .u8 0, .int .u8 0, .int .u8 0, .int .u8 0, .int .i64 0, .slice none 0 0, .int .i64 0]) := by kernel_rfl
theorem kze4 : zeroOf Try.prog 4 = some (.bool false) := by kernel_rfl
theorem kze41 : zeroOf Try.prog 41 = some (.agg #[.int .u8 0, .int .u8 0, .int .u8 0, .int .u8 0, .int .u8 0, .int .u8 0, .int .u8 0, .int .u8 0, .int .i64 0, .slice none 0 0, .int .i64 0]) := by kernel_rfl
theorem kze5 : zeroOf Try.prog 5 = some (.int .u8 0) := by kernel_rfl
theorem kze70 : zeroOf Try.prog 70 = some (.agg #[.int .u8 0, .int .u8 0, .int .u8 0, .int .u8 0, .int .u8 0, .int .u8 0, .int .u8 0, .int .u8 0, .int .i64 0, .slice none 0 0]) := by kernel_rfl
theorem kze85 : zeroOf Try.prog 85 = some (.agg #[.int .u8 0, .int .u8 0, .int .u8 0, .int .u8 0, .int .u8 0, .int .u8 0, .int .u8 0, .int .u8 0, .int .i64 0, .string ⟨#[]⟩]) := by kernel_rfl
theorem kze96 : zeroOf Try.prog 96 = some (.agg #[.bool false, .bool false, .int .u8 0, .int .u8 0, .int .u8 0, .int .u8 0, .int .u8 0, .int .u8 0, .int .u8 0, .int .u8 0, .int .i64 0, .string ⟨#[]⟩]) := by kernel_rfl
end Go.Proofs.Ytddckbhlfeegoaa
