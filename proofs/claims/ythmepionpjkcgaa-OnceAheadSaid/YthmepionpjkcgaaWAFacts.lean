/- Facts of the program's types and functions. -/
import Derived.Test.YthmepionpjkcgaaProg
import Derived.Test.YthmepionpjkcgaaEngN
namespace Go.Proofs.Ythmepionpjkcgaa
open Go Go.Eng
theorem kag104 : aggOf Try.prog 104 = some none := by kernel_rfl
theorem kag105 : aggOf Try.prog 105 = some none := by kernel_rfl
theorem kag127 : aggOf Try.prog 127 = some (some 10) := by kernel_rfl
theorem kag146 : aggOf Try.prog 146 = some (some 4) := by kernel_rfl
theorem kag149 : aggOf Try.prog 149 = some (some 4) := by kernel_rfl
theorem kag166 : aggOf Try.prog 166 = some (some 10) := by kernel_rfl
theorem kag22 : aggOf Try.prog 22 = some (some 8) := by kernel_rfl
theorem kag23 : aggOf Try.prog 23 = some none := by kernel_rfl
theorem kag24 : aggOf Try.prog 24 = some (some 8) := by kernel_rfl
theorem kag3 : aggOf Try.prog 3 = some none := by kernel_rfl
theorem kag37 : aggOf Try.prog 37 = some none := by kernel_rfl
theorem kag4 : aggOf Try.prog 4 = some none := by kernel_rfl
theorem kag5 : aggOf Try.prog 5 = some none := by kernel_rfl
theorem kag66 : aggOf Try.prog 66 = some (some 18) := by kernel_rfl
theorem kar100 : arrOf Try.prog 100 = some (2, 1) := by kernel_rfl
theorem kar120 : arrOf Try.prog 120 = some (61, 1) := by kernel_rfl
theorem kar146 : arrOf Try.prog 146 = some (4, 1) := by kernel_rfl
theorem kar149 : arrOf Try.prog 149 = some (4, 1) := by kernel_rfl
theorem kar171 : arrOf Try.prog 171 = some (18, 8) := by kernel_rfl
theorem kar22 : arrOf Try.prog 22 = some (8, 1) := by kernel_rfl
theorem kar24 : arrOf Try.prog 24 = some (8, 1) := by kernel_rfl
theorem kar66 : arrOf Try.prog 66 = some (18, 1) := by kernel_rfl
theorem kar98 : arrOf Try.prog 98 = some (2, 8) := by kernel_rfl
theorem kcall100 : Callable Try.prog 100 := ⟨Try.f100, Try.func100, by kernel_rfl, rfl⟩
theorem kcall101 : Callable Try.prog 101 := ⟨Try.f101, Try.func101, by kernel_rfl, rfl⟩
theorem kcall102 : Callable Try.prog 102 := ⟨Try.f102, Try.func102, by kernel_rfl, rfl⟩
theorem kcall103 : Callable Try.prog 103 := ⟨Try.f103, Try.func103, by kernel_rfl, rfl⟩
theorem kcall104 : Callable Try.prog 104 := ⟨Try.f104, Try.func104, by kernel_rfl, rfl⟩
theorem kcall105 : Callable Try.prog 105 := ⟨Try.f105, Try.func105, by kernel_rfl, rfl⟩
theorem kcall106 : Callable Try.prog 106 := ⟨Try.f106, Try.func106, by kernel_rfl, rfl⟩
theorem kcall107 : Callable Try.prog 107 := ⟨Try.f107, Try.func107, by kernel_rfl, rfl⟩
theorem kcall108 : Callable Try.prog 108 := ⟨Try.f108, Try.func108, by kernel_rfl, rfl⟩
theorem kcall109 : Callable Try.prog 109 := ⟨Try.f109, Try.func109, by kernel_rfl, rfl⟩
theorem kcall110 : Callable Try.prog 110 := ⟨Try.f110, Try.func110, by kernel_rfl, rfl⟩
theorem kcall111 : Callable Try.prog 111 := ⟨Try.f111, Try.func111, by kernel_rfl, rfl⟩
theorem kcall112 : Callable Try.prog 112 := ⟨Try.f112, Try.func112, by kernel_rfl, rfl⟩
theorem kcall113 : Callable Try.prog 113 := ⟨Try.f113, Try.func113, by kernel_rfl, rfl⟩
theorem kcall114 : Callable Try.prog 114 := ⟨Try.f114, Try.func114, by kernel_rfl, rfl⟩
theorem kcall115 : Callable Try.prog 115 := ⟨Try.f115, Try.func115, by kernel_rfl, rfl⟩
theorem kcall116 : Callable Try.prog 116 := ⟨Try.f116, Try.func116, by kernel_rfl, rfl⟩
theorem kcall117 : Callable Try.prog 117 := ⟨Try.f117, Try.func117, by kernel_rfl, rfl⟩
theorem kcall118 : Callable Try.prog 118 := ⟨Try.f118, Try.func118, by kernel_rfl, rfl⟩
theorem kcall119 : Callable Try.prog 119 := ⟨Try.f119, Try.func119, by kernel_rfl, rfl⟩
theorem kcall120 : Callable Try.prog 120 := ⟨Try.f120, Try.func120, by kernel_rfl, rfl⟩
theorem kcall121 : Callable Try.prog 121 := ⟨Try.f121, Try.func121, by kernel_rfl, rfl⟩
theorem kcall122 : Callable Try.prog 122 := ⟨Try.f122, Try.func122, by kernel_rfl, rfl⟩
theorem kcall123 : Callable Try.prog 123 := ⟨Try.f123, Try.func123, by kernel_rfl, rfl⟩
theorem kcall124 : Callable Try.prog 124 := ⟨Try.f124, Try.func124, by kernel_rfl, rfl⟩
theorem kcall125 : Callable Try.prog 125 := ⟨Try.f125, Try.func125, by kernel_rfl, rfl⟩
theorem kcall126 : Callable Try.prog 126 := ⟨Try.f126, Try.func126, by kernel_rfl, rfl⟩
theorem kcall127 : Callable Try.prog 127 := ⟨Try.f127, Try.func127, by kernel_rfl, rfl⟩
theorem kcall128 : Callable Try.prog 128 := ⟨Try.f128, Try.func128, by kernel_rfl, rfl⟩
theorem kcall129 : Callable Try.prog 129 := ⟨Try.f129, Try.func129, by kernel_rfl, rfl⟩
theorem kcall130 : Callable Try.prog 130 := ⟨Try.f130, Try.func130, by kernel_rfl, rfl⟩
theorem kcall131 : Callable Try.prog 131 := ⟨Try.f131, Try.func131, by kernel_rfl, rfl⟩
theorem kcall132 : Callable Try.prog 132 := ⟨Try.f132, Try.func132, by kernel_rfl, rfl⟩
theorem kcall133 : Callable Try.prog 133 := ⟨Try.f133, Try.func133, by kernel_rfl, rfl⟩
theorem kcall134 : Callable Try.prog 134 := ⟨Try.f134, Try.func134, by kernel_rfl, rfl⟩
theorem kcall135 : Callable Try.prog 135 := ⟨Try.f135, Try.func135, by kernel_rfl, rfl⟩
theorem kcall136 : Callable Try.prog 136 := ⟨Try.f136, Try.func136, by kernel_rfl, rfl⟩
theorem kcall35 : Callable Try.prog 35 := ⟨Try.f35, Try.func35, by kernel_rfl, rfl⟩
theorem kcall36 : Callable Try.prog 36 := ⟨Try.f36, Try.func36, by kernel_rfl, rfl⟩
theorem kcall37 : Callable Try.prog 37 := ⟨Try.f37, Try.func37, by kernel_rfl, rfl⟩
theorem kcall38 : Callable Try.prog 38 := ⟨Try.f38, Try.func38, by kernel_rfl, rfl⟩
theorem kcall39 : Callable Try.prog 39 := ⟨Try.f39, Try.func39, by kernel_rfl, rfl⟩
theorem kcall40 : Callable Try.prog 40 := ⟨Try.f40, Try.func40, by kernel_rfl, rfl⟩
theorem kcall41 : Callable Try.prog 41 := ⟨Try.f41, Try.func41, by kernel_rfl, rfl⟩
theorem kcall42 : Callable Try.prog 42 := ⟨Try.f42, Try.func42, by kernel_rfl, rfl⟩
theorem kcall43 : Callable Try.prog 43 := ⟨Try.f43, Try.func43, by kernel_rfl, rfl⟩
theorem kcall44 : Callable Try.prog 44 := ⟨Try.f44, Try.func44, by kernel_rfl, rfl⟩
theorem kcall45 : Callable Try.prog 45 := ⟨Try.f45, Try.func45, by kernel_rfl, rfl⟩
theorem kcall46 : Callable Try.prog 46 := ⟨Try.f46, Try.func46, by kernel_rfl, rfl⟩
theorem kcall47 : Callable Try.prog 47 := ⟨Try.f47, Try.func47, by kernel_rfl, rfl⟩
theorem kcall48 : Callable Try.prog 48 := ⟨Try.f48, Try.func48, by kernel_rfl, rfl⟩
theorem kcall49 : Callable Try.prog 49 := ⟨Try.f49, Try.func49, by kernel_rfl, rfl⟩
theorem kcall50 : Callable Try.prog 50 := ⟨Try.f50, Try.func50, by kernel_rfl, rfl⟩
theorem kcall51 : Callable Try.prog 51 := ⟨Try.f51, Try.func51, by kernel_rfl, rfl⟩
theorem kcall52 : Callable Try.prog 52 := ⟨Try.f52, Try.func52, by kernel_rfl, rfl⟩
theorem kcall53 : Callable Try.prog 53 := ⟨Try.f53, Try.func53, by kernel_rfl, rfl⟩
theorem kcall54 : Callable Try.prog 54 := ⟨Try.f54, Try.func54, by kernel_rfl, rfl⟩
theorem kcall55 : Callable Try.prog 55 := ⟨Try.f55, Try.func55, by kernel_rfl, rfl⟩
theorem kcall56 : Callable Try.prog 56 := ⟨Try.f56, Try.func56, by kernel_rfl, rfl⟩
theorem kcall57 : Callable Try.prog 57 := ⟨Try.f57, Try.func57, by kernel_rfl, rfl⟩
theorem kcall58 : Callable Try.prog 58 := ⟨Try.f58, Try.func58, by kernel_rfl, rfl⟩
theorem kcall59 : Callable Try.prog 59 := ⟨Try.f59, Try.func59, by kernel_rfl, rfl⟩
theorem kcall60 : Callable Try.prog 60 := ⟨Try.f60, Try.func60, by kernel_rfl, rfl⟩
theorem kcall61 : Callable Try.prog 61 := ⟨Try.f61, Try.func61, by kernel_rfl, rfl⟩
theorem kcall62 : Callable Try.prog 62 := ⟨Try.f62, Try.func62, by kernel_rfl, rfl⟩
theorem kcall63 : Callable Try.prog 63 := ⟨Try.f63, Try.func63, by kernel_rfl, rfl⟩
theorem kcall64 : Callable Try.prog 64 := ⟨Try.f64, Try.func64, by kernel_rfl, rfl⟩
theorem kcall65 : Callable Try.prog 65 := ⟨Try.f65, Try.func65, by kernel_rfl, rfl⟩
theorem kcall66 : Callable Try.prog 66 := ⟨Try.f66, Try.func66, by kernel_rfl, rfl⟩
theorem kcall67 : Callable Try.prog 67 := ⟨Try.f67, Try.func67, by kernel_rfl, rfl⟩
theorem kcall68 : Callable Try.prog 68 := ⟨Try.f68, Try.func68, by kernel_rfl, rfl⟩
theorem kcall69 : Callable Try.prog 69 := ⟨Try.f69, Try.func69, by kernel_rfl, rfl⟩
theorem kcall70 : Callable Try.prog 70 := ⟨Try.f70, Try.func70, by kernel_rfl, rfl⟩
theorem kcall71 : Callable Try.prog 71 := ⟨Try.f71, Try.func71, by kernel_rfl, rfl⟩
theorem kcall72 : Callable Try.prog 72 := ⟨Try.f72, Try.func72, by kernel_rfl, rfl⟩
theorem kcall73 : Callable Try.prog 73 := ⟨Try.f73, Try.func73, by kernel_rfl, rfl⟩
theorem kcall74 : Callable Try.prog 74 := ⟨Try.f74, Try.func74, by kernel_rfl, rfl⟩
theorem kcall75 : Callable Try.prog 75 := ⟨Try.f75, Try.func75, by kernel_rfl, rfl⟩
theorem kcall76 : Callable Try.prog 76 := ⟨Try.f76, Try.func76, by kernel_rfl, rfl⟩
theorem kcall77 : Callable Try.prog 77 := ⟨Try.f77, Try.func77, by kernel_rfl, rfl⟩
theorem kcall78 : Callable Try.prog 78 := ⟨Try.f78, Try.func78, by kernel_rfl, rfl⟩
theorem kcall79 : Callable Try.prog 79 := ⟨Try.f79, Try.func79, by kernel_rfl, rfl⟩
theorem kcall80 : Callable Try.prog 80 := ⟨Try.f80, Try.func80, by kernel_rfl, rfl⟩
theorem kcall81 : Callable Try.prog 81 := ⟨Try.f81, Try.func81, by kernel_rfl, rfl⟩
theorem kcall82 : Callable Try.prog 82 := ⟨Try.f82, Try.func82, by kernel_rfl, rfl⟩
theorem kcall83 : Callable Try.prog 83 := ⟨Try.f83, Try.func83, by kernel_rfl, rfl⟩
theorem kcall84 : Callable Try.prog 84 := ⟨Try.f84, Try.func84, by kernel_rfl, rfl⟩
theorem kcall85 : Callable Try.prog 85 := ⟨Try.f85, Try.func85, by kernel_rfl, rfl⟩
theorem kcall86 : Callable Try.prog 86 := ⟨Try.f86, Try.func86, by kernel_rfl, rfl⟩
theorem kcall87 : Callable Try.prog 87 := ⟨Try.f87, Try.func87, by kernel_rfl, rfl⟩
theorem kcall88 : Callable Try.prog 88 := ⟨Try.f88, Try.func88, by kernel_rfl, rfl⟩
theorem kcall89 : Callable Try.prog 89 := ⟨Try.f89, Try.func89, by kernel_rfl, rfl⟩
theorem kcall90 : Callable Try.prog 90 := ⟨Try.f90, Try.func90, by kernel_rfl, rfl⟩
theorem kcall91 : Callable Try.prog 91 := ⟨Try.f91, Try.func91, by kernel_rfl, rfl⟩
theorem kcall92 : Callable Try.prog 92 := ⟨Try.f92, Try.func92, by kernel_rfl, rfl⟩
theorem kcall93 : Callable Try.prog 93 := ⟨Try.f93, Try.func93, by kernel_rfl, rfl⟩
theorem kcall94 : Callable Try.prog 94 := ⟨Try.f94, Try.func94, by kernel_rfl, rfl⟩
theorem kcall95 : Callable Try.prog 95 := ⟨Try.f95, Try.func95, by kernel_rfl, rfl⟩
theorem kcall96 : Callable Try.prog 96 := ⟨Try.f96, Try.func96, by kernel_rfl, rfl⟩
theorem kcall97 : Callable Try.prog 97 := ⟨Try.f97, Try.func97, by kernel_rfl, rfl⟩
theorem kcall98 : Callable Try.prog 98 := ⟨Try.f98, Try.func98, by kernel_rfl, rfl⟩
theorem kcall99 : Callable Try.prog 99 := ⟨Try.f99, Try.func99, by kernel_rfl, rfl⟩
theorem kch166 : ChT Try.prog 166 := ⟨by kernel_rfl, by kernel_rfl, by kernel_rfl⟩
theorem kdig22 : DigT Try.prog 22 := ⟨by kernel_rfl, by kernel_rfl⟩
theorem kdig24 : DigT Try.prog 24 := ⟨by kernel_rfl, by kernel_rfl⟩
theorem kel24 : eltOf Try.prog 24 = some (8, 5) := by kernel_rfl
theorem kel66 : eltOf Try.prog 66 = some (18, 3) := by kernel_rfl
theorem kfo127_0 : fieldOff Try.prog 127 0 = some 0 := by kernel_rfl
theorem kfo127_1 : fieldOff Try.prog 127 1 = some 8 := by kernel_rfl
theorem kfo127_2 : fieldOff Try.prog 127 2 = some 9 := by kernel_rfl
theorem kfo156_0 : fieldOff Try.prog 156 0 = some 0 := by kernel_rfl
theorem kfo166_0 : fieldOff Try.prog 166 0 = some 0 := by kernel_rfl
theorem kfo166_1 : fieldOff Try.prog 166 1 = some 8 := by kernel_rfl
theorem kfo166_2 : fieldOff Try.prog 166 2 = some 9 := by kernel_rfl
theorem kints66 : IntsT Try.prog 66 18 := ⟨by kernel_rfl, by kernel_rfl⟩
theorem kis23 : (Try.prog.underlying 23).isSome = true := by kernel_rfl
theorem kis3 : (Try.prog.underlying 3).isSome = true := by kernel_rfl
theorem kis31 : (Try.prog.underlying 31).isSome = true := by kernel_rfl
theorem kis36 : (Try.prog.underlying 36).isSome = true := by kernel_rfl
theorem kis5 : (Try.prog.underlying 5).isSome = true := by kernel_rfl
theorem kis81 : (Try.prog.underlying 81).isSome = true := by kernel_rfl
theorem kmixed : Try.prog.follows .mixedOrders = true := by kernel_rfl
theorem kpl127 : placesOf Try.prog 127 = some [(0, 8), (8, 1), (9, 1)] := by kernel_rfl
theorem kpl156 : placesOf Try.prog 156 = some [(0, 1)] := by kernel_rfl
theorem kpl166 : placesOf Try.prog 166 = some [(0, 8), (8, 1), (9, 1)] := by kernel_rfl
theorem ksl104 : sliOf Try.prog 104 = some (4, 1, 1) := by kernel_rfl
theorem ksl105 : sliOf Try.prog 105 = some (3, 1, 8) := by kernel_rfl
theorem ksl37 : sliOf Try.prog 37 = some (5, 1, 1) := by kernel_rfl
theorem ksl42 : sliOf Try.prog 42 = some (22, 8, 8) := by kernel_rfl
theorem ksl43 : sliOf Try.prog 43 = some (24, 8, 8) := by kernel_rfl
theorem ksl55 : sliOf Try.prog 55 = some (37, 1, 24) := by kernel_rfl
theorem ksz105 : (Try.prog.info? 105).map (·.size) = some 1 := by kernel_rfl
theorem ksz127 : (Try.prog.info? 127).map (·.size) = some 10 := by kernel_rfl
theorem ksz146 : (Try.prog.info? 146).map (·.size) = some 4 := by kernel_rfl
theorem ksz149 : (Try.prog.info? 149).map (·.size) = some 4 := by kernel_rfl
theorem ksz166 : (Try.prog.info? 166).map (·.size) = some 10 := by kernel_rfl
theorem ksz22 : (Try.prog.info? 22).map (·.size) = some 8 := by kernel_rfl
theorem ksz23 : (Try.prog.info? 23).map (·.size) = some 1 := by kernel_rfl
theorem ksz24 : (Try.prog.info? 24).map (·.size) = some 8 := by kernel_rfl
theorem ksz3 : (Try.prog.info? 3).map (·.size) = some 1 := by kernel_rfl
theorem ksz37 : (Try.prog.info? 37).map (·.size) = some 1 := by kernel_rfl
theorem ksz4 : (Try.prog.info? 4).map (·.size) = some 1 := by kernel_rfl
theorem ksz5 : (Try.prog.info? 5).map (·.size) = some 1 := by kernel_rfl
theorem ksz66 : (Try.prog.info? 66).map (·.size) = some 18 := by kernel_rfl
theorem kun123 : Try.prog.underlying 123 = some (.pointer 166) := by kernel_rfl
theorem kun159 : Try.prog.underlying 159 = some (.int .u64) := by kernel_rfl
theorem kun23 : Try.prog.underlying 23 = some (.int .u64) := by kernel_rfl
theorem kun3 : Try.prog.underlying 3 = some (.int .i64) := by kernel_rfl
theorem kun37 : Try.prog.underlying 37 = some (.slice 5) := by kernel_rfl
theorem kun4 : Try.prog.underlying 4 = some (.bool) := by kernel_rfl
theorem kun5 : Try.prog.underlying 5 = some (.int .u8) := by kernel_rfl
theorem kun56 : Try.prog.underlying 56 = some (.pointer 156) := by kernel_rfl
theorem kun9 : Try.prog.underlying 9 = some (.string) := by kernel_rfl
theorem kze105 : zeroOf Try.prog 105 = some (.slice none 0 0) := by kernel_rfl
theorem kze120 : zeroOf Try.prog 120 = some (.agg #[.bool false, .bool false, .bool false, .bool false, .bool false, .bool false, .bool false, .bool false, .bool false, .bool false, .bool false, .bool false, .bool false, .bool false, .bool false, .bool false, .bool false, .bool false, .bool false, .bool false, .bool false, .bool false, .bool false, .bool false, .bool false, .bool false, .bool false, .bool false, .bool false, .bool false, .bool false, .bool false, .bool false, .bool false, .bool false, .bool false, .bool false, .bool false, .bool false, .bool false, .bool false, .bool false, .bool false, .bool false, .bool false, .bool false, .bool false, .bool false, .bool false, .bool false, .bool false, .bool false, .bool false, .bool false, .bool false, .bool false, .bool false, .bool false, .bool false, .bool false, .bool false]) := by kernel_rfl
theorem kze127 : zeroOf Try.prog 127 = some (.agg #[.int .u8 0, .int .u8 0, .int .u8 0, .int .u8 0, .int .u8 0, .int .u8 0, .int .u8 0, .int .u8 0, .int .i64 0, .int .i64 0]) := by kernel_rfl
theorem kze146 : zeroOf Try.prog 146 = some (.agg #[.int .u64 0, .int .u64 0, .int .u64 0, .int .u64 0]) := by kernel_rfl
theorem kze149 : zeroOf Try.prog 149 = some (.agg #[.int .u64 0, .int .u64 0, .int .u64 0, .int .u64 0]) := by kernel_rfl
theorem kze156 : zeroOf Try.prog 156 = some (.agg #[.slice none 0 0]) := by kernel_rfl
theorem kze166 : zeroOf Try.prog 166 = some (.agg #[.int .u8 0, .int .u8 0, .int .u8 0, .int .u8 0, .int .u8 0, .int .u8 0, .int .u8 0, .int .u8 0, .int .i64 0, .int .i64 0]) := by kernel_rfl
theorem kze171 : zeroOf Try.prog 171 = some (.agg #[.int .u8 0, .int .u8 0, .int .u8 0, .int .u8 0, .int .u8 0, .int .u8 0, .int .u8 0, .int .u8 0, .int .u8 0, .int .u8 0, .int .u8 0, .int .u8 0, .int .u8 0, .int .u8 0, .int .u8 0, .int .u8 0, .int .u8 0, .int .u8 0, .int .u8 0, .int .u8 0, .int .u8 0, .int .u8 0, .int .u8 0, .int .u8 0, .int .u8 0, .int .u8 0, .int .u8 0, .int .u8 0, .int .u8 0, .int .u8 0, .int .u8 0, .int .u8 0, .int .u8 0, .int .u8 0, .int .u8 0, .int .u8 0, .int .u8 0, .int .u8 0, .int .u8 0, .int .u8 0, .int .u8 0, .int .u8 0, .int .u8 0, .int .u8 0, .int .u8 0, .int .u8 0, .int .u8 0, .int .u8 0, .int .u8 0, .int .u8 0, .int .u8 0, .int .u8 0, .int .u8 0, .int .u8 0, .int .u8 0, .int .u8 0, .int .u8 0, .int .u8 0, .int .u8 0, .int .u8 0, .int .u8 0, .int .u8 0, .int .u8 0, .int .u8 0, .int .u8 0, .int .u8 0, .int .u8 0, .int .u8 0, .int .u8 0, .int .u8 0, .int .u8 0, .int .u8 0, .int .u8 0, .int .u8 0, .int .u8 0, .int .u8 0, .int .u8 0, .int .u8 0, .int .u8 0, .int .u8 0, .int .u8 0, .int .u8 0, .int .u8 0, .int .u8 0, .int .u8 0, .int .u8 0, .int .u8 0, .int .u8 0, .int .u8 0, .int .u8 0, .int .u8 0, .int .u8 0, .int .u8 0, .int .u8 0, .int .u8 0, .int .u8 0, .int .u8 0, .int .u8 0, .int .u8 0, .int .u8 0, .int .u8 0, .int .u8 0, .int .u8 0, .int .u8 0, .int .u8 0, .int .u8 0, .int .u8 0, .int .u8 0, .int .u8 0, .int .u8 0, .int .u8 0, .int .u8 0, .int .u8 0, .int .u8 0, .int .u8 0, .int .u8 0, .int .u8 0, .int .u8 0, .int .u8 0, .int .u8 0, .int .u8 0, .int .u8 0, .int .u8 0, .int .u8 0, .int .u8 0, .int .u8 0, .int .u8 0, .int .u8 0, .int .u8 0, .int .u8 0, .int .u8 0, .int .u8 0, .int .u8 0, .int .u8 0, .int .u8 0, .int .u8 0, .int .u8 0, .int .u8 0, .int .u8 0, .int .u8 0, .int .u8 0, .int .u8 0, .int .u8 0, .int .u8 0]) := by kernel_rfl
theorem kze22 : zeroOf Try.prog 22 = some (.agg #[.int .u8 0, .int .u8 0, .int .u8 0, .int .u8 0, .int .u8 0, .int .u8 0, .int .u8 0, .int .u8 0]) := by kernel_rfl
theorem kze24 : zeroOf Try.prog 24 = some (.agg #[.int .u8 0, .int .u8 0, .int .u8 0, .int .u8 0, .int .u8 0, .int .u8 0, .int .u8 0, .int .u8 0]) := by kernel_rfl
theorem kze3 : zeroOf Try.prog 3 = some (.int .i64 0) := by kernel_rfl
theorem kze4 : zeroOf Try.prog 4 = some (.bool false) := by kernel_rfl
theorem kze5 : zeroOf Try.prog 5 = some (.int .u8 0) := by kernel_rfl
theorem kze66 : zeroOf Try.prog 66 = some (.agg #[.int .i64 0, .int .i64 0, .int .i64 0, .int .i64 0, .int .i64 0, .int .i64 0, .int .i64 0, .int .i64 0, .int .i64 0, .int .i64 0, .int .i64 0, .int .i64 0, .int .i64 0, .int .i64 0, .int .i64 0, .int .i64 0, .int .i64 0, .int .i64 0]) := by kernel_rfl
end Go.Proofs.Ythmepionpjkcgaa
