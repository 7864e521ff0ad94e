/- Functions of the program as plain Lean functions, each with the proof that the call comes to it; written by wip/eng.py. -/
import Derived.Test.YtbcepghanbkncaaGreatDoorEngShort
import Derived.Test.YtbcepghanbkncaaGreatDoorProg
import Derived.Test.YtbcepghanbkncaaGreatDoorEngLib
import Derived.Test.YtbcepghanbkncaaGreatDoorEngLast
import Derived.Test.YtbcepghanbkncaaGreatDoorEngBld
import Derived.Test.YtbcepghanbkncaaGreatDoorEngMid
import Derived.Test.YtbcepghanbkncaaGreatDoorEngSort
import Derived.Test.YtbcepghanbkncaaGreatDoorShelf
set_option linter.unusedVariables false
set_option linter.unusedSimpArgs false
set_option maxHeartbeats 4000000
namespace Go.Proofs.YtbcepghanbkncaaGreatDoor.LiP
open Go.RowKit Go.Eng
set_option maxRecDepth 100000
noncomputable def B7 : Code := (Tryz.f7.body).getD .skip
noncomputable def F7 : Fun Tryz.prog := ⟨7, Tryz.f7, B7, 64, Tryz.func7, by kernel_rfl, by kernel_rfl, [], none⟩
noncomputable def B8 : Code := (Tryz.f8.body).getD .skip
noncomputable def F8 : Fun Tryz.prog := ⟨8, Tryz.f8, B8, 87, Tryz.func8, by kernel_rfl, by kernel_rfl, [], none⟩
noncomputable def B10 : Code := (Tryz.f10.body).getD .skip
noncomputable def F10 : Fun Tryz.prog := ⟨10, Tryz.f10, B10, 35, Tryz.func10, by kernel_rfl, by kernel_rfl, [], none⟩
noncomputable def B11 : Code := (Tryz.f11.body).getD .skip
noncomputable def F11 : Fun Tryz.prog := ⟨11, Tryz.f11, B11, 26, Tryz.func11, by kernel_rfl, by kernel_rfl, [], none⟩
noncomputable def B13 : Code := (Tryz.f13.body).getD .skip
noncomputable def F13 : Fun Tryz.prog := ⟨13, Tryz.f13, B13, 16, Tryz.func13, by kernel_rfl, by kernel_rfl, [], none⟩
noncomputable def B14 : Code := (Tryz.f14.body).getD .skip
noncomputable def F14 : Fun Tryz.prog := ⟨14, Tryz.f14, B14, 40, Tryz.func14, by kernel_rfl, by kernel_rfl, [], none⟩
noncomputable def B15 : Code := (Tryz.f15.body).getD .skip
noncomputable def F15 : Fun Tryz.prog := ⟨15, Tryz.f15, B15, 48, Tryz.func15, by kernel_rfl, by kernel_rfl, [], none⟩
noncomputable def B16 : Code := (Tryz.f16.body).getD .skip
noncomputable def F16 : Fun Tryz.prog := ⟨16, Tryz.f16, B16, 26, Tryz.func16, by kernel_rfl, by kernel_rfl, [], none⟩
noncomputable def B20 : Code := (Tryz.f20.body).getD .skip
noncomputable def F20 : Fun Tryz.prog := ⟨20, Tryz.f20, B20, 55, Tryz.func20, by kernel_rfl, by kernel_rfl, [], none⟩
noncomputable def B23 : Code := (Tryz.f23.body).getD .skip
noncomputable def F23 : Fun Tryz.prog := ⟨23, Tryz.f23, B23, 33, Tryz.func23, by kernel_rfl, by kernel_rfl, [], none⟩
noncomputable def B24 : Code := (Tryz.f24.body).getD .skip
noncomputable def F24 : Fun Tryz.prog := ⟨24, Tryz.f24, B24, 24, Tryz.func24, by kernel_rfl, by kernel_rfl, [], none⟩
noncomputable def B25 : Code := (Tryz.f25.body).getD .skip
noncomputable def F25 : Fun Tryz.prog := ⟨25, Tryz.f25, B25, 6, Tryz.func25, by kernel_rfl, by kernel_rfl, [], none⟩
noncomputable def B26 : Code := (Tryz.f26.body).getD .skip
noncomputable def F26 : Fun Tryz.prog := ⟨26, Tryz.f26, B26, 5, Tryz.func26, by kernel_rfl, by kernel_rfl, [], none⟩
noncomputable def B29 : Code := (Tryz.f29.body).getD .skip
noncomputable def F29 : Fun Tryz.prog := ⟨29, Tryz.f29, B29, 8, Tryz.func29, by kernel_rfl, by kernel_rfl, [], none⟩
noncomputable def B30 : Code := (Tryz.f30.body).getD .skip
noncomputable def F30 : Fun Tryz.prog := ⟨30, Tryz.f30, B30, 9, Tryz.func30, by kernel_rfl, by kernel_rfl, [], none⟩
noncomputable def B31 : Code := (Tryz.f31.body).getD .skip
noncomputable def F31 : Fun Tryz.prog := ⟨31, Tryz.f31, B31, 4, Tryz.func31, by kernel_rfl, by kernel_rfl, [], none⟩
noncomputable def B34 : Code := (Tryz.f34.body).getD .skip
noncomputable def F34 : Fun Tryz.prog := ⟨34, Tryz.f34, B34, 10, Tryz.func34, by kernel_rfl, by kernel_rfl, [], none⟩
noncomputable def B35 : Code := (Tryz.f35.body).getD .skip
noncomputable def F35 : Fun Tryz.prog := ⟨35, Tryz.f35, B35, 19, Tryz.func35, by kernel_rfl, by kernel_rfl, [], none⟩
noncomputable def B37 : Code := (Tryz.f37.body).getD .skip
noncomputable def F37 : Fun Tryz.prog := ⟨37, Tryz.f37, B37, 31, Tryz.func37, by kernel_rfl, by kernel_rfl, [], none⟩
noncomputable def B38 : Code := (Tryz.f38.body).getD .skip
noncomputable def F38 : Fun Tryz.prog := ⟨38, Tryz.f38, B38, 9, Tryz.func38, by kernel_rfl, by kernel_rfl, [], none⟩
noncomputable def B39 : Code := (Tryz.f39.body).getD .skip
noncomputable def F39 : Fun Tryz.prog := ⟨39, Tryz.f39, B39, 25, Tryz.func39, by kernel_rfl, by kernel_rfl, [], none⟩
noncomputable def B40 : Code := (Tryz.f40.body).getD .skip
noncomputable def F40 : Fun Tryz.prog := ⟨40, Tryz.f40, B40, 6, Tryz.func40, by kernel_rfl, by kernel_rfl, [], none⟩
noncomputable def B44 : Code := (Tryz.f44.body).getD .skip
noncomputable def F44 : Fun Tryz.prog := ⟨44, Tryz.f44, B44, 36, Tryz.func44, by kernel_rfl, by kernel_rfl, [], none⟩
noncomputable def B46 : Code := (Tryz.f46.body).getD .skip
noncomputable def F46 : Fun Tryz.prog := ⟨46, Tryz.f46, B46, 53, Tryz.func46, by kernel_rfl, by kernel_rfl, [], none⟩
noncomputable def B47 : Code := (Tryz.f47.body).getD .skip
noncomputable def F47 : Fun Tryz.prog := ⟨47, Tryz.f47, B47, 26, Tryz.func47, by kernel_rfl, by kernel_rfl, [], none⟩
noncomputable def B48 : Code := (Tryz.f48.body).getD .skip
noncomputable def F48 : Fun Tryz.prog := ⟨48, Tryz.f48, B48, 20, Tryz.func48, by kernel_rfl, by kernel_rfl, [], none⟩
noncomputable def B49 : Code := (Tryz.f49.body).getD .skip
noncomputable def F49 : Fun Tryz.prog := ⟨49, Tryz.f49, B49, 29, Tryz.func49, by kernel_rfl, by kernel_rfl, [], none⟩
noncomputable def B50 : Code := (Tryz.f50.body).getD .skip
noncomputable def F50 : Fun Tryz.prog := ⟨50, Tryz.f50, B50, 5, Tryz.func50, by kernel_rfl, by kernel_rfl, [], none⟩
noncomputable def B51 : Code := (Tryz.f51.body).getD .skip
noncomputable def F51 : Fun Tryz.prog := ⟨51, Tryz.f51, B51, 11, Tryz.func51, by kernel_rfl, by kernel_rfl, [], none⟩
noncomputable def B52 : Code := (Tryz.f52.body).getD .skip
noncomputable def F52 : Fun Tryz.prog := ⟨52, Tryz.f52, B52, 14, Tryz.func52, by kernel_rfl, by kernel_rfl, [], none⟩
noncomputable def B54 : Code := (Tryz.f54.body).getD .skip
noncomputable def F54 : Fun Tryz.prog := ⟨54, Tryz.f54, B54, 19, Tryz.func54, by kernel_rfl, by kernel_rfl, [], none⟩
noncomputable def B55 : Code := (Tryz.f55.body).getD .skip
noncomputable def F55 : Fun Tryz.prog := ⟨55, Tryz.f55, B55, 8, Tryz.func55, by kernel_rfl, by kernel_rfl, [], none⟩
noncomputable def B56 : Code := (Tryz.f56.body).getD .skip
noncomputable def F56 : Fun Tryz.prog := ⟨56, Tryz.f56, B56, 14, Tryz.func56, by kernel_rfl, by kernel_rfl, [], none⟩
noncomputable def B62 : Code := (Tryz.f62.body).getD .skip
noncomputable def F62 : Fun Tryz.prog := ⟨62, Tryz.f62, B62, 8, Tryz.func62, by kernel_rfl, by kernel_rfl, [], none⟩
noncomputable def B63 : Code := (Tryz.f63.body).getD .skip
noncomputable def F63 : Fun Tryz.prog := ⟨63, Tryz.f63, B63, 37, Tryz.func63, by kernel_rfl, by kernel_rfl, [], none⟩
noncomputable def B64 : Code := (Tryz.f64.body).getD .skip
noncomputable def F64 : Fun Tryz.prog := ⟨64, Tryz.f64, B64, 21, Tryz.func64, by kernel_rfl, by kernel_rfl, [], none⟩
noncomputable def B66 : Code := (Tryz.f66.body).getD .skip
noncomputable def F66 : Fun Tryz.prog := ⟨66, Tryz.f66, B66, 10, Tryz.func66, by kernel_rfl, by kernel_rfl, [], none⟩
noncomputable def B67 : Code := (Tryz.f67.body).getD .skip
noncomputable def F67 : Fun Tryz.prog := ⟨67, Tryz.f67, B67, 17, Tryz.func67, by kernel_rfl, by kernel_rfl, [], none⟩
noncomputable def B75 : Code := (Tryz.f75.body).getD .skip
noncomputable def F75 : Fun Tryz.prog := ⟨75, Tryz.f75, B75, 27, Tryz.func75, by kernel_rfl, by kernel_rfl, [], none⟩
noncomputable def B77 : Code := (Tryz.f77.body).getD .skip
noncomputable def F77 : Fun Tryz.prog := ⟨77, Tryz.f77, B77, 98, Tryz.func77, by kernel_rfl, by kernel_rfl, [], none⟩
noncomputable def B78 : Code := (Tryz.f78.body).getD .skip
noncomputable def F78 : Fun Tryz.prog := ⟨78, Tryz.f78, B78, 13, Tryz.func78, by kernel_rfl, by kernel_rfl, [], none⟩
noncomputable def B79 : Code := (Tryz.f79.body).getD .skip
noncomputable def F79 : Fun Tryz.prog := ⟨79, Tryz.f79, B79, 134, Tryz.func79, by kernel_rfl, by kernel_rfl, [], none⟩
noncomputable def B80 : Code := (Tryz.f80.body).getD .skip
noncomputable def F80 : Fun Tryz.prog := ⟨80, Tryz.f80, B80, 8, Tryz.func80, by kernel_rfl, by kernel_rfl, [], none⟩
noncomputable def B86 : Code := (Tryz.f86.body).getD .skip
noncomputable def F86 : Fun Tryz.prog := ⟨86, Tryz.f86, B86, 16, Tryz.func86, by kernel_rfl, by kernel_rfl, [], none⟩
noncomputable def B92 : Code := (Tryz.f92.body).getD .skip
noncomputable def F92 : Fun Tryz.prog := ⟨92, Tryz.f92, B92, 54, Tryz.func92, by kernel_rfl, by kernel_rfl, [], none⟩
noncomputable def B93 : Code := (Tryz.f93.body).getD .skip
noncomputable def F93 : Fun Tryz.prog := ⟨93, Tryz.f93, B93, 21, Tryz.func93, by kernel_rfl, by kernel_rfl, [], none⟩
noncomputable def B94 : Code := (Tryz.f94.body).getD .skip
noncomputable def F94 : Fun Tryz.prog := ⟨94, Tryz.f94, B94, 96, Tryz.func94, by kernel_rfl, by kernel_rfl, [], none⟩
noncomputable def B95 : Code := (Tryz.f95.body).getD .skip
noncomputable def F95 : Fun Tryz.prog := ⟨95, Tryz.f95, B95, 22, Tryz.func95, by kernel_rfl, by kernel_rfl, [], none⟩
noncomputable def B96 : Code := (Tryz.f96.body).getD .skip
noncomputable def F96 : Fun Tryz.prog := ⟨96, Tryz.f96, B96, 12, Tryz.func96, by kernel_rfl, by kernel_rfl, [], none⟩
noncomputable def B97 : Code := (Tryz.f97.body).getD .skip
noncomputable def F97 : Fun Tryz.prog := ⟨97, Tryz.f97, B97, 107, Tryz.func97, by kernel_rfl, by kernel_rfl, [], none⟩
noncomputable def B98 : Code := (Tryz.f98.body).getD .skip
noncomputable def F98 : Fun Tryz.prog := ⟨98, Tryz.f98, B98, 120, Tryz.func98, by kernel_rfl, by kernel_rfl, [], none⟩
noncomputable def B99 : Code := (Tryz.f99.body).getD .skip
noncomputable def F99 : Fun Tryz.prog := ⟨99, Tryz.f99, B99, 54, Tryz.func99, by kernel_rfl, by kernel_rfl, [], none⟩
noncomputable def B100 : Code := (Tryz.f100.body).getD .skip
noncomputable def F100 : Fun Tryz.prog := ⟨100, Tryz.f100, B100, 13, Tryz.func100, by kernel_rfl, by kernel_rfl, [], none⟩
noncomputable def B101 : Code := (Tryz.f101.body).getD .skip
noncomputable def F101 : Fun Tryz.prog := ⟨101, Tryz.f101, B101, 19, Tryz.func101, by kernel_rfl, by kernel_rfl, [], none⟩
noncomputable def B102 : Code := (Tryz.f102.body).getD .skip
noncomputable def F102 : Fun Tryz.prog := ⟨102, Tryz.f102, B102, 25, Tryz.func102, by kernel_rfl, by kernel_rfl, [], none⟩
noncomputable def B103 : Code := (Tryz.f103.body).getD .skip
noncomputable def F103 : Fun Tryz.prog := ⟨103, Tryz.f103, B103, 30, Tryz.func103, by kernel_rfl, by kernel_rfl, [], none⟩
noncomputable def B119 : Code := (Tryz.f119.body).getD .skip
noncomputable def F119 : Fun Tryz.prog := ⟨119, Tryz.f119, B119, 4, Tryz.func119, by kernel_rfl, by kernel_rfl, [], none⟩
noncomputable def B120 : Code := (Tryz.f120.body).getD .skip
noncomputable def F120 : Fun Tryz.prog := ⟨120, Tryz.f120, B120, 24, Tryz.func120, by kernel_rfl, by kernel_rfl, [], none⟩
noncomputable def B121 : Code := (Tryz.f121.body).getD .skip
noncomputable def F121 : Fun Tryz.prog := ⟨121, Tryz.f121, B121, 31, Tryz.func121, by kernel_rfl, by kernel_rfl, [], none⟩
noncomputable def B122 : Code := (Tryz.f122.body).getD .skip
noncomputable def F122 : Fun Tryz.prog := ⟨122, Tryz.f122, B122, 63, Tryz.func122, by kernel_rfl, by kernel_rfl, [], none⟩
noncomputable def B123 : Code := (Tryz.f123.body).getD .skip
noncomputable def F123 : Fun Tryz.prog := ⟨123, Tryz.f123, B123, 20, Tryz.func123, by kernel_rfl, by kernel_rfl, [], none⟩
noncomputable def B124 : Code := (Tryz.f124.body).getD .skip
noncomputable def F124 : Fun Tryz.prog := ⟨124, Tryz.f124, B124, 44, Tryz.func124, by kernel_rfl, by kernel_rfl, [], none⟩
noncomputable def B125 : Code := (Tryz.f125.body).getD .skip
noncomputable def F125 : Fun Tryz.prog := ⟨125, Tryz.f125, B125, 49, Tryz.func125, by kernel_rfl, by kernel_rfl, [], none⟩
noncomputable def B128 : Code := (Tryz.f128.body).getD .skip
noncomputable def F128 : Fun Tryz.prog := ⟨128, Tryz.f128, B128, 57, Tryz.func128, by kernel_rfl, by kernel_rfl, [], none⟩
noncomputable def B131 : Code := (Tryz.f131.body).getD .skip
noncomputable def F131 : Fun Tryz.prog := ⟨131, Tryz.f131, B131, 17, Tryz.func131, by kernel_rfl, by kernel_rfl, [], none⟩
noncomputable def B134 : Code := (Tryz.f134.body).getD .skip
noncomputable def F134 : Fun Tryz.prog := ⟨134, Tryz.f134, B134, 19, Tryz.func134, by kernel_rfl, by kernel_rfl, [], none⟩
noncomputable def B135 : Code := (Tryz.f135.body).getD .skip
noncomputable def F135 : Fun Tryz.prog := ⟨135, Tryz.f135, B135, 25, Tryz.func135, by kernel_rfl, by kernel_rfl, [], none⟩
noncomputable def B139 : Code := (Tryz.f139.body).getD .skip
noncomputable def F139 : Fun Tryz.prog := ⟨139, Tryz.f139, B139, 21, Tryz.func139, by kernel_rfl, by kernel_rfl, [], none⟩
noncomputable def B141 : Code := (Tryz.f141.body).getD .skip
noncomputable def F141 : Fun Tryz.prog := ⟨141, Tryz.f141, B141, 15, Tryz.func141, by kernel_rfl, by kernel_rfl, [], none⟩
noncomputable def B144 : Code := (Tryz.f144.body).getD .skip
noncomputable def F144 : Fun Tryz.prog := ⟨144, Tryz.f144, B144, 102, Tryz.func144, by kernel_rfl, by kernel_rfl, [], none⟩
noncomputable def B145 : Code := (Tryz.f145.body).getD .skip
noncomputable def F145 : Fun Tryz.prog := ⟨145, Tryz.f145, B145, 11, Tryz.func145, by kernel_rfl, by kernel_rfl, [], none⟩
noncomputable def B146 : Code := (Tryz.f146.body).getD .skip
noncomputable def F146 : Fun Tryz.prog := ⟨146, Tryz.f146, B146, 5, Tryz.func146, by kernel_rfl, by kernel_rfl, [], none⟩
noncomputable def B147 : Code := (Tryz.f147.body).getD .skip
noncomputable def F147 : Fun Tryz.prog := ⟨147, Tryz.f147, B147, 29, Tryz.func147, by kernel_rfl, by kernel_rfl, [], none⟩
noncomputable def B148 : Code := (Tryz.f148.body).getD .skip
noncomputable def F148 : Fun Tryz.prog := ⟨148, Tryz.f148, B148, 8, Tryz.func148, by kernel_rfl, by kernel_rfl, [], none⟩
noncomputable def B149 : Code := (Tryz.f149.body).getD .skip
noncomputable def F149 : Fun Tryz.prog := ⟨149, Tryz.f149, B149, 29, Tryz.func149, by kernel_rfl, by kernel_rfl, [], none⟩
noncomputable def B150 : Code := (Tryz.f150.body).getD .skip
noncomputable def F150 : Fun Tryz.prog := ⟨150, Tryz.f150, B150, 47, Tryz.func150, by kernel_rfl, by kernel_rfl, [], none⟩
noncomputable def B151 : Code := (Tryz.f151.body).getD .skip
noncomputable def F151 : Fun Tryz.prog := ⟨151, Tryz.f151, B151, 9, Tryz.func151, by kernel_rfl, by kernel_rfl, [], none⟩
noncomputable def B152 : Code := (Tryz.f152.body).getD .skip
noncomputable def F152 : Fun Tryz.prog := ⟨152, Tryz.f152, B152, 13, Tryz.func152, by kernel_rfl, by kernel_rfl, [], none⟩
noncomputable def B154 : Code := (Tryz.f154.body).getD .skip
noncomputable def F154 : Fun Tryz.prog := ⟨154, Tryz.f154, B154, 117, Tryz.func154, by kernel_rfl, by kernel_rfl, [], none⟩
noncomputable def B159 : Code := (Tryz.f159.body).getD .skip
noncomputable def F159 : Fun Tryz.prog := ⟨159, Tryz.f159, B159, 13, Tryz.func159, by kernel_rfl, by kernel_rfl, [], none⟩
noncomputable def B160 : Code := (Tryz.f160.body).getD .skip
noncomputable def F160 : Fun Tryz.prog := ⟨160, Tryz.f160, B160, 11, Tryz.func160, by kernel_rfl, by kernel_rfl, [], none⟩
noncomputable def B161 : Code := (Tryz.f161.body).getD .skip
noncomputable def F161 : Fun Tryz.prog := ⟨161, Tryz.f161, B161, 63, Tryz.func161, by kernel_rfl, by kernel_rfl, [], none⟩
noncomputable def B163 : Code := (Tryz.f163.body).getD .skip
noncomputable def F163 : Fun Tryz.prog := ⟨163, Tryz.f163, B163, 7, Tryz.func163, by kernel_rfl, by kernel_rfl, [], none⟩
noncomputable def B165 : Code := (Tryz.f165.body).getD .skip
noncomputable def F165 : Fun Tryz.prog := ⟨165, Tryz.f165, B165, 15, Tryz.func165, by kernel_rfl, by kernel_rfl, [], none⟩
noncomputable def B166 : Code := (Tryz.f166.body).getD .skip
noncomputable def F166 : Fun Tryz.prog := ⟨166, Tryz.f166, B166, 36, Tryz.func166, by kernel_rfl, by kernel_rfl, [], none⟩
noncomputable def B167 : Code := (Tryz.f167.body).getD .skip
noncomputable def F167 : Fun Tryz.prog := ⟨167, Tryz.f167, B167, 6, Tryz.func167, by kernel_rfl, by kernel_rfl, [], none⟩
noncomputable def B168 : Code := (Tryz.f168.body).getD .skip
noncomputable def F168 : Fun Tryz.prog := ⟨168, Tryz.f168, B168, 6, Tryz.func168, by kernel_rfl, by kernel_rfl, [], none⟩
noncomputable def B169 : Code := (Tryz.f169.body).getD .skip
noncomputable def F169 : Fun Tryz.prog := ⟨169, Tryz.f169, B169, 4, Tryz.func169, by kernel_rfl, by kernel_rfl, [], none⟩
noncomputable def B170 : Code := (Tryz.f170.body).getD .skip
noncomputable def F170 : Fun Tryz.prog := ⟨170, Tryz.f170, B170, 8, Tryz.func170, by kernel_rfl, by kernel_rfl, [], none⟩
noncomputable def B171 : Code := (Tryz.f171.body).getD .skip
noncomputable def F171 : Fun Tryz.prog := ⟨171, Tryz.f171, B171, 8, Tryz.func171, by kernel_rfl, by kernel_rfl, [], none⟩
noncomputable def B172 : Code := (Tryz.f172.body).getD .skip
noncomputable def F172 : Fun Tryz.prog := ⟨172, Tryz.f172, B172, 10, Tryz.func172, by kernel_rfl, by kernel_rfl, [], none⟩
noncomputable def B173 : Code := (Tryz.f173.body).getD .skip
noncomputable def F173 : Fun Tryz.prog := ⟨173, Tryz.f173, B173, 13, Tryz.func173, by kernel_rfl, by kernel_rfl, [], none⟩
noncomputable def B174 : Code := (Tryz.f174.body).getD .skip
noncomputable def F174 : Fun Tryz.prog := ⟨174, Tryz.f174, B174, 9, Tryz.func174, by kernel_rfl, by kernel_rfl, [], none⟩
noncomputable def B177 : Code := (Tryz.f177.body).getD .skip
noncomputable def F177 : Fun Tryz.prog := ⟨177, Tryz.f177, B177, 28, Tryz.func177, by kernel_rfl, by kernel_rfl, [], none⟩
noncomputable def B179 : Code := (Tryz.f179.body).getD .skip
noncomputable def F179 : Fun Tryz.prog := ⟨179, Tryz.f179, B179, 14, Tryz.func179, by kernel_rfl, by kernel_rfl, [], none⟩
def tab_1 : List ByteArray := [(⟨#[110, 122]⟩ : ByteArray), (⟨#[122]⟩ : ByteArray), (⟨#[110, 99]⟩ : ByteArray), (⟨#[99]⟩ : ByteArray), (⟨#[112, 111]⟩ : ByteArray), (⟨#[112, 101]⟩ : ByteArray), (⟨#[112]⟩ : ByteArray), (⟨#[109]⟩ : ByteArray)]
def en_1 : ByteArray → List Value := fun x => [.string x]
def tab_2 : List ByteArray := [(⟨#[114, 108, 99, 97]⟩ : ByteArray), (⟨#[114, 114, 99, 97]⟩ : ByteArray), (⟨#[114, 108, 97]⟩ : ByteArray), (⟨#[114, 114, 97]⟩ : ByteArray), (⟨#[100, 97, 97]⟩ : ByteArray), (⟨#[99, 112, 108]⟩ : ByteArray), (⟨#[115, 99, 102]⟩ : ByteArray), (⟨#[99, 99, 102]⟩ : ByteArray)]
def en_2 : ByteArray → List Value := fun x => [.string x]
def tab_3 : List ByteArray := [(⟨#[97, 100, 100, 32, 97, 44]⟩ : ByteArray), (⟨#[97, 100, 99, 32, 97, 44]⟩ : ByteArray), (⟨#[115, 117, 98, 32]⟩ : ByteArray), (⟨#[115, 98, 99, 32, 97, 44]⟩ : ByteArray), (⟨#[97, 110, 100, 32]⟩ : ByteArray), (⟨#[120, 111, 114, 32]⟩ : ByteArray), (⟨#[111, 114, 32]⟩ : ByteArray), (⟨#[99, 112, 32]⟩ : ByteArray)]
def en_3 : ByteArray → List Value := fun x => [.string x]
def tab_4 : List ByteArray := [(⟨#[105]⟩ : ByteArray), (⟨#[100]⟩ : ByteArray), (⟨#[105, 114]⟩ : ByteArray), (⟨#[100, 114]⟩ : ByteArray)]
def en_4 : ByteArray → List Value := fun x => [.string x]
def tab_5 : List ByteArray := [(⟨#[108, 100]⟩ : ByteArray), (⟨#[99, 112]⟩ : ByteArray), (⟨#[105, 110]⟩ : ByteArray), (⟨#[111, 116]⟩ : ByteArray)]
def en_5 : ByteArray → List Value := fun x => [.string x]
def tab_6 : List ByteArray := [(⟨#[98]⟩ : ByteArray), (⟨#[99]⟩ : ByteArray), (⟨#[100]⟩ : ByteArray), (⟨#[101]⟩ : ByteArray), (⟨#[104]⟩ : ByteArray), (⟨#[108]⟩ : ByteArray), (⟨#[40, 104, 108, 41]⟩ : ByteArray), (⟨#[97]⟩ : ByteArray)]
def en_6 : ByteArray → List Value := fun x => [.string x]
def tab_7 : List ByteArray := [(⟨#[98, 99]⟩ : ByteArray), (⟨#[100, 101]⟩ : ByteArray), (⟨#[104, 108]⟩ : ByteArray), (⟨#[115, 112]⟩ : ByteArray), (⟨#[97, 102]⟩ : ByteArray)]
def en_7 : ByteArray → List Value := fun x => [.string x]
def tab_8 : List ByteArray := [(⟨#[105, 109, 32, 48]⟩ : ByteArray), (⟨#[105, 109, 32, 48]⟩ : ByteArray), (⟨#[105, 109, 32, 49]⟩ : ByteArray), (⟨#[105, 109, 32, 50]⟩ : ByteArray)]
def en_8 : ByteArray → List Value := fun x => [.string x]
def tab_9 : List ByteArray := [(⟨#[108, 100, 32, 105, 44, 97]⟩ : ByteArray), (⟨#[108, 100, 32, 114, 44, 97]⟩ : ByteArray), (⟨#[108, 100, 32, 97, 44, 105]⟩ : ByteArray), (⟨#[108, 100, 32, 97, 44, 114]⟩ : ByteArray), (⟨#[114, 114, 100]⟩ : ByteArray), (⟨#[114, 108, 100]⟩ : ByteArray), (⟨#[110, 111, 112, 42]⟩ : ByteArray), (⟨#[110, 111, 112, 42]⟩ : ByteArray)]
def en_9 : ByteArray → List Value := fun x => [.string x]
def tab_10 : List ByteArray := [(⟨#[114, 108, 99, 32]⟩ : ByteArray), (⟨#[114, 114, 99, 32]⟩ : ByteArray), (⟨#[114, 108, 32]⟩ : ByteArray), (⟨#[114, 114, 32]⟩ : ByteArray), (⟨#[115, 108, 97, 32]⟩ : ByteArray), (⟨#[115, 114, 97, 32]⟩ : ByteArray), (⟨#[115, 108, 108, 32]⟩ : ByteArray), (⟨#[115, 114, 108, 32]⟩ : ByteArray)]
def en_10 : ByteArray → List Value := fun x => [.string x]
def tab_11 : List ByteArray := [(⟨#[]⟩ : ByteArray), (⟨#[98, 105, 116, 32]⟩ : ByteArray), (⟨#[114, 101, 115, 32]⟩ : ByteArray), (⟨#[115, 101, 116, 32]⟩ : ByteArray)]
def en_11 : ByteArray → List Value := fun x => [.string x]
def tab_12 : List Int := [1, 10, 100, 1000, 10000, 100000, 1000000, 10000000, 100000000, 1000000000, 10000000000, 100000000000, 1000000000000, 10000000000000, 100000000000000, 1000000000000000, 10000000000000000, 100000000000000000, 1000000000000000000, 10000000000000000000]
def en_12 : Int → List Value := fun x => [.int .u64 x]
def tab_13 : List Int := (List.range 256).map fun c => ((Go.Lib.firstT c : Nat) : Int)
def en_13 : Int → List Value := fun x => [.int .u8 x]
def tab_14 : List (Int × Int) := [(128, 191), (160, 191), (128, 159), (144, 191), (128, 143), (0, 0), (0, 0), (0, 0), (0, 0), (0, 0), (0, 0), (0, 0), (0, 0), (0, 0), (0, 0), (0, 0)]
def en_14 : (Int × Int) → List Value := fun x => [.int .u8 x.1, .int .u8 x.2]
def tab_15 : List Int := [0, 1, 28, 2, 29, 14, 24, 3, 30, 22, 20, 15, 25, 17, 4, 8, 31, 27, 13, 23, 21, 19, 16, 7, 26, 12, 18, 6, 11, 5, 10, 9]
def en_15 : Int → List Value := fun x => [.int .u8 x]
def tab_16 : List Int := [0, 1, 56, 2, 57, 49, 28, 3, 61, 58, 42, 50, 38, 29, 17, 4, 62, 47, 59, 36, 45, 43, 51, 22, 53, 39, 33, 30, 24, 18, 12, 5, 63, 55, 48, 27, 60, 41, 37, 16, 46, 35, 44, 21, 52, 32, 23, 11, 54, 26, 40, 15, 34, 20, 31, 10, 25, 14, 19, 9, 13, 8, 7, 6]
def en_16 : Int → List Value := fun x => [.int .u8 x]

/-! ### charabanc/decode.Fields (function 24) -/
section
def decode_Fields_24.post (M0 : Nat → Prop) (w0 : World) (r : Int × Int × Int × Int × Int) : Ending → World → Prop := fun e w => e = .returned (.tuple #[.int .i64 r.1, .int .i64 r.2.1, .int .i64 r.2.2.1, .int .i64 r.2.2.2.1, .int .i64 r.2.2.2.2]) ∧ Below w0.heap.size w0 w
def decode_Fields_24.f (K : Nat) (p0 : Int) : Option (Int × Int × Int × Int × Int) := some ((IntKind.wrap .i64 (Int.fdiv p0 (2 ^ 6))), (IntKind.wrap .i64 (band .u8 (Int.fdiv p0 (2 ^ 3)) 7)), (IntKind.wrap .i64 (band .u8 p0 7)), (Int.fdiv (IntKind.wrap .i64 (band .u8 (Int.fdiv p0 (2 ^ 3)) 7)) (2 ^ 1)), (band .i64 (IntKind.wrap .i64 (band .u8 (Int.fdiv p0 (2 ^ 3)) 7)) 1))
theorem decode_Fields_24_ok (K : Nat) (M0 : Nat → Prop) (w0 : World) (p0 : Int) (ho : ∀ b, M0 b → b < w0.heap.size) {r : Int × Int × Int × Int × Int} (h : decode_Fields_24.f K p0 = some r) :
  Calls Tryz.prog 24 #[iB p0] w0 (decode_Fields_24.post M0 w0 r) := by
 unfold decode_Fields_24.f at h
 have h0 : Holds M0 w0 w0 [] := Holds.start ho
 have h0 : Holds M0 w0 w0 [] := h0
 refine calls_of F24 rfl [iB p0] (by kernel_rfl) ?_
 refine RunsI.q 1 1 [.c 2] 5 [(0, iB p0)] ?_
 refine RegI.q 1 3 [.c 4] 13 [(2, iA (IntKind.wrap .i64 (Int.fdiv p0 (2 ^ 6)))), (3, iA (IntKind.wrap .i64 (band .u8 (Int.fdiv p0 (2 ^ 3)) 7))), (4, iA (IntKind.wrap .i64 (band .u8 p0 7)))] ?_
 refine RegI.q 1 5 [.c 6] 12 [(2, iA (IntKind.wrap .i64 (Int.fdiv p0 (2 ^ 6)))), (3, iA (IntKind.wrap .i64 (band .u8 (Int.fdiv p0 (2 ^ 3)) 7))), (4, iA (IntKind.wrap .i64 (band .u8 p0 7))), (5, iA (Int.fdiv (IntKind.wrap .i64 (band .u8 (Int.fdiv p0 (2 ^ 3)) 7)) (2 ^ 1))), (6, iA (band .i64 (IntKind.wrap .i64 (band .u8 (Int.fdiv p0 (2 ^ 3)) 7)) 1))] ?_
 refine RegI.d ?_
 refine RunsI.t (.tuple #[iA (IntKind.wrap .i64 (Int.fdiv p0 (2 ^ 6))), iA (IntKind.wrap .i64 (band .u8 (Int.fdiv p0 (2 ^ 3)) 7)), iA (IntKind.wrap .i64 (band .u8 p0 7)), iA (Int.fdiv (IntKind.wrap .i64 (band .u8 (Int.fdiv p0 (2 ^ 3)) 7)) (2 ^ 1)), iA (band .i64 (IntKind.wrap .i64 (band .u8 (Int.fdiv p0 (2 ^ 3)) 7)) 1)]) ?_
 obtain rfl := Option.some.inj h
 exact ⟨rfl, h0.below⟩
end

/-! ### charabanc/bits.Signed (function 25) -/
section
def bits_Signed_25.post (M0 : Nat → Prop) (w0 : World) (r : Int) : Ending → World → Prop := fun e w => e = .returned (.int .i64 r) ∧ Below w0.heap.size w0 w
def bits_Signed_25.f (K : Nat) (p0 : Int) : Option Int := some (IntKind.wrap .i64 (IntKind.wrap .i8 p0))
theorem bits_Signed_25_ok (K : Nat) (M0 : Nat → Prop) (w0 : World) (p0 : Int) (ho : ∀ b, M0 b → b < w0.heap.size) {r : Int} (h : bits_Signed_25.f K p0 = some r) :
  Calls Tryz.prog 25 #[iB p0] w0 (bits_Signed_25.post M0 w0 r) := by
 unfold bits_Signed_25.f at h
 have h0 : Holds M0 w0 w0 [] := Holds.start ho
 have h0 : Holds M0 w0 w0 [] := h0
 refine calls_of F25 rfl [iB p0] (by kernel_rfl) ?_
 refine RunsI.q 1 1 [.c 2] 1 [(0, iB p0)] ?_
 refine RegI.q 1 3 [.c 4] 4 [(2, iA (IntKind.wrap .i64 (IntKind.wrap .i8 p0)))] ?_
 refine RegI.d ?_
 refine RunsI.t (iA (IntKind.wrap .i64 (IntKind.wrap .i8 p0))) ?_
 obtain rfl := Option.some.inj h
 exact ⟨rfl, h0.below⟩
end

/-! ### charabanc/bits.Lo (function 26) -/
section
def bits_Lo_26.post (M0 : Nat → Prop) (w0 : World) (r : Int) : Ending → World → Prop := fun e w => e = .returned (.int .u8 r) ∧ Below w0.heap.size w0 w
def bits_Lo_26.f (K : Nat) (p0 : Int) : Option Int := some (IntKind.wrap .u8 p0)
theorem bits_Lo_26_ok (K : Nat) (M0 : Nat → Prop) (w0 : World) (p0 : Int) (ho : ∀ b, M0 b → b < w0.heap.size) {r : Int} (h : bits_Lo_26.f K p0 = some r) :
  Calls Tryz.prog 26 #[iC p0] w0 (bits_Lo_26.post M0 w0 r) := by
 unfold bits_Lo_26.f at h
 have h0 : Holds M0 w0 w0 [] := Holds.start ho
 have h0 : Holds M0 w0 w0 [] := h0
 refine calls_of F26 rfl [iC p0] (by kernel_rfl) ?_
 refine RunsI.q 1 1 [.c 2] 1 [(0, iC p0)] ?_
 refine RegI.q 1 3 [.c 4] 3 [(2, iB (IntKind.wrap .u8 p0))] ?_
 refine RegI.d ?_
 refine RunsI.t (iB (IntKind.wrap .u8 p0)) ?_
 obtain rfl := Option.some.inj h
 exact ⟨rfl, h0.below⟩
end

/-! ### charabanc/listing.Target (function 8) -/
section
def listing_Target_8.post (M0 : Nat → Prop) (w0 : World) (r : Int × Bool) : Ending → World → Prop := fun e w => e = .returned (.tuple #[.int .u16 r.1, .bool r.2]) ∧ Below w0.heap.size w0 w
def listing_Target_8.f (K : Nat) (p0_0 : Int) (p0_1 : Int) (p0_2 : Int) (p0_3 : Int) (p0_4 : Int) (p0_5 : Int) (p1 : Int) : Option (Int × Bool) := Let (fun (t8 : Bool) => cond t8 (some (0, false)) ((decode_Fields_24.f K p0_1).bind fun yt19 => Let (fun (t26 : Bool) => cond t26 ((bits_Lo_26.f K p0_3).bind fun t38 => (bits_Signed_25.f K t38).bind fun t40 => some ((IntKind.wrap .u16 ((IntKind.wrap .u16 (p1 + (IntKind.wrap .u16 p0_4))) + (IntKind.wrap .u16 t40))), true)) (cond (yt19.1 != 3) (some (0, false)) (Let (fun (t63 : Bool) => cond t63 (some (p0_3, true)) (cond (yt19.2.2.1 == 7) (some ((IntKind.wrap .u16 (IntKind.wrap .i64 (8 * yt19.2.1))), true)) (some (0, false)))) (fun j66 => cond (yt19.2.2.1 == 2) (j66 true) (cond (yt19.2.2.1 == 4) (j66 true) (Let (fun (t48 : Bool) => cond t48 (j66 true) (Let (fun (t57 : Bool) => j66 t57) (fun j60 => cond (yt19.2.2.1 == 5) (cond (yt19.2.2.2.2 == 1) (j60 (yt19.2.2.2.1 == 0)) (j60 false)) (j60 false)))) (fun j51 => cond (yt19.2.2.1 == 3) (j51 (yt19.2.1 == 0)) (j51 false)))))))) (fun j29 => cond (yt19.1 == 0) (cond (yt19.2.2.1 == 0) (j29 (decide (yt19.2.1 > 1))) (j29 false)) (j29 false)))) (fun j11 => cond (p0_0 != 0) (cond (p0_0 != 3) (j11 (p0_0 != 4)) (j11 false)) (j11 false))
theorem listing_Target_8_ok (K : Nat) (M0 : Nat → Prop) (w0 : World) (a0 : Int) (a1 : Int) (a2 : Int) (a3 : Int) (a4 : Int) (a5 : Int) (p1 : Int) (ho : ∀ b, M0 b → b < w0.heap.size) {r : Int × Bool} (h : listing_Target_8.f K a0 a1 a2 a3 a4 a5 p1 = some r) :
  Calls Tryz.prog 8 #[.agg #[iA a0, iB a1, iB a2, iC a3, iA a4, iA a5], iC p1] w0 (listing_Target_8.post M0 w0 r) := by
 unfold listing_Target_8.f at h
 have h0 : Holds M0 w0 w0 [] := Holds.start ho
 have h0 : Holds M0 w0 w0 [] := h0
 refine calls_of F8 rfl [.agg #[iA a0, iB a1, iB a2, iC a3, iA a4, iA a5], iC p1] (by kernel_rfl) ?_
 refine RunsI.g 1 [.c 1, .c 2] ?_
 refine RunsI.r ?_
 refine RegI.o (OpE.bx 2 25 [iA a0, iB a1, iB a2, iC a3, iA a4, iA a5] h0 ?_)
 intro w1 b2 h3 hb4 hn5
 refine RegI.p 2 [(1, iC p1), (2, pt b2)] ?_
 refine RegI.q 2 4 [.c 5, .c 10] 1 [(1, iC p1), (2, pt b2), (11, pt b2)] ?_
 refine RegI.o (OpE.lB 12 0 3 b2 0 (iA a0) h3 rfl ?_)
 refine RegI.p 2 [(1, iC p1), (2, pt b2), (14, .bool (a0 != 0))] ?_
 obtain ⟨j11, hJ12, h⟩ := of_let h
 have hj13 : ∀ (t8 : Bool) (w10 : World), j11 t8 = some r → Holds M0 w0 w10 [box b2 25 [iA a0, iB a1, iB a2, iC a3, iA a4, iA a5]] → RegI F8 4 [.c 5, .c 10] 13 [(1, iC p1), (2, pt b2), (23, .bool t8)] w10 (listing_Target_8.post M0 w0 r) := by
  intro t8 w10 h h9
  rw [hJ12] at h
  clear hJ12
  dsimp only at h
  refine RegI.d ?_
  rcases of_cond h with ⟨hc14, h⟩ | ⟨hc14, h⟩
  ·refine RunsI.fb 23 true hc14 6 ?_
   refine RunsI.qd 1 7 [.c 8, .c 10] 2 [(4, iC 0), (5, .bool false)] ?_
   refine RunsI.t (.tuple #[iC 0, .bool false]) ?_
   obtain rfl := Option.some.inj h
   exact ⟨rfl, h9.below⟩
  ·refine RunsI.fb 23 false hc14 9 ?_
   refine RunsI.g 1 [.c 10] ?_
   refine RunsI.q 1 11 [.c 12] 1 [(1, iC p1), (2, pt b2), (25, pu b2 1)] ?_
   refine RegI.o (OpE.lB 26 0 5 b2 1 (iB a1) h9 rfl ?_)
   obtain ⟨⟨t19, t20, t21, t22, t23⟩, hg18, h⟩ := of_bind h
   dsimp only at h
   refine RegI.o (OpE.cl 27 24 #[iB a1] ((decode_Fields_24_ok K _ w10  a1 h9.old' hg18).mono ?_))
   rintro _ w15 ⟨rfl, hb16⟩
   refine ⟨_, rfl, ?_⟩
   have h17 := h9.call hb16
   refine RegI.p 11 [(1, iC p1), (2, pt b2), (6, iA t19), (7, iA t20), (8, iA t21), (9, iA t22), (10, iA t23)] ?_
   refine RegI.q 3 15 [.c 16, .blk 0, .c 49] 3 [(1, iC p1), (2, pt b2), (6, iA t19), (7, iA t20), (8, iA t21), (9, iA t22), (10, iA t23), (36, .bool (t19 == 0))] ?_
   obtain ⟨j29, hJ30, h⟩ := of_let h
   have hj31 : ∀ (t26 : Bool) (w28 : World), j29 t26 = some r → Holds M0 w0 w28 [box b2 25 [iA a0, iB a1, iB a2, iC a3, iA a4, iA a5]] → RegI F8 15 [.c 16, .blk 0, .c 49] 11 [(1, iC p1), (2, pt b2), (6, iA t19), (7, iA t20), (8, iA t21), (9, iA t22), (10, iA t23), (33, .bool t26)] w28 (listing_Target_8.post M0 w0 r) := by
    intro t26 w28 h h27
    rw [hJ30] at h
    clear hJ30
    dsimp only at h
    refine RegI.d ?_
    rcases of_cond h with ⟨hc32, h⟩ | ⟨hc32, h⟩
    ·refine RunsI.fb 33 true hc32 17 ?_
     refine RunsI.g 1 [.c 18, .c 19, .blk 0, .c 49] ?_
     refine RunsI.any 13 (by kernel_rfl) (by kernel_rfl) (by kernel_rfl) (Kp ([] : List Nat) (World.drew w28)) ?_
     have h34 := h27.drew
     generalize World.drew w28 = w33 at h34 ⊢
     have hS35 := Kp.refl ([] : List Nat) w33
     refine AnyE.u 0 44 (iC p1) hS35 ?_
     refine AnyE.u 1 45 (pu b2 4) hS35 ?_
     refine AnyE.lB 2 46 0 3 b2 4 (iA a4) [] h34 rfl hS35 rfl ?_
     refine AnyE.u 3 47 (iC (IntKind.wrap .u16 a4)) hS35 ?_
     refine AnyE.u 4 48 (iC (IntKind.wrap .u16 (p1 + (IntKind.wrap .u16 a4)))) hS35 ?_
     refine AnyE.u 5 49 (pu b2 3) hS35 ?_
     refine AnyE.lB 6 50 0 23 b2 3 (iC a3) [] h34 rfl hS35 rfl ?_
     obtain ⟨t38, hg37, h⟩ := of_bind h
     refine AnyE.cl 7 51 (iB t38) 26 #[iC a3] hS35 (fun w hk => bits_Lo_26_ok K (fun _ => False) w a3 nF hg37) ?_
     obtain ⟨t40, hg39, h⟩ := of_bind h
     refine AnyE.cl 8 52 (iA t40) 25 #[iB t38] hS35 (fun w hk => bits_Signed_25_ok K (fun _ => False) w t38 nF hg39) ?_
     refine AnyE.u 9 53 (iC (IntKind.wrap .u16 t40)) hS35 ?_
     refine AnyE.u 10 54 (iC (IntKind.wrap .u16 ((IntKind.wrap .u16 (p1 + (IntKind.wrap .u16 a4))) + (IntKind.wrap .u16 t40)))) hS35 ?_
     refine AnyE.u 11 4 (iC (IntKind.wrap .u16 ((IntKind.wrap .u16 (p1 + (IntKind.wrap .u16 a4))) + (IntKind.wrap .u16 t40)))) hS35 ?_
     refine AnyE.u 12 5 (.bool true) hS35 ?_
     refine AnyE.done (by kernel_rfl) (fun w41 hu42 => ?_)
     have h43 := h34.call hu42
     refine RunsI.l [4, 5] [(4, iC (IntKind.wrap .u16 ((IntKind.wrap .u16 (p1 + (IntKind.wrap .u16 a4))) + (IntKind.wrap .u16 t40)))), (5, .bool true)] ?_
     refine RunsI.t (.tuple #[iC (IntKind.wrap .u16 ((IntKind.wrap .u16 (p1 + (IntKind.wrap .u16 a4))) + (IntKind.wrap .u16 t40))), .bool true]) ?_
     obtain rfl := Option.some.inj h
     exact ⟨rfl, h43.below⟩
    ·refine RunsI.fb 33 false hc32 20 ?_
     refine RunsI.qd 1 21 [.c 22, .blk 0, .c 49] 3 [(2, pt b2), (7, iA t20), (8, iA t21), (9, iA t22), (10, iA t23), (55, .bool (t19 != 3))] ?_
     rcases of_cond h with ⟨hc44, h⟩ | ⟨hc44, h⟩
     ·refine RunsI.fb 55 true hc44 23 ?_
      refine RunsI.g 1 [.blk 0, .c 49] ?_
      refine RunsI.qd 2 50 [.c 51] 2 [(4, iC 0), (5, .bool false)] ?_
      refine RunsI.t (.tuple #[iC 0, .bool false]) ?_
      obtain rfl := Option.some.inj h
      exact ⟨rfl, h27.below⟩
     ·refine RunsI.fb 55 false hc44 24 ?_
      refine RunsI.qd 2 26 [.c 27, .c 38, .blk 0, .c 49] 3 [(2, pt b2), (7, iA t20), (8, iA t21), (9, iA t22), (10, iA t23), (58, .bool (t21 == 2))] ?_
      obtain ⟨j66, hJ67, h⟩ := of_let h
      have hj68 : ∀ (t63 : Bool) (w65 : World), j66 t63 = some r → Holds M0 w0 w65 [box b2 25 [iA a0, iB a1, iB a2, iC a3, iA a4, iA a5]] → RunsI F8 [.c 38, .blk 0, .c 49] [(2, pt b2), (7, iA t20), (8, iA t21), (58, .bool t63)] w65 (listing_Target_8.post M0 w0 r) := by
       intro t63 w65 h h64
       rw [hJ67] at h
       clear hJ67
       dsimp only at h
       rcases of_cond h with ⟨hc69, h⟩ | ⟨hc69, h⟩
       ·refine RunsI.fb 58 true hc69 39 ?_
        refine RunsI.q 1 40 [.c 41, .blk 0, .c 49] 1 [(79, pu b2 3)] ?_
        refine RegI.o (OpE.lB 80 0 23 b2 3 (iC a3) h64 rfl ?_)
        refine RegI.pd 2 [(4, iC a3), (5, .bool true)] ?_
        refine RunsI.t (.tuple #[iC a3, .bool true]) ?_
        obtain rfl := Option.some.inj h
        exact ⟨rfl, h64.below⟩
       ·refine RunsI.fb 58 false hc69 42 ?_
        refine RunsI.qd 1 43 [.c 44, .blk 0, .c 49] 3 [(7, iA t20), (81, .bool (t21 == 7))] ?_
        rcases of_cond h with ⟨hc70, h⟩ | ⟨hc70, h⟩
        ·refine RunsI.fb 81 true hc70 45 ?_
         refine RunsI.qd 1 46 [.c 47, .blk 0, .c 49] 5 [(4, iC (IntKind.wrap .u16 (IntKind.wrap .i64 (8 * t20)))), (5, .bool true)] ?_
         refine RunsI.t (.tuple #[iC (IntKind.wrap .u16 (IntKind.wrap .i64 (8 * t20))), .bool true]) ?_
         obtain rfl := Option.some.inj h
         exact ⟨rfl, h64.below⟩
        ·refine RunsI.fb 81 false hc70 48 ?_
         refine RunsI.g 1 [.blk 0, .c 49] ?_
         refine RunsI.qd 2 50 [.c 51] 2 [(4, iC 0), (5, .bool false)] ?_
         refine RunsI.t (.tuple #[iC 0, .bool false]) ?_
         obtain rfl := Option.some.inj h
         exact ⟨rfl, h64.below⟩
      clear hJ67
      rcases of_cond h with ⟨hc45, h⟩ | ⟨hc45, h⟩
      ·refine RunsI.fb 58 true hc45 28 ?_
       refine RunsI.g 1 [.c 38, .blk 0, .c 49] ?_
       refine RunsI.l [2, 7, 8, 58] [(2, pt b2), (7, iA t20), (8, iA t21), (58, .bool true)] ?_
       exact hj68 true w28 h (h27.pick [0] (by decide))
      ·refine RunsI.fb 58 false hc45 29 ?_
       refine RunsI.qd 1 30 [.c 31, .c 38, .blk 0, .c 49] 3 [(2, pt b2), (7, iA t20), (8, iA t21), (9, iA t22), (10, iA t23), (58, .bool (t21 == 4))] ?_
       rcases of_cond h with ⟨hc46, h⟩ | ⟨hc46, h⟩
       ·refine RunsI.fb 58 true hc46 32 ?_
        refine RunsI.g 1 [.c 38, .blk 0, .c 49] ?_
        refine RunsI.l [2, 7, 8, 58] [(2, pt b2), (7, iA t20), (8, iA t21), (58, .bool true)] ?_
        exact hj68 true w28 h (h27.pick [0] (by decide))
       ·refine RunsI.fb 58 false hc46 33 ?_
        refine RunsI.q 1 34 [.c 35, .c 38, .blk 0, .c 49] 3 [(2, pt b2), (7, iA t20), (8, iA t21), (9, iA t22), (10, iA t23), (65, .bool (t21 == 3))] ?_
        obtain ⟨j51, hJ52, h⟩ := of_let h
        have hj53 : ∀ (t48 : Bool) (w50 : World), j51 t48 = some r → Holds M0 w0 w50 [box b2 25 [iA a0, iB a1, iB a2, iC a3, iA a4, iA a5]] → RegI F8 34 [.c 35, .c 38, .blk 0, .c 49] 7 [(2, pt b2), (7, iA t20), (8, iA t21), (9, iA t22), (10, iA t23), (58, .bool t48)] w50 (listing_Target_8.post M0 w0 r) := by
         intro t48 w50 h h49
         rw [hJ52] at h
         clear hJ52
         dsimp only at h
         refine RegI.d ?_
         rcases of_cond h with ⟨hc54, h⟩ | ⟨hc54, h⟩
         ·refine RunsI.fb 58 true hc54 36 ?_
          refine RunsI.g 1 [.c 38, .blk 0, .c 49] ?_
          refine RunsI.l [2, 7, 8, 58] [(2, pt b2), (7, iA t20), (8, iA t21), (58, .bool true)] ?_
          exact hj68 true w50 h (h49.pick [0] (by decide))
         ·refine RunsI.fb 58 false hc54 37 ?_
          refine RunsI.r ?_
          refine RegI.p 3 [(2, pt b2), (7, iA t20), (8, iA t21), (9, iA t22), (10, iA t23), (71, .bool (t21 == 5))] ?_
          obtain ⟨j60, hJ61, h⟩ := of_let h
          have hj62 : ∀ (t57 : Bool) (w59 : World), j60 t57 = some r → Holds M0 w0 w59 [box b2 25 [iA a0, iB a1, iB a2, iC a3, iA a4, iA a5]] → RegI F8 37 [.c 38, .blk 0, .c 49] 11 [(2, pt b2), (7, iA t20), (8, iA t21), (58, .bool t57)] w59 (listing_Target_8.post M0 w0 r) := by
           intro t57 w59 h h58
           rw [hJ61] at h
           clear hJ61
           dsimp only at h
           refine RegI.d ?_
           refine RunsI.l [2, 7, 8, 58] [(2, pt b2), (7, iA t20), (8, iA t21), (58, .bool t57)] ?_
           exact hj68 t57 w59 h (h58.pick [0] (by decide))
          clear hJ61
          rcases of_cond h with ⟨hc55, h⟩ | ⟨hc55, h⟩
          ·refine RegI.f 71 true hc55 ?_
           refine RegI.p 4 [(2, pt b2), (7, iA t20), (8, iA t21), (9, iA t22), (75, .bool (t23 == 1))] ?_
           rcases of_cond h with ⟨hc56, h⟩ | ⟨hc56, h⟩
           ·refine RegI.f 75 true hc56 ?_
            refine RegI.p 4 [(2, pt b2), (7, iA t20), (8, iA t21), (58, .bool (t22 == 0))] ?_
            refine RegI.l [2, 7, 8, 58] [(2, pt b2), (7, iA t20), (8, iA t21), (58, .bool (t22 == 0))] ?_
            exact hj62 (t22 == 0) w50 h (h49.pick [0] (by decide))
           ·refine RegI.f 75 false hc56 ?_
            refine RegI.p 4 [(2, pt b2), (7, iA t20), (8, iA t21), (58, .bool false)] ?_
            refine RegI.l [2, 7, 8, 58] [(2, pt b2), (7, iA t20), (8, iA t21), (58, .bool false)] ?_
            exact hj62 false w50 h (h49.pick [0] (by decide))
          ·refine RegI.f 71 false hc55 ?_
           refine RegI.p 8 [(2, pt b2), (7, iA t20), (8, iA t21), (58, .bool false)] ?_
           refine RegI.l [2, 7, 8, 58] [(2, pt b2), (7, iA t20), (8, iA t21), (58, .bool false)] ?_
           exact hj62 false w50 h (h49.pick [0] (by decide))
        clear hJ52
        rcases of_cond h with ⟨hc47, h⟩ | ⟨hc47, h⟩
        ·refine RegI.f 65 true hc47 ?_
         refine RegI.p 4 [(2, pt b2), (7, iA t20), (8, iA t21), (9, iA t22), (10, iA t23), (58, .bool (t20 == 0))] ?_
         refine RegI.l [2, 7, 8, 9, 10, 58] [(2, pt b2), (7, iA t20), (8, iA t21), (9, iA t22), (10, iA t23), (58, .bool (t20 == 0))] ?_
         exact hj53 (t20 == 0) w28 h (h27.pick [0] (by decide))
        ·refine RegI.f 65 false hc47 ?_
         refine RegI.p 4 [(2, pt b2), (7, iA t20), (8, iA t21), (9, iA t22), (10, iA t23), (58, .bool false)] ?_
         refine RegI.l [2, 7, 8, 9, 10, 58] [(2, pt b2), (7, iA t20), (8, iA t21), (9, iA t22), (10, iA t23), (58, .bool false)] ?_
         exact hj53 false w28 h (h27.pick [0] (by decide))
   clear hJ30
   rcases of_cond h with ⟨hc24, h⟩ | ⟨hc24, h⟩
   ·refine RegI.f 36 true hc24 ?_
    refine RegI.p 4 [(1, iC p1), (2, pt b2), (6, iA t19), (7, iA t20), (8, iA t21), (9, iA t22), (10, iA t23), (40, .bool (t21 == 0))] ?_
    rcases of_cond h with ⟨hc25, h⟩ | ⟨hc25, h⟩
    ·refine RegI.f 40 true hc25 ?_
     refine RegI.p 4 [(1, iC p1), (2, pt b2), (6, iA t19), (7, iA t20), (8, iA t21), (9, iA t22), (10, iA t23), (33, .bool (decide (t20 > 1)))] ?_
     refine RegI.l [1, 2, 6, 7, 8, 9, 10, 33] [(1, iC p1), (2, pt b2), (6, iA t19), (7, iA t20), (8, iA t21), (9, iA t22), (10, iA t23), (33, .bool (decide (t20 > 1)))] ?_
     exact hj31 (decide (t20 > 1)) w15 h (h17.pick [0] (by decide))
    ·refine RegI.f 40 false hc25 ?_
     refine RegI.p 4 [(1, iC p1), (2, pt b2), (6, iA t19), (7, iA t20), (8, iA t21), (9, iA t22), (10, iA t23), (33, .bool false)] ?_
     refine RegI.l [1, 2, 6, 7, 8, 9, 10, 33] [(1, iC p1), (2, pt b2), (6, iA t19), (7, iA t20), (8, iA t21), (9, iA t22), (10, iA t23), (33, .bool false)] ?_
     exact hj31 false w15 h (h17.pick [0] (by decide))
   ·refine RegI.f 36 false hc24 ?_
    refine RegI.p 8 [(1, iC p1), (2, pt b2), (6, iA t19), (7, iA t20), (8, iA t21), (9, iA t22), (10, iA t23), (33, .bool false)] ?_
    refine RegI.l [1, 2, 6, 7, 8, 9, 10, 33] [(1, iC p1), (2, pt b2), (6, iA t19), (7, iA t20), (8, iA t21), (9, iA t22), (10, iA t23), (33, .bool false)] ?_
    exact hj31 false w15 h (h17.pick [0] (by decide))
 clear hJ12
 rcases of_cond h with ⟨hc6, h⟩ | ⟨hc6, h⟩
 ·refine RegI.f 14 true hc6 ?_
  refine RegI.p 1 [(1, iC p1), (2, pt b2), (14, .bool true), (15, pt b2)] ?_
  refine RegI.o (OpE.lB 16 0 3 b2 0 (iA a0) h3 rfl ?_)
  refine RegI.p 3 [(1, iC p1), (2, pt b2), (19, .bool (a0 != 3))] ?_
  rcases of_cond h with ⟨hc7, h⟩ | ⟨hc7, h⟩
  ·refine RegI.f 19 true hc7 ?_
   refine RegI.p 1 [(1, iC p1), (2, pt b2), (19, .bool true), (20, pt b2)] ?_
   refine RegI.o (OpE.lB 21 0 3 b2 0 (iA a0) h3 rfl ?_)
   refine RegI.p 2 [(1, iC p1), (2, pt b2), (23, .bool (a0 != 4))] ?_
   refine RegI.l [1, 2, 23] [(1, iC p1), (2, pt b2), (23, .bool (a0 != 4))] ?_
   exact hj13 (a0 != 4) w1 h (h3.pick [0] (by decide))
  ·refine RegI.f 19 false hc7 ?_
   refine RegI.p 4 [(1, iC p1), (2, pt b2), (23, .bool false)] ?_
   refine RegI.l [1, 2, 23] [(1, iC p1), (2, pt b2), (23, .bool false)] ?_
   exact hj13 false w1 h (h3.pick [0] (by decide))
 ·refine RegI.f 14 false hc6 ?_
  refine RegI.p 9 [(1, iC p1), (2, pt b2), (23, .bool false)] ?_
  refine RegI.l [1, 2, 23] [(1, iC p1), (2, pt b2), (23, .bool false)] ?_
  exact hj13 false w1 h (h3.pick [0] (by decide))
end

/-! ### (charabanc/listing.one).next (function 34) -/
section
def listing_one_next_34.post (M0 : Nat → Prop) (w0 : World) (r : Int) : Ending → World → Prop := fun e w => e = .returned (.int .u16 r) ∧ Below w0.heap.size w0 w
def listing_one_next_34.f (K : Nat) (p0_0 : Int) (p0_1 : List Int) (p0_2_0 : Int) (p0_2_1 : Int) (p0_2_2 : Int) (p0_2_3 : Int) (p0_2_4 : Int) (p0_2_5 : Int) (p0_3 : Bool) : Option Int := some (IntKind.wrap .u16 (p0_0 + (IntKind.wrap .u16 (p0_1.length : Int))))
theorem listing_one_next_34_ok (K : Nat) (M0 : Nat → Prop) (w0 : World) (pA0_1 : Option Addr) (pc0_1 : Nat) (a0 : Int) (a1 : List Int) (a6 : Int) (a7 : Int) (a8 : Int) (a9 : Int) (d0 : Int) (d1 : Int) (a3 : Bool) (ho : ∀ b, M0 b → b < w0.heap.size) (hs0_1 : Sl (Rp.int .u8) w0 M0 (.slice pA0_1 a1.length pc0_1) a1) {r : Int} (h : listing_one_next_34.f K a0 a1 a6 a7 a8 a9 d0 d1 a3 = some r) :
  Calls Tryz.prog 34 #[.agg #[iC a0, .slice pA0_1 a1.length pc0_1, iA a6, iB a7, iB a8, iC a9, iA d0, iA d1, .bool a3]] w0 (listing_one_next_34.post M0 w0 r) := by
 unfold listing_one_next_34.f at h
 have h0 : Holds M0 w0 w0 [] := Holds.start ho
 have h00_1 := h0.addSl (Rp.int .u8) (.slice pA0_1 a1.length pc0_1) a1 (hs0_1.mono (fun _ _ hm => hm.elim id (fun hm => absurd hm (by simp [mines, sl]))))
 have h0 : Holds M0 w0 w0 [sl (Rp.int .u8) (.slice pA0_1 a1.length pc0_1) a1] := h00_1
 refine calls_of F34 rfl [.agg #[iC a0, .slice pA0_1 a1.length pc0_1, iA a6, iB a7, iB a8, iC a9, iA d0, iA d1, .bool a3]] (by kernel_rfl) ?_
 refine RunsI.g 1 [.c 1, .c 2] ?_
 refine RunsI.r ?_
 refine RegI.o (OpE.bx 1 53 [iC a0, .slice pA0_1 a1.length pc0_1, iA a6, iB a7, iB a8, iC a9, iA d0, iA d1, .bool a3] h0 ?_)
 intro w1 b2 h3 hb4 hn5
 refine RegI.p 1 [(1, pt b2)] ?_
 refine RegI.q 1 3 [.c 4] 1 [(1, pt b2), (3, pt b2)] ?_
 refine RegI.o (OpE.lB 4 1 23 b2 0 (iC a0) h3 rfl ?_)
 refine RegI.p 1 [(4, iC a0), (5, pu b2 1)] ?_
 refine RegI.o (OpE.lB 6 1 39 b2 1 (.slice pA0_1 a1.length pc0_1) h3 rfl ?_)
 refine RegI.pd 4 [(2, iC (IntKind.wrap .u16 (a0 + (IntKind.wrap .u16 (a1.length : Int)))))] ?_
 refine RunsI.t (iC (IntKind.wrap .u16 (a0 + (IntKind.wrap .u16 (a1.length : Int))))) ?_
 obtain rfl := Option.some.inj h
 exact ⟨rfl, h3.below⟩
end

/-! ### charabanc/cells.Dump (function 39) -/
section
def cells_Dump_39.post (M0 : Nat → Prop) (w0 : World) (r : (List Int)) : Ending → World → Prop := fun e w => ∃ (A1 : Option Addr) (c1 : Nat), e = .returned (.slice A1 r.length c1) ∧ Holds M0 w0 w [own (Rp.int .u8) 5 (.slice A1 r.length c1) r]
def cells_Dump_39.l0 (K : Nat) (p0 : List (Int × Int)) (p1 : Int) (p2 : Int) : Nat → (List (Int × Int)) → Int → Option (List (Int × Int))
 | 0, _, _ => none
 | k + 1, t7, t8 => cond (decide (t8 < (p0.length : Int))) (cond (inR t8 p0.length) (Let (fun (t31 : (List (Int × Int))) => cells_Dump_39.l0 K p0 p1 p2 k t31 (IntKind.wrap .i64 (t8 + 1))) (fun j34 => cond (((rdD p0 t8).2) == 0) (j34 (delK t7 ((rdD p0 t8).1))) (j34 (insK t7 ((rdD p0 t8).1) ((rdD p0 t8).2))))) none) (some t7)
theorem cells_Dump_39.l0_ok (K : Nat) (M0 : Nat → Prop) (w0 : World) (pA0 : Option Addr) (pc0 : Nat) (p0 : List (Int × Int)) (p1 : Int) (p2 : Int) (b6 : Nat) (R : Ending → World → Prop) (x : (List (Int × Int))) (hk0 : ∀ (t37 : List (Int × Int)) (w1 : World), x = t37 → Holds M0 w0 w1 [mp (ekI .u16) (fun (x : Int) => iB x) b6 t37] → RunsI F64 [.c 21] [(3, .map (some b6))] w1 R) :
  ∀ (k : Nat) (t7 : List (Int × Int)) (t8 : Int) (w : World), cells_Dump_39.l0 K p0 p1 p2 k t7 t8 = some x → Holds M0 w0 w [mp (ekI .u16) (fun (x : Int) => iB x) b6 t7, sl (Rp.pair (Rp.int .u16) (Rp.int .u8)) (.slice pA0 p0.length pc0) p0] → RunsI F64 [.c 9, .lp 9, .blk 0, .c 21] [(3, .map (some b6)), (7, .slice pA0 p0.length pc0), (8, iA (p0.length : Int)), (9, iA t8)] w R := by
 intro k
 induction k with
 | zero => intro t7 t8 w h hH; exact absurd h (by simp [cells_Dump_39.l0])
 | succ k ih =>
  intro t7 t8 w h hH
  rw [cells_Dump_39.l0.eq_2] at h
  refine RunsI.qd 1 10 [.c 11, .lp 9, .blk 0, .c 21] 1 [(3, .map (some b6)), (7, .slice pA0 p0.length pc0), (8, iA (p0.length : Int)), (9, iA t8), (10, .bool (decide (t8 < (p0.length : Int))))] ?_
  refine RunsI.g 1 [.c 12, .c 15, .lp 9, .blk 0, .c 21] ?_
  rcases of_cond h with ⟨hc9, h⟩ | ⟨hc9, h⟩
  ·refine RunsI.fb 10 true hc9 13 ?_
   refine RunsI.g 1 [.c 15, .lp 9, .blk 0, .c 21] ?_
   refine RunsI.g 3 [.c 18, .c 19, .blk 1, .c 20, .lp 9, .blk 0, .c 21] ?_
   refine RunsI.r ?_
   obtain ⟨hc10, h⟩ := of_cond0 h
   refine RegI.o (OpE.idxSl 11 1 22 t8 hH (by kernel_rfl) rfl (by kernel_rfl) (by kernel_rfl) hc10 ?_)
   intro b11 o12 cs13 hk14 h15
   obtain ⟨_, _, rfl, rfl, rfl⟩ := hk14
   refine RegI.o (OpE.lC 12 2 69 b11 o12 0 (.agg #[iC ((rdD p0 t8).1), iB ((rdD p0 t8).2)]) h15 rfl ?_)
   refine RegI.o (OpE.bx 5 69 [iC 0, iB 0] h15 ?_)
   intro w16 b17 h18 hb19 hn20
   refine RegI.o (OpE.sB 3 69 b17 0 (.agg #[iC ((rdD p0 t8).1), iB ((rdD p0 t8).2)]) [iC ((rdD p0 t8).1), iB ((rdD p0 t8).2)] h18 rfl ?_)
   intro w21 h22 hk23
   refine RegI.d ?_
   refine RunsI.r ?_
   refine RegI.p 2 [(3, .map (some b6)), (5, pt b17), (7, .slice pA0 p0.length pc0), (8, iA (p0.length : Int)), (9, iA t8), (13, .map (some b6)), (14, pt b17)] ?_
   refine RegI.o (OpE.lB 15 3 23 b17 0 (iC ((rdD p0 t8).1)) h22 rfl ?_)
   refine RegI.p 1 [(3, .map (some b6)), (7, .slice pA0 p0.length pc0), (8, iA (p0.length : Int)), (9, iA t8), (13, .map (some b6)), (15, iC ((rdD p0 t8).1)), (16, pu b17 1)] ?_
   refine RegI.o (OpE.lB 17 3 5 b17 1 (iB ((rdD p0 t8).2)) h22 rfl ?_)
   refine RegI.enter 18 [3, 7, 8, 9] [(3, .map (some b6)), (7, .slice pA0 p0.length pc0), (8, iA (p0.length : Int)), (9, iA t8)] (by kernel_rfl) (by kernel_rfl) (by kernel_rfl) (by kernel_rfl) F100 100 rfl [.map (some b6), iC ((rdD p0 t8).1), iB ((rdD p0 t8).2)] (by kernel_rfl) (by kernel_rfl) ?_
   obtain ⟨j34, hJ35, h⟩ := of_let h
   have hj36 : ∀ (t31 : List (Int × Int)) (w33 : World), j34 t31 = some x → Holds M0 w0 w33 [mp (ekI .u16) (fun (x : Int) => iB x) b6 t31, sl (Rp.pair (Rp.int .u16) (Rp.int .u8)) (.slice pA0 p0.length pc0) p0] → RegI F64 19 [.blk 1, .c 20, .lp 9, .blk 0, .c 21] 6 [(3, .map (some b6)), (7, .slice pA0 p0.length pc0), (8, iA (p0.length : Int)), (9, iA t8)] w33 R := by
    intro t31 w33 h h32
    rw [hJ35] at h
    clear hJ35
    dsimp only at h
    refine RegI.q 1 20 [.lp 9, .blk 0, .c 21] 2 [(3, .map (some b6)), (7, .slice pA0 p0.length pc0), (8, iA (p0.length : Int)), (9, iA (IntKind.wrap .i64 (t8 + 1)))] ?_
    refine RegI.d ?_
    refine RunsI.g 1 [.c 9, .lp 9, .blk 0, .c 21] ?_
    refine RunsI.l [3, 7, 8, 9] [(3, .map (some b6)), (7, .slice pA0 p0.length pc0), (8, iA (p0.length : Int)), (9, iA (IntKind.wrap .i64 (t8 + 1)))] ?_
    exact ih t31 (IntKind.wrap .i64 (t8 + 1)) w33 h (h32.pick [0, 1] (by decide))
   clear hJ35
   refine RunsI.qd 2 2 [.c 3, .c 8] 2 [(0, .map (some b6)), (1, iC ((rdD p0 t8).1)), (2, iB ((rdD p0 t8).2)), (7, .bool (((rdD p0 t8).2) == 0))] ?_
   rcases of_cond h with ⟨hc24, h⟩ | ⟨hc24, h⟩
   ·refine RunsI.fb 7 true hc24 4 ?_
    refine RunsI.q 1 5 [.c 6, .c 8] 2 [(8, .map (some b6)), (9, iC ((rdD p0 t8).1))] ?_
    refine RegI.o (OpE.mapDel (ek := (ekI .u16)) (ev := (fun (x : Int) => iB x)) 0 99 23 5 [23] ((rdD p0 t8).1) h22 (by kernel_rfl) rfl (by kernel_rfl) rfl (by kernel_rfl) (KeyOk.int .u16 (by kernel_rfl)) (delK t7 ((rdD p0 t8).1)) rfl ?_)
    intro w25 h26 hk27
    refine RegI.d ?_
    refine RunsI.t (.tuple #[]) ?_
    refine cont_mk ?_
    refine RegI.l [3, 7, 8, 9] [(3, .map (some b6)), (7, .slice pA0 p0.length pc0), (8, iA (p0.length : Int)), (9, iA t8)] ?_
    exact hj36 (delK t7 ((rdD p0 t8).1)) w25 h (h26.pick [0, 1] (by decide))
   ·refine RunsI.fb 7 false hc24 7 ?_
    refine RunsI.q 1 8 [] 3 [(10, .map (some b6)), (11, iC ((rdD p0 t8).1)), (12, iB ((rdD p0 t8).2))] ?_
    refine RegI.o (OpE.mapSet (ek := (ekI .u16)) (ev := (fun (x : Int) => iB x)) 0 99 23 5 ((rdD p0 t8).1) ((rdD p0 t8).2) h22 (by kernel_rfl) rfl (by kernel_rfl) rfl rfl (by kernel_rfl) (KeyOk.int .u16 (by kernel_rfl)) (insK t7 ((rdD p0 t8).1) ((rdD p0 t8).2)) rfl ?_)
    intro w28 h29 hk30
    refine RegI.d ?_
    refine RunsI.t (.tuple #[]) ?_
    refine cont_mk ?_
    refine RegI.l [3, 7, 8, 9] [(3, .map (some b6)), (7, .slice pA0 p0.length pc0), (8, iA (p0.length : Int)), (9, iA t8)] ?_
    exact hj36 (insK t7 ((rdD p0 t8).1) ((rdD p0 t8).2)) w28 h (h29.pick [0, 1] (by decide))
  ·refine RunsI.fb 10 false hc9 14 ?_
   refine RunsI.g 1 [.c 21] ?_
   refine RunsI.l [3] [(3, .map (some b6))] ?_
   exact hk0 t7 w (Option.some.inj h).symm (hH.pick [0] (by decide))
def cells_Dump_39.l1 (K : Nat) (p0 : List (Int × Int)) (p1 : Int) (p2 : Int) (t46 : List (Int × Int)) : Nat → Int → (List Int) → Int → Option (List Int)
 | 0, _, _, _ => none
 | k + 1, t44, t49, t50 => cond (decide (t50 < (if 4096 < p2 then 4096 else p2))) (cond (mayBe (t49.length + ([((findK t46 t44).getD 0)] : List Int).length) 1) (cells_Dump_39.l1 K p0 p1 p2 t46 k (IntKind.wrap .u16 (t44 + 1)) (t49 ++ ([((findK t46 t44).getD 0)] : List Int)) (IntKind.wrap .i64 (t50 + 1))) none) (some t49)
theorem cells_Dump_39.l1_ok (K : Nat) (M0 : Nat → Prop) (w0 : World) (pA0 : Option Addr) (pc0 : Nat) (p0 : List (Int × Int)) (p1 : Int) (p2 : Int) (t46 : List (Int × Int)) (b45 : Nat) (R : Ending → World → Prop) (x : (List Int)) (hk0 : ∀ (t65 : List Int) (A63 : Option Addr) (c64 : Nat) (w1 : World), x = t65 → Holds M0 w0 w1 [own (Rp.int .u8) 5 (.slice A63 t65.length c64) t65] → RunsI F39 [.c 23] [(8, .slice A63 t65.length c64)] w1 R) :
  ∀ (k : Nat) (t44 : Int) (t49 : List Int) (t50 : Int) (A47 : Option Addr) (c48 : Nat) (w : World), cells_Dump_39.l1 K p0 p1 p2 t46 k t44 t49 t50 = some x → Holds M0 w0 w [mp (ekI .u16) (fun (x : Int) => iB x) b45 t46, own (Rp.int .u8) 5 (.slice A47 t49.length c48) t49] → RunsI F39 [.c 11, .lp 11, .blk 0, .c 23] [(1, iC t44), (7, .map (some b45)), (8, .slice A47 t49.length c48), (12, iA (if 4096 < p2 then 4096 else p2)), (13, iA t50)] w R := by
 intro k
 induction k with
 | zero => intro t44 t49 t50 A47 c48 w h hH; exact absurd h (by simp [cells_Dump_39.l1])
 | succ k ih =>
  intro t44 t49 t50 A47 c48 w h hH
  rw [cells_Dump_39.l1.eq_2] at h
  refine RunsI.qd 1 12 [.c 13, .lp 11, .blk 0, .c 23] 1 [(1, iC t44), (7, .map (some b45)), (8, .slice A47 t49.length c48), (12, iA (if 4096 < p2 then 4096 else p2)), (13, iA t50), (14, .bool (decide (t50 < (if 4096 < p2 then 4096 else p2))))] ?_
  refine RunsI.g 1 [.c 14, .c 17, .lp 11, .blk 0, .c 23] ?_
  rcases of_cond h with ⟨hc51, h⟩ | ⟨hc51, h⟩
  ·refine RunsI.fb 14 true hc51 15 ?_
   refine RunsI.g 1 [.c 17, .lp 11, .blk 0, .c 23] ?_
   refine RunsI.q 3 20 [.c 21, .blk 1, .c 22, .lp 11, .blk 0, .c 23] 3 [(1, iC t44), (7, .map (some b45)), (12, iA (if 4096 < p2 then 4096 else p2)), (13, iA t50), (15, .slice A47 t49.length c48), (16, .map (some b45)), (17, iC t44)] ?_
   refine RegI.o (OpE.lookup (ek := (ekI .u16)) (ev := (fun (x : Int) => iB x)) (zv := iB 0) 18 0 99 23 5 t44 (iB ((findK t46 t44).getD 0)) false hH (by kernel_rfl) rfl (by kernel_rfl) rfl (by kernel_rfl) (KeyOk.int .u16 (by kernel_rfl)) (fun _ => by kernel_rfl) (look_sym _ _ _ false) ?_)
   refine RegI.o (OpE.lit 19 5 [iB ((findK t46 t44).getD 0)] 1 hH (by kernel_rfl) (by kernel_rfl) ?_)
   intro w52 b53 h54 hb55 hn56
   obtain ⟨hc57, h⟩ := of_cond0 h
   refine RegI.o (OpE.appendBox 20 1 2 39 5 1 ([((findK t46 t44).getD 0)] : List Int) 0 h54 (by kernel_rfl) (by kernel_rfl) (by kernel_rfl) rfl rfl rfl (cells_int _ _ _ _) hc57 ?_)
   intro w58 A59 c60 h61 hk62
   refine RegI.pd 1 [(1, iC t44), (7, .map (some b45)), (8, .slice A59 ((t49 ++ ([((findK t46 t44).getD 0)] : List Int)).length) c60), (12, iA (if 4096 < p2 then 4096 else p2)), (13, iA t50)] ?_
   refine RunsI.r ?_
   refine RegI.p 3 [(1, iC (IntKind.wrap .u16 (t44 + 1))), (7, .map (some b45)), (8, .slice A59 ((t49 ++ ([((findK t46 t44).getD 0)] : List Int)).length) c60), (12, iA (if 4096 < p2 then 4096 else p2)), (13, iA t50)] ?_
   refine RegI.q 1 22 [.lp 11, .blk 0, .c 23] 2 [(1, iC (IntKind.wrap .u16 (t44 + 1))), (7, .map (some b45)), (8, .slice A59 ((t49 ++ ([((findK t46 t44).getD 0)] : List Int)).length) c60), (12, iA (if 4096 < p2 then 4096 else p2)), (13, iA (IntKind.wrap .i64 (t50 + 1)))] ?_
   refine RegI.d ?_
   refine RunsI.g 1 [.c 11, .lp 11, .blk 0, .c 23] ?_
   refine RunsI.l [1, 7, 8, 12, 13] [(1, iC (IntKind.wrap .u16 (t44 + 1))), (7, .map (some b45)), (8, .slice A59 ((t49 ++ ([((findK t46 t44).getD 0)] : List Int)).length) c60), (12, iA (if 4096 < p2 then 4096 else p2)), (13, iA (IntKind.wrap .i64 (t50 + 1)))] ?_
   exact ih (IntKind.wrap .u16 (t44 + 1)) (t49 ++ ([((findK t46 t44).getD 0)] : List Int)) (IntKind.wrap .i64 (t50 + 1)) A59 c60 w58 h (h61.pick [0, 1] (by decide))
  ·refine RunsI.fb 14 false hc51 16 ?_
   refine RunsI.g 1 [.c 23] ?_
   refine RunsI.l [8] [(8, .slice A47 t49.length c48)] ?_
   exact hk0 t49 A47 c48 w (Option.some.inj h).symm (hH.pick [1] (by decide))
def cells_Dump_39.f (K : Nat) (p0 : List (Int × Int)) (p1 : Int) (p2 : Int) : Option (List Int) := (cells_Dump_39.l0 K p0 p1 p2 K ([] : List (Int × Int)) 0).bind (fun t40 => (cells_Dump_39.l1 K p0 p1 p2 t40 K p1 ([] : List Int) 0).bind (fun t70 => some t70))
theorem cells_Dump_39_ok (K : Nat) (M0 : Nat → Prop) (w0 : World) (pA0 : Option Addr) (pc0 : Nat) (p0 : List (Int × Int)) (p1 : Int) (p2 : Int) (ho : ∀ b, M0 b → b < w0.heap.size) (hs0 : Sl (Rp.pair (Rp.int .u16) (Rp.int .u8)) w0 M0 (.slice pA0 p0.length pc0) p0) {r : (List Int)} (h : cells_Dump_39.f K p0 p1 p2 = some r) :
  Calls Tryz.prog 39 #[.slice pA0 p0.length pc0, iC p1, iA p2] w0 (cells_Dump_39.post M0 w0 r) := by
 unfold cells_Dump_39.f at h
 have h0 : Holds M0 w0 w0 [] := Holds.start ho
 have h00 := h0.addSl (Rp.pair (Rp.int .u16) (Rp.int .u8)) (.slice pA0 p0.length pc0) p0 (hs0.mono (fun _ _ hm => hm.elim id (fun hm => absurd hm (by simp [mines, sl]))))
 have h0 : Holds M0 w0 w0 [sl (Rp.pair (Rp.int .u16) (Rp.int .u8)) (.slice pA0 p0.length pc0) p0] := h00
 refine calls_of F39 rfl [.slice pA0 p0.length pc0, iC p1, iA p2] (by kernel_rfl) ?_
 refine RunsI.q 1 1 [.c 2] 1 [(0, .slice pA0 p0.length pc0), (1, iC p1), (2, iA p2)] ?_
 refine RegI.q 1 3 [.c 4] 1 [(1, iC p1), (2, iA p2), (9, .slice pA0 p0.length pc0)] ?_
 refine RegI.enter 10 [1, 2] [(1, iC p1), (2, iA p2)] (by kernel_rfl) (by kernel_rfl) (by kernel_rfl) (by kernel_rfl) F64 64 rfl [.slice pA0 p0.length pc0] (by kernel_rfl) (by kernel_rfl) ?_
 refine RunsI.qd 1 1 [.c 2] 1 [(0, .slice pA0 p0.length pc0)] ?_
 refine RunsI.g 1 [.c 3, .c 4] ?_
 refine RunsI.r ?_
 refine RegI.o (OpE.makeMap 6 (ekI .u16) (fun (x : Int) => iB x) h0 (by kernel_rfl) (by kernel_rfl) ?_)
 intro w1 b2 h3 hb4 hn5
 refine RegI.p 1 [(0, .slice pA0 p0.length pc0), (3, .map (some b2))] ?_
 refine RegI.q 2 6 [.c 7, .c 21] 3 [(3, .map (some b2)), (7, .slice pA0 p0.length pc0), (8, iA (p0.length : Int)), (9, iA 0)] ?_
 refine RegI.d ?_
 refine RunsI.g 2 [.c 9, .lp 9, .blk 0, .c 21] ?_
 obtain ⟨x38, hx39, h⟩ := of_bind h
 refine RunsI.l [3, 7, 8, 9] [(3, .map (some b2)), (7, .slice pA0 p0.length pc0), (8, iA (p0.length : Int)), (9, iA 0)] ?_
 refine cells_Dump_39.l0_ok K M0 w0 pA0 pc0 p0 p1 p2 b2 _ x38 ?_ K ([] : List (Int × Int)) 0 w1 hx39 (h3.pick [1, 0] (by decide))
 ·intro t40 w42 hq73 h41
  (try rw [hq73] at h)
  refine RunsI.qd 1 22 [.c 23] 2 [(2, .map (some b2))] ?_
  refine RunsI.t (.map (some b2)) ?_
  refine cont_mk ?_
  refine RegI.p 1 [(1, iC p1), (2, iA p2), (7, .map (some b2))] ?_
  refine RegI.q 1 5 [.c 6] 1 [(1, iC p1), (2, iA p2), (7, .map (some b2)), (8, .slice none 0 0)] ?_
  refine RegI.q 2 8 [.c 9, .c 23] 3 [(1, iC p1), (7, .map (some b2)), (8, .slice none 0 0), (12, iA (if 4096 < p2 then 4096 else p2)), (13, iA 0)] ?_
  refine RegI.d ?_
  refine RunsI.g 2 [.c 11, .lp 11, .blk 0, .c 23] ?_
  obtain ⟨x66, hx67, h⟩ := of_bind h
  have h43 := h41.addOwnNil (Rp.int .u8) 5
  refine RunsI.l [1, 7, 8, 12, 13] [(1, iC p1), (7, .map (some b2)), (8, .slice none (([] : List Int).length) 0), (12, iA (if 4096 < p2 then 4096 else p2)), (13, iA 0)] ?_
  refine cells_Dump_39.l1_ok K M0 w0 pA0 pc0 p0 p1 p2 t40 b2 _ x66 ?_ K p1 ([] : List Int) 0 none 0 w42 hx67 (h43.pick [0, 1] (by decide))
  ·intro t70 A68 c69 w72 hq74 h71
   (try rw [hq74] at h)
   refine RunsI.qd 1 24 [.c 25] 2 [(6, .slice A68 t70.length c69)] ?_
   refine RunsI.t (.slice A68 t70.length c69) ?_
   obtain rfl := Option.some.inj h
   exact ⟨A68, c69, rfl, h71.pick [0] (by decide)⟩
end

/-! ### charabanc/decode.Near (function 122) -/
section
def decode_Near_122.post (M0 : Nat → Prop) (w0 : World) (r : Bool) : Ending → World → Prop := fun e w => e = .returned (.bool r) ∧ Below w0.heap.size w0 w
def decode_Near_122.f (K : Nat) (p0 : Int) (p1 : Int) : Option Bool := Let (fun (t2 : Bool) => cond t2 (some true) (Let (fun (t10 : Bool) => cond t10 (some false) ((decode_Fields_24.f K p1).bind fun yt21 => cond (yt21.1 == 0) (cond (yt21.2.1 == 6) (cond (decide (yt21.2.2.1 ≥ 4)) (cond (decide (yt21.2.2.1 ≤ 6)) (some true) (cond (yt21.1 == 1) (cond ((yt21.2.1 == 6) != (yt21.2.2.1 == 6)) (some true) (cond (yt21.1 == 2) (some (yt21.2.2.1 == 6)) (some false))) (cond (yt21.1 == 2) (some (yt21.2.2.1 == 6)) (some false)))) (cond (yt21.1 == 1) (cond ((yt21.2.1 == 6) != (yt21.2.2.1 == 6)) (some true) (cond (yt21.1 == 2) (some (yt21.2.2.1 == 6)) (some false))) (cond (yt21.1 == 2) (some (yt21.2.2.1 == 6)) (some false)))) (cond (yt21.1 == 1) (cond ((yt21.2.1 == 6) != (yt21.2.2.1 == 6)) (some true) (cond (yt21.1 == 2) (some (yt21.2.2.1 == 6)) (some false))) (cond (yt21.1 == 2) (some (yt21.2.2.1 == 6)) (some false)))) (cond (yt21.1 == 1) (cond ((yt21.2.1 == 6) != (yt21.2.2.1 == 6)) (some true) (cond (yt21.1 == 2) (some (yt21.2.2.1 == 6)) (some false))) (cond (yt21.1 == 2) (some (yt21.2.2.1 == 6)) (some false))))) (fun j13 => cond (p0 != 3) (j13 (p0 != 4)) (j13 false)))) (fun j5 => cond (p0 == 5) (j5 true) (j5 (p0 == 6)))
theorem decode_Near_122_ok (K : Nat) (M0 : Nat → Prop) (w0 : World) (p0 : Int) (p1 : Int) (ho : ∀ b, M0 b → b < w0.heap.size) {r : Bool} (h : decode_Near_122.f K p0 p1 = some r) :
  Calls Tryz.prog 122 #[iA p0, iB p1] w0 (decode_Near_122.post M0 w0 r) := by
 unfold decode_Near_122.f at h
 have h0 : Holds M0 w0 w0 [] := Holds.start ho
 have h0 : Holds M0 w0 w0 [] := h0
 refine calls_of F122 rfl [iA p0, iB p1] (by kernel_rfl) ?_
 refine RunsI.q 1 1 [.c 2] 1 [(0, iA p0), (1, iB p1)] ?_
 refine RegI.q 2 4 [.c 5, .c 10] 3 [(0, iA p0), (1, iB p1), (12, .bool (p0 == 5))] ?_
 obtain ⟨j5, hJ6, h⟩ := of_let h
 have hj7 : ∀ (t2 : Bool) (w4 : World), j5 t2 = some r → Holds M0 w0 w4 [] → RegI F122 4 [.c 5, .c 10] 6 [(0, iA p0), (1, iB p1), (15, .bool t2)] w4 (decode_Near_122.post M0 w0 r) := by
  intro t2 w4 h h3
  rw [hJ6] at h
  clear hJ6
  dsimp only at h
  refine RegI.d ?_
  rcases of_cond h with ⟨hc8, h⟩ | ⟨hc8, h⟩
  ·refine RunsI.fb 15 true hc8 6 ?_
   refine RunsI.qd 1 7 [.c 8, .c 10] 1 [(4, .bool true)] ?_
   refine RunsI.t (.bool true) ?_
   obtain rfl := Option.some.inj h
   exact ⟨rfl, h3.below⟩
  ·refine RunsI.fb 15 false hc8 9 ?_
   refine RunsI.g 1 [.c 10] ?_
   refine RunsI.q 2 12 [.c 13, .c 18] 3 [(0, iA p0), (1, iB p1), (18, .bool (p0 != 3))] ?_
   obtain ⟨j13, hJ14, h⟩ := of_let h
   have hj15 : ∀ (t10 : Bool) (w12 : World), j13 t10 = some r → Holds M0 w0 w12 [] → RegI F122 12 [.c 13, .c 18] 6 [(1, iB p1), (21, .bool t10)] w12 (decode_Near_122.post M0 w0 r) := by
    intro t10 w12 h h11
    rw [hJ14] at h
    clear hJ14
    dsimp only at h
    refine RegI.d ?_
    rcases of_cond h with ⟨hc16, h⟩ | ⟨hc16, h⟩
    ·refine RunsI.fb 21 true hc16 14 ?_
     refine RunsI.qd 1 15 [.c 16, .c 18] 1 [(4, .bool false)] ?_
     refine RunsI.t (.bool false) ?_
     obtain rfl := Option.some.inj h
     exact ⟨rfl, h11.below⟩
    ·refine RunsI.fb 21 false hc16 17 ?_
     refine RunsI.g 1 [.c 18] ?_
     refine RunsI.q 1 19 [.c 20] 1 [(23, iB p1)] ?_
     obtain ⟨⟨t21, t22, t23, t24, t25⟩, hg20, h⟩ := of_bind h
     dsimp only at h
     refine RegI.o (OpE.cl 24 24 #[iB p1] ((decode_Fields_24_ok K _ w12  p1 h11.old' hg20).mono ?_))
     rintro _ w17 ⟨rfl, hb18⟩
     refine ⟨_, rfl, ?_⟩
     have h19 := h11.call hb18
     refine RegI.p 11 [(5, iA t21), (6, iA t22), (7, iA t23)] ?_
     refine RegI.q 1 21 [.c 22] 3 [(5, iA t21), (6, iA t22), (7, iA t23), (32, .bool (t21 == 0))] ?_
     rcases of_cond h with ⟨hc26, h⟩ | ⟨hc26, h⟩
     ·refine RegI.f 32 true hc26 ?_
      refine RegI.p 4 [(5, iA t21), (6, iA t22), (7, iA t23), (36, .bool (t22 == 6))] ?_
      rcases of_cond h with ⟨hc27, h⟩ | ⟨hc27, h⟩
      ·refine RegI.f 36 true hc27 ?_
       refine RegI.p 4 [(5, iA t21), (6, iA t22), (7, iA t23), (40, .bool (decide (t23 ≥ 4)))] ?_
       rcases of_cond h with ⟨hc28, h⟩ | ⟨hc28, h⟩
       ·refine RegI.f 40 true hc28 ?_
        refine RegI.p 4 [(5, iA t21), (6, iA t22), (7, iA t23), (44, .bool (decide (t23 ≤ 6)))] ?_
        rcases of_cond h with ⟨hc29, h⟩ | ⟨hc29, h⟩
        ·refine RegI.f 44 true hc29 ?_
         refine RegI.pd 19 [(4, .bool true)] ?_
         refine RunsI.t (.bool true) ?_
         obtain rfl := Option.some.inj h
         exact ⟨rfl, h19.below⟩
        ·refine RegI.f 44 false hc29 ?_
         refine RegI.p 3 [(5, iA t21), (6, iA t22), (7, iA t23), (44, .bool false), (47, .bool (t21 == 1))] ?_
         rcases of_cond h with ⟨hc30, h⟩ | ⟨hc30, h⟩
         ·refine RegI.f 47 true hc30 ?_
          refine RegI.p 8 [(5, iA t21), (7, iA t23), (55, .bool ((t22 == 6) != (t23 == 6)))] ?_
          rcases of_cond h with ⟨hc31, h⟩ | ⟨hc31, h⟩
          ·refine RegI.f 55 true hc31 ?_
           refine RegI.pd 8 [(4, .bool true)] ?_
           refine RunsI.t (.bool true) ?_
           obtain rfl := Option.some.inj h
           exact ⟨rfl, h19.below⟩
          ·refine RegI.f 55 false hc31 ?_
           refine RegI.p 3 [(7, iA t23), (55, .bool false), (58, .bool (t21 == 2))] ?_
           rcases of_cond h with ⟨hc32, h⟩ | ⟨hc32, h⟩
           ·refine RegI.f 58 true hc32 ?_
            refine RegI.pd 5 [(4, .bool (t23 == 6))] ?_
            refine RunsI.t (.bool (t23 == 6)) ?_
            obtain rfl := Option.some.inj h
            exact ⟨rfl, h19.below⟩
           ·refine RegI.f 58 false hc32 ?_
            refine RegI.pd 5 [(4, .bool false)] ?_
            refine RunsI.t (.bool false) ?_
            obtain rfl := Option.some.inj h
            exact ⟨rfl, h19.below⟩
         ·refine RegI.f 47 false hc30 ?_
          refine RegI.p 11 [(7, iA t23), (55, .bool false), (58, .bool (t21 == 2))] ?_
          rcases of_cond h with ⟨hc33, h⟩ | ⟨hc33, h⟩
          ·refine RegI.f 58 true hc33 ?_
           refine RegI.pd 5 [(4, .bool (t23 == 6))] ?_
           refine RunsI.t (.bool (t23 == 6)) ?_
           obtain rfl := Option.some.inj h
           exact ⟨rfl, h19.below⟩
          ·refine RegI.f 58 false hc33 ?_
           refine RegI.pd 5 [(4, .bool false)] ?_
           refine RunsI.t (.bool false) ?_
           obtain rfl := Option.some.inj h
           exact ⟨rfl, h19.below⟩
       ·refine RegI.f 40 false hc28 ?_
        refine RegI.p 7 [(5, iA t21), (6, iA t22), (7, iA t23), (44, .bool false), (47, .bool (t21 == 1))] ?_
        rcases of_cond h with ⟨hc34, h⟩ | ⟨hc34, h⟩
        ·refine RegI.f 47 true hc34 ?_
         refine RegI.p 8 [(5, iA t21), (7, iA t23), (55, .bool ((t22 == 6) != (t23 == 6)))] ?_
         rcases of_cond h with ⟨hc35, h⟩ | ⟨hc35, h⟩
         ·refine RegI.f 55 true hc35 ?_
          refine RegI.pd 8 [(4, .bool true)] ?_
          refine RunsI.t (.bool true) ?_
          obtain rfl := Option.some.inj h
          exact ⟨rfl, h19.below⟩
         ·refine RegI.f 55 false hc35 ?_
          refine RegI.p 3 [(7, iA t23), (55, .bool false), (58, .bool (t21 == 2))] ?_
          rcases of_cond h with ⟨hc36, h⟩ | ⟨hc36, h⟩
          ·refine RegI.f 58 true hc36 ?_
           refine RegI.pd 5 [(4, .bool (t23 == 6))] ?_
           refine RunsI.t (.bool (t23 == 6)) ?_
           obtain rfl := Option.some.inj h
           exact ⟨rfl, h19.below⟩
          ·refine RegI.f 58 false hc36 ?_
           refine RegI.pd 5 [(4, .bool false)] ?_
           refine RunsI.t (.bool false) ?_
           obtain rfl := Option.some.inj h
           exact ⟨rfl, h19.below⟩
        ·refine RegI.f 47 false hc34 ?_
         refine RegI.p 11 [(7, iA t23), (55, .bool false), (58, .bool (t21 == 2))] ?_
         rcases of_cond h with ⟨hc37, h⟩ | ⟨hc37, h⟩
         ·refine RegI.f 58 true hc37 ?_
          refine RegI.pd 5 [(4, .bool (t23 == 6))] ?_
          refine RunsI.t (.bool (t23 == 6)) ?_
          obtain rfl := Option.some.inj h
          exact ⟨rfl, h19.below⟩
         ·refine RegI.f 58 false hc37 ?_
          refine RegI.pd 5 [(4, .bool false)] ?_
          refine RunsI.t (.bool false) ?_
          obtain rfl := Option.some.inj h
          exact ⟨rfl, h19.below⟩
      ·refine RegI.f 36 false hc27 ?_
       refine RegI.p 11 [(5, iA t21), (6, iA t22), (7, iA t23), (44, .bool false), (47, .bool (t21 == 1))] ?_
       rcases of_cond h with ⟨hc38, h⟩ | ⟨hc38, h⟩
       ·refine RegI.f 47 true hc38 ?_
        refine RegI.p 8 [(5, iA t21), (7, iA t23), (55, .bool ((t22 == 6) != (t23 == 6)))] ?_
        rcases of_cond h with ⟨hc39, h⟩ | ⟨hc39, h⟩
        ·refine RegI.f 55 true hc39 ?_
         refine RegI.pd 8 [(4, .bool true)] ?_
         refine RunsI.t (.bool true) ?_
         obtain rfl := Option.some.inj h
         exact ⟨rfl, h19.below⟩
        ·refine RegI.f 55 false hc39 ?_
         refine RegI.p 3 [(7, iA t23), (55, .bool false), (58, .bool (t21 == 2))] ?_
         rcases of_cond h with ⟨hc40, h⟩ | ⟨hc40, h⟩
         ·refine RegI.f 58 true hc40 ?_
          refine RegI.pd 5 [(4, .bool (t23 == 6))] ?_
          refine RunsI.t (.bool (t23 == 6)) ?_
          obtain rfl := Option.some.inj h
          exact ⟨rfl, h19.below⟩
         ·refine RegI.f 58 false hc40 ?_
          refine RegI.pd 5 [(4, .bool false)] ?_
          refine RunsI.t (.bool false) ?_
          obtain rfl := Option.some.inj h
          exact ⟨rfl, h19.below⟩
       ·refine RegI.f 47 false hc38 ?_
        refine RegI.p 11 [(7, iA t23), (55, .bool false), (58, .bool (t21 == 2))] ?_
        rcases of_cond h with ⟨hc41, h⟩ | ⟨hc41, h⟩
        ·refine RegI.f 58 true hc41 ?_
         refine RegI.pd 5 [(4, .bool (t23 == 6))] ?_
         refine RunsI.t (.bool (t23 == 6)) ?_
         obtain rfl := Option.some.inj h
         exact ⟨rfl, h19.below⟩
        ·refine RegI.f 58 false hc41 ?_
         refine RegI.pd 5 [(4, .bool false)] ?_
         refine RunsI.t (.bool false) ?_
         obtain rfl := Option.some.inj h
         exact ⟨rfl, h19.below⟩
     ·refine RegI.f 32 false hc26 ?_
      refine RegI.p 15 [(5, iA t21), (6, iA t22), (7, iA t23), (44, .bool false), (47, .bool (t21 == 1))] ?_
      rcases of_cond h with ⟨hc42, h⟩ | ⟨hc42, h⟩
      ·refine RegI.f 47 true hc42 ?_
       refine RegI.p 8 [(5, iA t21), (7, iA t23), (55, .bool ((t22 == 6) != (t23 == 6)))] ?_
       rcases of_cond h with ⟨hc43, h⟩ | ⟨hc43, h⟩
       ·refine RegI.f 55 true hc43 ?_
        refine RegI.pd 8 [(4, .bool true)] ?_
        refine RunsI.t (.bool true) ?_
        obtain rfl := Option.some.inj h
        exact ⟨rfl, h19.below⟩
       ·refine RegI.f 55 false hc43 ?_
        refine RegI.p 3 [(7, iA t23), (55, .bool false), (58, .bool (t21 == 2))] ?_
        rcases of_cond h with ⟨hc44, h⟩ | ⟨hc44, h⟩
        ·refine RegI.f 58 true hc44 ?_
         refine RegI.pd 5 [(4, .bool (t23 == 6))] ?_
         refine RunsI.t (.bool (t23 == 6)) ?_
         obtain rfl := Option.some.inj h
         exact ⟨rfl, h19.below⟩
        ·refine RegI.f 58 false hc44 ?_
         refine RegI.pd 5 [(4, .bool false)] ?_
         refine RunsI.t (.bool false) ?_
         obtain rfl := Option.some.inj h
         exact ⟨rfl, h19.below⟩
      ·refine RegI.f 47 false hc42 ?_
       refine RegI.p 11 [(7, iA t23), (55, .bool false), (58, .bool (t21 == 2))] ?_
       rcases of_cond h with ⟨hc45, h⟩ | ⟨hc45, h⟩
       ·refine RegI.f 58 true hc45 ?_
        refine RegI.pd 5 [(4, .bool (t23 == 6))] ?_
        refine RunsI.t (.bool (t23 == 6)) ?_
        obtain rfl := Option.some.inj h
        exact ⟨rfl, h19.below⟩
       ·refine RegI.f 58 false hc45 ?_
        refine RegI.pd 5 [(4, .bool false)] ?_
        refine RunsI.t (.bool false) ?_
        obtain rfl := Option.some.inj h
        exact ⟨rfl, h19.below⟩
   clear hJ14
   rcases of_cond h with ⟨hc9, h⟩ | ⟨hc9, h⟩
   ·refine RegI.f 18 true hc9 ?_
    refine RegI.p 3 [(1, iB p1), (21, .bool (p0 != 4))] ?_
    refine RegI.l [1, 21] [(1, iB p1), (21, .bool (p0 != 4))] ?_
    exact hj15 (p0 != 4) w4 h (h3.pick [] (by decide))
   ·refine RegI.f 18 false hc9 ?_
    refine RegI.p 3 [(1, iB p1), (21, .bool false)] ?_
    refine RegI.l [1, 21] [(1, iB p1), (21, .bool false)] ?_
    exact hj15 false w4 h (h3.pick [] (by decide))
 clear hJ6
 rcases of_cond h with ⟨hc1, h⟩ | ⟨hc1, h⟩
 ·refine RegI.f 12 true hc1 ?_
  refine RegI.p 3 [(0, iA p0), (1, iB p1), (15, .bool true)] ?_
  refine RegI.l [0, 1, 15] [(0, iA p0), (1, iB p1), (15, .bool true)] ?_
  exact hj7 true w0 h (h0.pick [] (by decide))
 ·refine RegI.f 12 false hc1 ?_
  refine RegI.p 3 [(0, iA p0), (1, iB p1), (15, .bool (p0 == 6))] ?_
  refine RegI.l [0, 1, 15] [(0, iA p0), (1, iB p1), (15, .bool (p0 == 6))] ?_
  exact hj7 (p0 == 6) w0 h (h0.pick [] (by decide))
end

/-! ### charabanc/bits.Word (function 160) -/
section
def bits_Word_160.post (M0 : Nat → Prop) (w0 : World) (r : Int) : Ending → World → Prop := fun e w => e = .returned (.int .u16 r) ∧ Below w0.heap.size w0 w
def bits_Word_160.f (K : Nat) (p0 : Int) (p1 : Int) : Option Int := some (bor .u16 (IntKind.wrap .u16 ((IntKind.wrap .u16 p0) * 2 ^ 8)) (IntKind.wrap .u16 p1))
theorem bits_Word_160_ok (K : Nat) (M0 : Nat → Prop) (w0 : World) (p0 : Int) (p1 : Int) (ho : ∀ b, M0 b → b < w0.heap.size) {r : Int} (h : bits_Word_160.f K p0 p1 = some r) :
  Calls Tryz.prog 160 #[iB p0, iB p1] w0 (bits_Word_160.post M0 w0 r) := by
 unfold bits_Word_160.f at h
 have h0 : Holds M0 w0 w0 [] := Holds.start ho
 have h0 : Holds M0 w0 w0 [] := h0
 refine calls_of F160 rfl [iB p0, iB p1] (by kernel_rfl) ?_
 refine RunsI.q 1 1 [.c 2] 1 [(0, iB p0), (1, iB p1)] ?_
 refine RegI.q 1 3 [.c 4] 7 [(4, iC (bor .u16 (IntKind.wrap .u16 ((IntKind.wrap .u16 p0) * 2 ^ 8)) (IntKind.wrap .u16 p1)))] ?_
 refine RegI.d ?_
 refine RunsI.t (iC (bor .u16 (IntKind.wrap .u16 ((IntKind.wrap .u16 p0) * 2 ^ 8)) (IntKind.wrap .u16 p1))) ?_
 obtain rfl := Option.some.inj h
 exact ⟨rfl, h0.below⟩
end

/-! ### charabanc/decode.plain (function 161) -/
section
def decode_plain_161.post (M0 : Nat → Prop) (w0 : World) (r : Int) : Ending → World → Prop := fun e w => e = .returned (.int .i64 r) ∧ Below w0.heap.size w0 w
def decode_plain_161.f (K : Nat) (p0 : Int) (p1 : Int) (p2 : Int) : Option Int := Let (fun (t24 : Bool) => cond t24 (some 2) (Let (fun (t34 : Bool) => cond t34 (some 2) (cond ((p0, p2) == (0, 0)) (cond (inR p1 8) (some (rdD ([0, 0, 1, 1, 1, 1, 1, 1] : List Int) p1)) none) (cond ((p0, p2) == (0, 2)) (cond (inR p1 8) (some (rdD ([0, 0, 0, 0, 2, 2, 2, 2] : List Int) p1)) none) (cond ((p0, p2) == (0, 6)) (cond (inR p1 8) (some (rdD ([1, 1, 1, 1, 1, 1, 1, 1] : List Int) p1)) none) (cond ((p0, p2) == (3, 2)) (cond (inR p1 8) (some (rdD ([2, 2, 2, 2, 2, 2, 2, 2] : List Int) p1)) none) (cond ((p0, p2) == (3, 3)) (cond (inR p1 8) (some (rdD ([2, 0, 1, 1, 0, 0, 0, 0] : List Int) p1)) none) (cond ((p0, p2) == (3, 4)) (cond (inR p1 8) (some (rdD ([2, 2, 2, 2, 2, 2, 2, 2] : List Int) p1)) none) (cond ((p0, p2) == (3, 6)) (cond (inR p1 8) (some (rdD ([1, 1, 1, 1, 1, 1, 1, 1] : List Int) p1)) none) (cond (inR p1 8) (some (rdD ([0, 0, 0, 0, 0, 0, 0, 0] : List Int) p1)) none))))))))) (fun j37 => cond (p0 == 3) (cond (p2 == 5) (cond ((band .i64 p1 1) == 1) (j37 ((Int.fdiv p1 (2 ^ 1)) == 0)) (j37 false)) (j37 false)) (j37 false)))) (fun j27 => cond (p0 == 0) (cond (p2 == 1) (j27 ((band .i64 p1 1) == 0)) (j27 false)) (j27 false))
theorem decode_plain_161_ok (K : Nat) (M0 : Nat → Prop) (w0 : World) (p0 : Int) (p1 : Int) (p2 : Int) (ho : ∀ b, M0 b → b < w0.heap.size) {r : Int} (h : decode_plain_161.f K p0 p1 p2 = some r) :
  Calls Tryz.prog 161 #[iA p0, iA p1, iA p2] w0 (decode_plain_161.post M0 w0 r) := by
 unfold decode_plain_161.f at h
 have h0 : Holds M0 w0 w0 [] := Holds.start ho
 have h0 : Holds M0 w0 w0 [] := h0
 refine calls_of F161 rfl [iA p0, iA p1, iA p2] (by kernel_rfl) ?_
 refine RunsI.q 1 1 [.c 2] 1 [(0, iA p0), (1, iA p1), (2, iA p2)] ?_
 refine RegI.q 1 3 [.c 4] 6 [(0, iA p0), (1, iA p1), (2, iA p2), (7, iA (Int.fdiv p1 (2 ^ 1))), (8, iA (band .i64 p1 1))] ?_
 refine RegI.d ?_
 refine RunsI.g 1 [.c 5, .c 6] ?_
 refine RunsI.any 24 (by kernel_rfl) (by kernel_rfl) (by kernel_rfl) (Kp ([] : List Nat) (World.drew w0)) ?_
 have h2 := h0.drew
 generalize World.drew w0 = w1 at h2 ⊢
 have hS3 := Kp.refl ([] : List Nat) w1
 refine AnyE.u 1 15 (.agg #[iA 0, iA 0]) hS3 ?_
 refine AnyE.u 2 16 (.agg (List.flatMap (fun (x : Int) => ([iA x] : List Value)) ([0, 0, 1, 1, 1, 1, 1, 1] : List Int)).toArray) hS3 ?_
 refine AnyE.u 4 17 (.agg #[iA 0, iA 2]) hS3 ?_
 refine AnyE.u 5 18 (.agg (List.flatMap (fun (x : Int) => ([iA x] : List Value)) ([0, 0, 0, 0, 2, 2, 2, 2] : List Int)).toArray) hS3 ?_
 refine AnyE.u 7 19 (.agg #[iA 0, iA 6]) hS3 ?_
 refine AnyE.u 8 20 (.agg (List.flatMap (fun (x : Int) => ([iA x] : List Value)) ([1, 1, 1, 1, 1, 1, 1, 1] : List Int)).toArray) hS3 ?_
 refine AnyE.u 10 21 (.agg #[iA 3, iA 2]) hS3 ?_
 refine AnyE.u 11 22 (.agg (List.flatMap (fun (x : Int) => ([iA x] : List Value)) ([2, 2, 2, 2, 2, 2, 2, 2] : List Int)).toArray) hS3 ?_
 refine AnyE.u 13 23 (.agg #[iA 3, iA 3]) hS3 ?_
 refine AnyE.u 14 24 (.agg (List.flatMap (fun (x : Int) => ([iA x] : List Value)) ([2, 0, 1, 1, 0, 0, 0, 0] : List Int)).toArray) hS3 ?_
 refine AnyE.u 16 25 (.agg #[iA 3, iA 4]) hS3 ?_
 refine AnyE.u 17 26 (.agg (List.flatMap (fun (x : Int) => ([iA x] : List Value)) ([2, 2, 2, 2, 2, 2, 2, 2] : List Int)).toArray) hS3 ?_
 refine AnyE.u 19 27 (.agg #[iA 3, iA 6]) hS3 ?_
 refine AnyE.u 20 28 (.agg (List.flatMap (fun (x : Int) => ([iA x] : List Value)) ([1, 1, 1, 1, 1, 1, 1, 1] : List Int)).toArray) hS3 ?_
 refine AnyE.one 0 (by kernel_rfl) (fun w5 hu6 => ?_)
 have h7 := h2.call hu6
 have hS8 := hS3.up hu6
 refine OpE.makeMap 14 (ekP .i64) (fun (v : Value) => v) h7 (by kernel_rfl) (by kernel_rfl) ?_
 intro w9 b10 h11 hb12 hn13
 have hn14 := Nat.le_trans hS8.1 hn13
 have hS15 := hS8.up hb12
 refine ⟨hS15, ?_⟩
 refine AnyE.stores (ek := (ekP .i64)) (ev := (fun (v : Value) => v)) 0 2 195 193 194 b10 ([] : List ((Int × Int) × Value)) [(3, (0, 0), .agg (List.flatMap (fun (x : Int) => ([iA x] : List Value)) ([0, 0, 1, 1, 1, 1, 1, 1] : List Int)).toArray), (6, (0, 2), .agg (List.flatMap (fun (x : Int) => ([iA x] : List Value)) ([0, 0, 0, 0, 2, 2, 2, 2] : List Int)).toArray), (9, (0, 6), .agg (List.flatMap (fun (x : Int) => ([iA x] : List Value)) ([1, 1, 1, 1, 1, 1, 1, 1] : List Int)).toArray), (12, (3, 2), .agg (List.flatMap (fun (x : Int) => ([iA x] : List Value)) ([2, 2, 2, 2, 2, 2, 2, 2] : List Int)).toArray), (15, (3, 3), .agg (List.flatMap (fun (x : Int) => ([iA x] : List Value)) ([2, 0, 1, 1, 0, 0, 0, 0] : List Int)).toArray), (18, (3, 4), .agg (List.flatMap (fun (x : Int) => ([iA x] : List Value)) ([2, 2, 2, 2, 2, 2, 2, 2] : List Int)).toArray), (21, (3, 6), .agg (List.flatMap (fun (x : Int) => ([iA x] : List Value)) ([1, 1, 1, 1, 1, 1, 1, 1] : List Int)).toArray)] h11 rfl hS15 (fun x hx => .inr (by rw [List.mem_singleton.1 hx]; exact hn14)) (by kernel_rfl) (KeyOk.pair .i64 (E := 3) (q := .i64) (by kernel_rfl) (by kernel_rfl) (by kernel_rfl)) (by kernel_rfl) (by kernel_rfl) (by decide) (by decide) (by kernel_rfl) (by kernel_rfl) [((0, 0), .agg (List.flatMap (fun (x : Int) => ([iA x] : List Value)) ([0, 0, 1, 1, 1, 1, 1, 1] : List Int)).toArray), ((0, 2), .agg (List.flatMap (fun (x : Int) => ([iA x] : List Value)) ([0, 0, 0, 0, 2, 2, 2, 2] : List Int)).toArray), ((0, 6), .agg (List.flatMap (fun (x : Int) => ([iA x] : List Value)) ([1, 1, 1, 1, 1, 1, 1, 1] : List Int)).toArray), ((3, 2), .agg (List.flatMap (fun (x : Int) => ([iA x] : List Value)) ([2, 2, 2, 2, 2, 2, 2, 2] : List Int)).toArray), ((3, 3), .agg (List.flatMap (fun (x : Int) => ([iA x] : List Value)) ([2, 0, 1, 1, 0, 0, 0, 0] : List Int)).toArray), ((3, 4), .agg (List.flatMap (fun (x : Int) => ([iA x] : List Value)) ([2, 2, 2, 2, 2, 2, 2, 2] : List Int)).toArray), ((3, 6), .agg (List.flatMap (fun (x : Int) => ([iA x] : List Value)) ([1, 1, 1, 1, 1, 1, 1, 1] : List Int)).toArray)] (by kernel_rfl) [3, 6, 9, 12, 15, 18, 21, 0, 20, 19, 17, 16, 14, 13, 11, 10, 8, 7, 5, 4, 2, 1] (by kernel_rfl) ?_
 intro w16 h17 hS18
 refine AnyE.u 22 29 (.map (some b10)) hS18 ?_
 refine AnyE.u 23 9 (.map (some b10)) hS18 ?_
 refine AnyE.done (by kernel_rfl) (fun w19 hu20 => ?_)
 have h21 := h17.call hu20
 refine RunsI.l [0, 1, 2, 7, 8, 9] [(0, iA p0), (1, iA p1), (2, iA p2), (7, iA (Int.fdiv p1 (2 ^ 1))), (8, iA (band .i64 p1 1)), (9, .map (some b10))] ?_
 refine RunsI.q 3 9 [.c 10, .blk 0, .c 21] 3 [(0, iA p0), (1, iA p1), (2, iA p2), (7, iA (Int.fdiv p1 (2 ^ 1))), (8, iA (band .i64 p1 1)), (9, .map (some b10)), (33, .bool (p0 == 0))] ?_
 obtain ⟨j27, hJ28, h⟩ := of_let h
 have hj29 : ∀ (t24 : Bool) (w26 : World), j27 t24 = some r → Holds M0 w0 w26 [mp (ekP .i64) (fun (v : Value) => v) b10 [((0, 0), .agg (List.flatMap (fun (x : Int) => ([iA x] : List Value)) ([0, 0, 1, 1, 1, 1, 1, 1] : List Int)).toArray), ((0, 2), .agg (List.flatMap (fun (x : Int) => ([iA x] : List Value)) ([0, 0, 0, 0, 2, 2, 2, 2] : List Int)).toArray), ((0, 6), .agg (List.flatMap (fun (x : Int) => ([iA x] : List Value)) ([1, 1, 1, 1, 1, 1, 1, 1] : List Int)).toArray), ((3, 2), .agg (List.flatMap (fun (x : Int) => ([iA x] : List Value)) ([2, 2, 2, 2, 2, 2, 2, 2] : List Int)).toArray), ((3, 3), .agg (List.flatMap (fun (x : Int) => ([iA x] : List Value)) ([2, 0, 1, 1, 0, 0, 0, 0] : List Int)).toArray), ((3, 4), .agg (List.flatMap (fun (x : Int) => ([iA x] : List Value)) ([2, 2, 2, 2, 2, 2, 2, 2] : List Int)).toArray), ((3, 6), .agg (List.flatMap (fun (x : Int) => ([iA x] : List Value)) ([1, 1, 1, 1, 1, 1, 1, 1] : List Int)).toArray)]] → RegI F161 9 [.c 10, .blk 0, .c 21] 11 [(0, iA p0), (1, iA p1), (2, iA p2), (7, iA (Int.fdiv p1 (2 ^ 1))), (8, iA (band .i64 p1 1)), (9, .map (some b10)), (30, .bool t24)] w26 (decode_plain_161.post M0 w0 r) := by
  intro t24 w26 h h25
  rw [hJ28] at h
  clear hJ28
  dsimp only at h
  refine RegI.d ?_
  rcases of_cond h with ⟨hc30, h⟩ | ⟨hc30, h⟩
  ·refine RunsI.fb 30 true hc30 11 ?_
   refine RunsI.qd 1 12 [.c 13, .blk 0, .c 21] 1 [(6, iA 2)] ?_
   refine RunsI.t (iA 2) ?_
   obtain rfl := Option.some.inj h
   exact ⟨rfl, h25.below⟩
  ·refine RunsI.fb 30 false hc30 14 ?_
   refine RunsI.q 1 15 [.c 16, .blk 0, .c 21] 3 [(0, iA p0), (1, iA p1), (2, iA p2), (7, iA (Int.fdiv p1 (2 ^ 1))), (8, iA (band .i64 p1 1)), (9, .map (some b10)), (44, .bool (p0 == 3))] ?_
   obtain ⟨j37, hJ38, h⟩ := of_let h
   have hj39 : ∀ (t34 : Bool) (w36 : World), j37 t34 = some r → Holds M0 w0 w36 [mp (ekP .i64) (fun (v : Value) => v) b10 [((0, 0), .agg (List.flatMap (fun (x : Int) => ([iA x] : List Value)) ([0, 0, 1, 1, 1, 1, 1, 1] : List Int)).toArray), ((0, 2), .agg (List.flatMap (fun (x : Int) => ([iA x] : List Value)) ([0, 0, 0, 0, 2, 2, 2, 2] : List Int)).toArray), ((0, 6), .agg (List.flatMap (fun (x : Int) => ([iA x] : List Value)) ([1, 1, 1, 1, 1, 1, 1, 1] : List Int)).toArray), ((3, 2), .agg (List.flatMap (fun (x : Int) => ([iA x] : List Value)) ([2, 2, 2, 2, 2, 2, 2, 2] : List Int)).toArray), ((3, 3), .agg (List.flatMap (fun (x : Int) => ([iA x] : List Value)) ([2, 0, 1, 1, 0, 0, 0, 0] : List Int)).toArray), ((3, 4), .agg (List.flatMap (fun (x : Int) => ([iA x] : List Value)) ([2, 2, 2, 2, 2, 2, 2, 2] : List Int)).toArray), ((3, 6), .agg (List.flatMap (fun (x : Int) => ([iA x] : List Value)) ([1, 1, 1, 1, 1, 1, 1, 1] : List Int)).toArray)]] → RegI F161 15 [.c 16, .blk 0, .c 21] 15 [(0, iA p0), (1, iA p1), (2, iA p2), (9, .map (some b10)), (41, .bool t34)] w36 (decode_plain_161.post M0 w0 r) := by
    intro t34 w36 h h35
    rw [hJ38] at h
    clear hJ38
    dsimp only at h
    refine RegI.d ?_
    rcases of_cond h with ⟨hc40, h⟩ | ⟨hc40, h⟩
    ·refine RunsI.fb 41 true hc40 17 ?_
     refine RunsI.qd 1 18 [.c 19, .blk 0, .c 21] 1 [(6, iA 2)] ?_
     refine RunsI.t (iA 2) ?_
     obtain rfl := Option.some.inj h
     exact ⟨rfl, h35.below⟩
    ·refine RunsI.fb 41 false hc40 20 ?_
     refine RunsI.g 1 [.blk 0, .c 21] ?_
     refine RunsI.q 2 22 [.c 23] 4 [(1, iA p1), (56, .map (some b10)), (59, .agg #[iA p0, iA p2])] ?_
     rcases of_cond h with ⟨hc41, h⟩ | ⟨hc41, h⟩
     ·refine RegI.o (OpE.lookup (ek := (ekP .i64)) (ev := (fun (v : Value) => v)) (zv := .agg #[iA 0, iA 0, iA 0, iA 0, iA 0, iA 0, iA 0, iA 0]) 60 0 195 193 194 (p0, p2) (.agg (List.flatMap (fun (x : Int) => ([iA x] : List Value)) ([0, 0, 1, 1, 1, 1, 1, 1] : List Int)).toArray) false h35 (by kernel_rfl) rfl (by kernel_rfl) rfl (by kernel_rfl) (KeyOk.pair .i64 (E := 3) (q := .i64) (by kernel_rfl) (by kernel_rfl) (by kernel_rfl)) (fun _ => by kernel_rfl) (by simp only [findK, hc41, cond_true, cond_false, Option.map_some, Option.map_none, Option.getD_some, Option.getD_none, Option.isSome_some, Option.isSome_none]) ?_)
      refine RegI.p 1 [(60, .agg (List.flatMap (fun (x : Int) => ([iA x] : List Value)) ([0, 0, 1, 1, 1, 1, 1, 1] : List Int)).toArray), (61, iA p1)] ?_
      obtain ⟨hc42, h⟩ := of_cond0 h
      refine RegI.o (OpE.run 62 (by kernel_rfl) (run_indexTab (T0 := 194) (en := (fun (x : Int) => ([iA x] : List Value))) (tab := ([0, 0, 1, 1, 1, 1, 1, 1] : List Int)) (len := 8) (sz := 1) (j := p1) (v := iA (rdD ([0, 0, 1, 1, 1, 1, 1, 1] : List Int) p1)) (fun _ => rfl) (by kernel_rfl) (by kernel_rfl) rfl hc42 (fun _ => by kernel_rfl)) ?_)
      refine RegI.pd 1 [(6, iA (rdD ([0, 0, 1, 1, 1, 1, 1, 1] : List Int) p1))] ?_
      refine RunsI.t (iA (rdD ([0, 0, 1, 1, 1, 1, 1, 1] : List Int) p1)) ?_
      obtain rfl := Option.some.inj h
      exact ⟨rfl, h35.below⟩
     ·rcases of_cond h with ⟨hc43, h⟩ | ⟨hc43, h⟩
      ·refine RegI.o (OpE.lookup (ek := (ekP .i64)) (ev := (fun (v : Value) => v)) (zv := .agg #[iA 0, iA 0, iA 0, iA 0, iA 0, iA 0, iA 0, iA 0]) 60 0 195 193 194 (p0, p2) (.agg (List.flatMap (fun (x : Int) => ([iA x] : List Value)) ([0, 0, 0, 0, 2, 2, 2, 2] : List Int)).toArray) false h35 (by kernel_rfl) rfl (by kernel_rfl) rfl (by kernel_rfl) (KeyOk.pair .i64 (E := 3) (q := .i64) (by kernel_rfl) (by kernel_rfl) (by kernel_rfl)) (fun _ => by kernel_rfl) (by simp only [findK, hc41, hc43, cond_true, cond_false, Option.map_some, Option.map_none, Option.getD_some, Option.getD_none, Option.isSome_some, Option.isSome_none]) ?_)
       refine RegI.p 1 [(60, .agg (List.flatMap (fun (x : Int) => ([iA x] : List Value)) ([0, 0, 0, 0, 2, 2, 2, 2] : List Int)).toArray), (61, iA p1)] ?_
       obtain ⟨hc44, h⟩ := of_cond0 h
       refine RegI.o (OpE.run 62 (by kernel_rfl) (run_indexTab (T0 := 194) (en := (fun (x : Int) => ([iA x] : List Value))) (tab := ([0, 0, 0, 0, 2, 2, 2, 2] : List Int)) (len := 8) (sz := 1) (j := p1) (v := iA (rdD ([0, 0, 0, 0, 2, 2, 2, 2] : List Int) p1)) (fun _ => rfl) (by kernel_rfl) (by kernel_rfl) rfl hc44 (fun _ => by kernel_rfl)) ?_)
       refine RegI.pd 1 [(6, iA (rdD ([0, 0, 0, 0, 2, 2, 2, 2] : List Int) p1))] ?_
       refine RunsI.t (iA (rdD ([0, 0, 0, 0, 2, 2, 2, 2] : List Int) p1)) ?_
       obtain rfl := Option.some.inj h
       exact ⟨rfl, h35.below⟩
      ·rcases of_cond h with ⟨hc45, h⟩ | ⟨hc45, h⟩
       ·refine RegI.o (OpE.lookup (ek := (ekP .i64)) (ev := (fun (v : Value) => v)) (zv := .agg #[iA 0, iA 0, iA 0, iA 0, iA 0, iA 0, iA 0, iA 0]) 60 0 195 193 194 (p0, p2) (.agg (List.flatMap (fun (x : Int) => ([iA x] : List Value)) ([1, 1, 1, 1, 1, 1, 1, 1] : List Int)).toArray) false h35 (by kernel_rfl) rfl (by kernel_rfl) rfl (by kernel_rfl) (KeyOk.pair .i64 (E := 3) (q := .i64) (by kernel_rfl) (by kernel_rfl) (by kernel_rfl)) (fun _ => by kernel_rfl) (by simp only [findK, hc41, hc43, hc45, cond_true, cond_false, Option.map_some, Option.map_none, Option.getD_some, Option.getD_none, Option.isSome_some, Option.isSome_none]) ?_)
        refine RegI.p 1 [(60, .agg (List.flatMap (fun (x : Int) => ([iA x] : List Value)) ([1, 1, 1, 1, 1, 1, 1, 1] : List Int)).toArray), (61, iA p1)] ?_
        obtain ⟨hc46, h⟩ := of_cond0 h
        refine RegI.o (OpE.run 62 (by kernel_rfl) (run_indexTab (T0 := 194) (en := (fun (x : Int) => ([iA x] : List Value))) (tab := ([1, 1, 1, 1, 1, 1, 1, 1] : List Int)) (len := 8) (sz := 1) (j := p1) (v := iA (rdD ([1, 1, 1, 1, 1, 1, 1, 1] : List Int) p1)) (fun _ => rfl) (by kernel_rfl) (by kernel_rfl) rfl hc46 (fun _ => by kernel_rfl)) ?_)
        refine RegI.pd 1 [(6, iA (rdD ([1, 1, 1, 1, 1, 1, 1, 1] : List Int) p1))] ?_
        refine RunsI.t (iA (rdD ([1, 1, 1, 1, 1, 1, 1, 1] : List Int) p1)) ?_
        obtain rfl := Option.some.inj h
        exact ⟨rfl, h35.below⟩
       ·rcases of_cond h with ⟨hc47, h⟩ | ⟨hc47, h⟩
        ·refine RegI.o (OpE.lookup (ek := (ekP .i64)) (ev := (fun (v : Value) => v)) (zv := .agg #[iA 0, iA 0, iA 0, iA 0, iA 0, iA 0, iA 0, iA 0]) 60 0 195 193 194 (p0, p2) (.agg (List.flatMap (fun (x : Int) => ([iA x] : List Value)) ([2, 2, 2, 2, 2, 2, 2, 2] : List Int)).toArray) false h35 (by kernel_rfl) rfl (by kernel_rfl) rfl (by kernel_rfl) (KeyOk.pair .i64 (E := 3) (q := .i64) (by kernel_rfl) (by kernel_rfl) (by kernel_rfl)) (fun _ => by kernel_rfl) (by simp only [findK, hc41, hc43, hc45, hc47, cond_true, cond_false, Option.map_some, Option.map_none, Option.getD_some, Option.getD_none, Option.isSome_some, Option.isSome_none]) ?_)
         refine RegI.p 1 [(60, .agg (List.flatMap (fun (x : Int) => ([iA x] : List Value)) ([2, 2, 2, 2, 2, 2, 2, 2] : List Int)).toArray), (61, iA p1)] ?_
         obtain ⟨hc48, h⟩ := of_cond0 h
         refine RegI.o (OpE.run 62 (by kernel_rfl) (run_indexTab (T0 := 194) (en := (fun (x : Int) => ([iA x] : List Value))) (tab := ([2, 2, 2, 2, 2, 2, 2, 2] : List Int)) (len := 8) (sz := 1) (j := p1) (v := iA (rdD ([2, 2, 2, 2, 2, 2, 2, 2] : List Int) p1)) (fun _ => rfl) (by kernel_rfl) (by kernel_rfl) rfl hc48 (fun _ => by kernel_rfl)) ?_)
         refine RegI.pd 1 [(6, iA (rdD ([2, 2, 2, 2, 2, 2, 2, 2] : List Int) p1))] ?_
         refine RunsI.t (iA (rdD ([2, 2, 2, 2, 2, 2, 2, 2] : List Int) p1)) ?_
         obtain rfl := Option.some.inj h
         exact ⟨rfl, h35.below⟩
        ·rcases of_cond h with ⟨hc49, h⟩ | ⟨hc49, h⟩
         ·refine RegI.o (OpE.lookup (ek := (ekP .i64)) (ev := (fun (v : Value) => v)) (zv := .agg #[iA 0, iA 0, iA 0, iA 0, iA 0, iA 0, iA 0, iA 0]) 60 0 195 193 194 (p0, p2) (.agg (List.flatMap (fun (x : Int) => ([iA x] : List Value)) ([2, 0, 1, 1, 0, 0, 0, 0] : List Int)).toArray) false h35 (by kernel_rfl) rfl (by kernel_rfl) rfl (by kernel_rfl) (KeyOk.pair .i64 (E := 3) (q := .i64) (by kernel_rfl) (by kernel_rfl) (by kernel_rfl)) (fun _ => by kernel_rfl) (by simp only [findK, hc41, hc43, hc45, hc47, hc49, cond_true, cond_false, Option.map_some, Option.map_none, Option.getD_some, Option.getD_none, Option.isSome_some, Option.isSome_none]) ?_)
          refine RegI.p 1 [(60, .agg (List.flatMap (fun (x : Int) => ([iA x] : List Value)) ([2, 0, 1, 1, 0, 0, 0, 0] : List Int)).toArray), (61, iA p1)] ?_
          obtain ⟨hc50, h⟩ := of_cond0 h
          refine RegI.o (OpE.run 62 (by kernel_rfl) (run_indexTab (T0 := 194) (en := (fun (x : Int) => ([iA x] : List Value))) (tab := ([2, 0, 1, 1, 0, 0, 0, 0] : List Int)) (len := 8) (sz := 1) (j := p1) (v := iA (rdD ([2, 0, 1, 1, 0, 0, 0, 0] : List Int) p1)) (fun _ => rfl) (by kernel_rfl) (by kernel_rfl) rfl hc50 (fun _ => by kernel_rfl)) ?_)
          refine RegI.pd 1 [(6, iA (rdD ([2, 0, 1, 1, 0, 0, 0, 0] : List Int) p1))] ?_
          refine RunsI.t (iA (rdD ([2, 0, 1, 1, 0, 0, 0, 0] : List Int) p1)) ?_
          obtain rfl := Option.some.inj h
          exact ⟨rfl, h35.below⟩
         ·rcases of_cond h with ⟨hc51, h⟩ | ⟨hc51, h⟩
          ·refine RegI.o (OpE.lookup (ek := (ekP .i64)) (ev := (fun (v : Value) => v)) (zv := .agg #[iA 0, iA 0, iA 0, iA 0, iA 0, iA 0, iA 0, iA 0]) 60 0 195 193 194 (p0, p2) (.agg (List.flatMap (fun (x : Int) => ([iA x] : List Value)) ([2, 2, 2, 2, 2, 2, 2, 2] : List Int)).toArray) false h35 (by kernel_rfl) rfl (by kernel_rfl) rfl (by kernel_rfl) (KeyOk.pair .i64 (E := 3) (q := .i64) (by kernel_rfl) (by kernel_rfl) (by kernel_rfl)) (fun _ => by kernel_rfl) (by simp only [findK, hc41, hc43, hc45, hc47, hc49, hc51, cond_true, cond_false, Option.map_some, Option.map_none, Option.getD_some, Option.getD_none, Option.isSome_some, Option.isSome_none]) ?_)
           refine RegI.p 1 [(60, .agg (List.flatMap (fun (x : Int) => ([iA x] : List Value)) ([2, 2, 2, 2, 2, 2, 2, 2] : List Int)).toArray), (61, iA p1)] ?_
           obtain ⟨hc52, h⟩ := of_cond0 h
           refine RegI.o (OpE.run 62 (by kernel_rfl) (run_indexTab (T0 := 194) (en := (fun (x : Int) => ([iA x] : List Value))) (tab := ([2, 2, 2, 2, 2, 2, 2, 2] : List Int)) (len := 8) (sz := 1) (j := p1) (v := iA (rdD ([2, 2, 2, 2, 2, 2, 2, 2] : List Int) p1)) (fun _ => rfl) (by kernel_rfl) (by kernel_rfl) rfl hc52 (fun _ => by kernel_rfl)) ?_)
           refine RegI.pd 1 [(6, iA (rdD ([2, 2, 2, 2, 2, 2, 2, 2] : List Int) p1))] ?_
           refine RunsI.t (iA (rdD ([2, 2, 2, 2, 2, 2, 2, 2] : List Int) p1)) ?_
           obtain rfl := Option.some.inj h
           exact ⟨rfl, h35.below⟩
          ·rcases of_cond h with ⟨hc53, h⟩ | ⟨hc53, h⟩
           ·refine RegI.o (OpE.lookup (ek := (ekP .i64)) (ev := (fun (v : Value) => v)) (zv := .agg #[iA 0, iA 0, iA 0, iA 0, iA 0, iA 0, iA 0, iA 0]) 60 0 195 193 194 (p0, p2) (.agg (List.flatMap (fun (x : Int) => ([iA x] : List Value)) ([1, 1, 1, 1, 1, 1, 1, 1] : List Int)).toArray) false h35 (by kernel_rfl) rfl (by kernel_rfl) rfl (by kernel_rfl) (KeyOk.pair .i64 (E := 3) (q := .i64) (by kernel_rfl) (by kernel_rfl) (by kernel_rfl)) (fun _ => by kernel_rfl) (by simp only [findK, hc41, hc43, hc45, hc47, hc49, hc51, hc53, cond_true, cond_false, Option.map_some, Option.map_none, Option.getD_some, Option.getD_none, Option.isSome_some, Option.isSome_none]) ?_)
            refine RegI.p 1 [(60, .agg (List.flatMap (fun (x : Int) => ([iA x] : List Value)) ([1, 1, 1, 1, 1, 1, 1, 1] : List Int)).toArray), (61, iA p1)] ?_
            obtain ⟨hc54, h⟩ := of_cond0 h
            refine RegI.o (OpE.run 62 (by kernel_rfl) (run_indexTab (T0 := 194) (en := (fun (x : Int) => ([iA x] : List Value))) (tab := ([1, 1, 1, 1, 1, 1, 1, 1] : List Int)) (len := 8) (sz := 1) (j := p1) (v := iA (rdD ([1, 1, 1, 1, 1, 1, 1, 1] : List Int) p1)) (fun _ => rfl) (by kernel_rfl) (by kernel_rfl) rfl hc54 (fun _ => by kernel_rfl)) ?_)
            refine RegI.pd 1 [(6, iA (rdD ([1, 1, 1, 1, 1, 1, 1, 1] : List Int) p1))] ?_
            refine RunsI.t (iA (rdD ([1, 1, 1, 1, 1, 1, 1, 1] : List Int) p1)) ?_
            obtain rfl := Option.some.inj h
            exact ⟨rfl, h35.below⟩
           ·refine RegI.o (OpE.lookup (ek := (ekP .i64)) (ev := (fun (v : Value) => v)) (zv := .agg #[iA 0, iA 0, iA 0, iA 0, iA 0, iA 0, iA 0, iA 0]) 60 0 195 193 194 (p0, p2) (.agg #[iA 0, iA 0, iA 0, iA 0, iA 0, iA 0, iA 0, iA 0]) false h35 (by kernel_rfl) rfl (by kernel_rfl) rfl (by kernel_rfl) (KeyOk.pair .i64 (E := 3) (q := .i64) (by kernel_rfl) (by kernel_rfl) (by kernel_rfl)) (fun _ => by kernel_rfl) (by simp only [findK, hc41, hc43, hc45, hc47, hc49, hc51, hc53, cond_true, cond_false, Option.map_some, Option.map_none, Option.getD_some, Option.getD_none, Option.isSome_some, Option.isSome_none]) ?_)
            refine RegI.p 1 [(60, .agg #[iA 0, iA 0, iA 0, iA 0, iA 0, iA 0, iA 0, iA 0]), (61, iA p1)] ?_
            obtain ⟨hc55, h⟩ := of_cond0 h
            refine RegI.o (OpE.run 62 (by kernel_rfl) (run_indexTab (T0 := 194) (en := (fun (x : Int) => ([iA x] : List Value))) (tab := ([0, 0, 0, 0, 0, 0, 0, 0] : List Int)) (len := 8) (sz := 1) (j := p1) (v := iA (rdD ([0, 0, 0, 0, 0, 0, 0, 0] : List Int) p1)) (fun _ => rfl) (by kernel_rfl) (by kernel_rfl) rfl hc55 (fun _ => by kernel_rfl)) ?_)
            refine RegI.pd 1 [(6, iA (rdD ([0, 0, 0, 0, 0, 0, 0, 0] : List Int) p1))] ?_
            refine RunsI.t (iA (rdD ([0, 0, 0, 0, 0, 0, 0, 0] : List Int) p1)) ?_
            obtain rfl := Option.some.inj h
            exact ⟨rfl, h35.below⟩
   clear hJ38
   rcases of_cond h with ⟨hc31, h⟩ | ⟨hc31, h⟩
   ·refine RegI.f 44 true hc31 ?_
    refine RegI.p 4 [(0, iA p0), (1, iA p1), (2, iA p2), (7, iA (Int.fdiv p1 (2 ^ 1))), (8, iA (band .i64 p1 1)), (9, .map (some b10)), (48, .bool (p2 == 5))] ?_
    rcases of_cond h with ⟨hc32, h⟩ | ⟨hc32, h⟩
    ·refine RegI.f 48 true hc32 ?_
     refine RegI.p 4 [(0, iA p0), (1, iA p1), (2, iA p2), (7, iA (Int.fdiv p1 (2 ^ 1))), (9, .map (some b10)), (52, .bool ((band .i64 p1 1) == 1))] ?_
     rcases of_cond h with ⟨hc33, h⟩ | ⟨hc33, h⟩
     ·refine RegI.f 52 true hc33 ?_
      refine RegI.p 4 [(0, iA p0), (1, iA p1), (2, iA p2), (9, .map (some b10)), (41, .bool ((Int.fdiv p1 (2 ^ 1)) == 0))] ?_
      refine RegI.l [0, 1, 2, 9, 41] [(0, iA p0), (1, iA p1), (2, iA p2), (9, .map (some b10)), (41, .bool ((Int.fdiv p1 (2 ^ 1)) == 0))] ?_
      exact hj39 ((Int.fdiv p1 (2 ^ 1)) == 0) w26 h (h25.pick [0] (by decide))
     ·refine RegI.f 52 false hc33 ?_
      refine RegI.p 4 [(0, iA p0), (1, iA p1), (2, iA p2), (9, .map (some b10)), (41, .bool false)] ?_
      refine RegI.l [0, 1, 2, 9, 41] [(0, iA p0), (1, iA p1), (2, iA p2), (9, .map (some b10)), (41, .bool false)] ?_
      exact hj39 false w26 h (h25.pick [0] (by decide))
    ·refine RegI.f 48 false hc32 ?_
     refine RegI.p 8 [(0, iA p0), (1, iA p1), (2, iA p2), (9, .map (some b10)), (41, .bool false)] ?_
     refine RegI.l [0, 1, 2, 9, 41] [(0, iA p0), (1, iA p1), (2, iA p2), (9, .map (some b10)), (41, .bool false)] ?_
     exact hj39 false w26 h (h25.pick [0] (by decide))
   ·refine RegI.f 44 false hc31 ?_
    refine RegI.p 12 [(0, iA p0), (1, iA p1), (2, iA p2), (9, .map (some b10)), (41, .bool false)] ?_
    refine RegI.l [0, 1, 2, 9, 41] [(0, iA p0), (1, iA p1), (2, iA p2), (9, .map (some b10)), (41, .bool false)] ?_
    exact hj39 false w26 h (h25.pick [0] (by decide))
 clear hJ28
 rcases of_cond h with ⟨hc22, h⟩ | ⟨hc22, h⟩
 ·refine RegI.f 33 true hc22 ?_
  refine RegI.p 4 [(0, iA p0), (1, iA p1), (2, iA p2), (7, iA (Int.fdiv p1 (2 ^ 1))), (8, iA (band .i64 p1 1)), (9, .map (some b10)), (37, .bool (p2 == 1))] ?_
  rcases of_cond h with ⟨hc23, h⟩ | ⟨hc23, h⟩
  ·refine RegI.f 37 true hc23 ?_
   refine RegI.p 4 [(0, iA p0), (1, iA p1), (2, iA p2), (7, iA (Int.fdiv p1 (2 ^ 1))), (8, iA (band .i64 p1 1)), (9, .map (some b10)), (30, .bool ((band .i64 p1 1) == 0))] ?_
   refine RegI.l [0, 1, 2, 7, 8, 9, 30] [(0, iA p0), (1, iA p1), (2, iA p2), (7, iA (Int.fdiv p1 (2 ^ 1))), (8, iA (band .i64 p1 1)), (9, .map (some b10)), (30, .bool ((band .i64 p1 1) == 0))] ?_
   exact hj29 ((band .i64 p1 1) == 0) w19 h (h21.pick [0] (by decide))
  ·refine RegI.f 37 false hc23 ?_
   refine RegI.p 4 [(0, iA p0), (1, iA p1), (2, iA p2), (7, iA (Int.fdiv p1 (2 ^ 1))), (8, iA (band .i64 p1 1)), (9, .map (some b10)), (30, .bool false)] ?_
   refine RegI.l [0, 1, 2, 7, 8, 9, 30] [(0, iA p0), (1, iA p1), (2, iA p2), (7, iA (Int.fdiv p1 (2 ^ 1))), (8, iA (band .i64 p1 1)), (9, .map (some b10)), (30, .bool false)] ?_
   exact hj29 false w19 h (h21.pick [0] (by decide))
 ·refine RegI.f 33 false hc22 ?_
  refine RegI.p 8 [(0, iA p0), (1, iA p1), (2, iA p2), (7, iA (Int.fdiv p1 (2 ^ 1))), (8, iA (band .i64 p1 1)), (9, .map (some b10)), (30, .bool false)] ?_
  refine RegI.l [0, 1, 2, 7, 8, 9, 30] [(0, iA p0), (1, iA p1), (2, iA p2), (7, iA (Int.fdiv p1 (2 ^ 1))), (8, iA (band .i64 p1 1)), (9, .map (some b10)), (30, .bool false)] ?_
  exact hj29 false w19 h (h21.pick [0] (by decide))
end

/-! ### charabanc/decode.Size (function 124) -/
section
def decode_Size_124.post (M0 : Nat → Prop) (w0 : World) (r : Int) : Ending → World → Prop := fun e w => e = .returned (.int .i64 r) ∧ Below w0.heap.size w0 w
def decode_Size_124.f (K : Nat) (p0 : Int) (p1 : Int) : Option Int := (decode_Fields_24.f K p1).bind fun yt5 => Let (fun (t12 : Bool) => cond t12 ((decode_plain_161.f K yt5.1 yt5.2.1 yt5.2.2.1).bind fun t23 => some t23) (Let (fun (t26 : Bool) => cond t26 (some 2) (some 0)) (fun j29 => cond (p0 == 2) (cond (yt5.1 == 1) (j29 (yt5.2.2.1 == 3)) (j29 false)) (j29 false)))) (fun j15 => cond (p0 == 0) (j15 true) (cond (p0 == 3) (j15 true) (j15 (p0 == 4))))
theorem decode_Size_124_ok (K : Nat) (M0 : Nat → Prop) (w0 : World) (p0 : Int) (p1 : Int) (ho : ∀ b, M0 b → b < w0.heap.size) {r : Int} (h : decode_Size_124.f K p0 p1 = some r) :
  Calls Tryz.prog 124 #[iA p0, iB p1] w0 (decode_Size_124.post M0 w0 r) := by
 unfold decode_Size_124.f at h
 have h0 : Holds M0 w0 w0 [] := Holds.start ho
 have h0 : Holds M0 w0 w0 [] := h0
 refine calls_of F124 rfl [iA p0, iB p1] (by kernel_rfl) ?_
 refine RunsI.q 1 1 [.c 2] 1 [(0, iA p0), (1, iB p1)] ?_
 refine RegI.q 1 3 [.c 4] 1 [(0, iA p0), (11, iB p1)] ?_
 obtain ⟨⟨t5, t6, t7, t8, t9⟩, hg4, h⟩ := of_bind h
 dsimp only at h
 refine RegI.o (OpE.cl 12 24 #[iB p1] ((decode_Fields_24_ok K _ w0  p1 h0.old' hg4).mono ?_))
 rintro _ w1 ⟨rfl, hb2⟩
 refine ⟨_, rfl, ?_⟩
 have h3 := h0.call hb2
 refine RegI.p 11 [(0, iA p0), (5, iA t5), (6, iA t6), (7, iA t7)] ?_
 refine RegI.q 3 7 [.c 8, .blk 0, .c 19] 3 [(0, iA p0), (5, iA t5), (6, iA t6), (7, iA t7), (21, .bool (p0 == 0))] ?_
 obtain ⟨j15, hJ16, h⟩ := of_let h
 have hj17 : ∀ (t12 : Bool) (w14 : World), j15 t12 = some r → Holds M0 w0 w14 [] → RegI F124 7 [.c 8, .blk 0, .c 19] 11 [(0, iA p0), (5, iA t5), (6, iA t6), (7, iA t7), (18, .bool t12)] w14 (decode_Size_124.post M0 w0 r) := by
  intro t12 w14 h h13
  rw [hJ16] at h
  clear hJ16
  dsimp only at h
  refine RegI.d ?_
  rcases of_cond h with ⟨hc18, h⟩ | ⟨hc18, h⟩
  ·refine RunsI.fb 18 true hc18 9 ?_
   refine RunsI.q 1 10 [.c 11, .blk 0, .c 19] 3 [(29, iA t5), (30, iA t6), (31, iA t7)] ?_
   obtain ⟨t23, hg22, h⟩ := of_bind h
   refine RegI.o (OpE.cl 32 161 #[iA t5, iA t6, iA t7] ((decode_plain_161_ok K _ w14  t5 t6 t7 h13.old' hg22).mono ?_))
   rintro _ w19 ⟨rfl, hb20⟩
   refine ⟨_, rfl, ?_⟩
   have h21 := h13.call hb20
   refine RegI.pd 1 [(4, iA t23)] ?_
   refine RunsI.t (iA t23) ?_
   obtain rfl := Option.some.inj h
   exact ⟨rfl, h21.below⟩
  ·refine RunsI.fb 18 false hc18 12 ?_
   refine RunsI.q 1 13 [.c 14, .blk 0, .c 19] 3 [(5, iA t5), (7, iA t7), (36, .bool (p0 == 2))] ?_
   obtain ⟨j29, hJ30, h⟩ := of_let h
   have hj31 : ∀ (t26 : Bool) (w28 : World), j29 t26 = some r → Holds M0 w0 w28 [] → RegI F124 13 [.c 14, .blk 0, .c 19] 11 [(33, .bool t26)] w28 (decode_Size_124.post M0 w0 r) := by
    intro t26 w28 h h27
    rw [hJ30] at h
    clear hJ30
    dsimp only at h
    refine RegI.d ?_
    rcases of_cond h with ⟨hc32, h⟩ | ⟨hc32, h⟩
    ·refine RunsI.fb 33 true hc32 15 ?_
     refine RunsI.qd 1 16 [.c 17, .blk 0, .c 19] 1 [(4, iA 2)] ?_
     refine RunsI.t (iA 2) ?_
     obtain rfl := Option.some.inj h
     exact ⟨rfl, h27.below⟩
    ·refine RunsI.fb 33 false hc32 18 ?_
     refine RunsI.g 1 [.blk 0, .c 19] ?_
     refine RunsI.qd 2 20 [.c 21] 1 [(4, iA 0)] ?_
     refine RunsI.t (iA 0) ?_
     obtain rfl := Option.some.inj h
     exact ⟨rfl, h27.below⟩
   clear hJ30
   rcases of_cond h with ⟨hc24, h⟩ | ⟨hc24, h⟩
   ·refine RegI.f 36 true hc24 ?_
    refine RegI.p 4 [(7, iA t7), (40, .bool (t5 == 1))] ?_
    rcases of_cond h with ⟨hc25, h⟩ | ⟨hc25, h⟩
    ·refine RegI.f 40 true hc25 ?_
     refine RegI.p 4 [(33, .bool (t7 == 3))] ?_
     refine RegI.l [33] [(33, .bool (t7 == 3))] ?_
     exact hj31 (t7 == 3) w14 h (h13.pick [] (by decide))
    ·refine RegI.f 40 false hc25 ?_
     refine RegI.p 4 [(33, .bool false)] ?_
     refine RegI.l [33] [(33, .bool false)] ?_
     exact hj31 false w14 h (h13.pick [] (by decide))
   ·refine RegI.f 36 false hc24 ?_
    refine RegI.p 8 [(33, .bool false)] ?_
    refine RegI.l [33] [(33, .bool false)] ?_
    exact hj31 false w14 h (h13.pick [] (by decide))
 clear hJ16
 rcases of_cond h with ⟨hc10, h⟩ | ⟨hc10, h⟩
 ·refine RegI.f 21 true hc10 ?_
  refine RegI.p 8 [(0, iA p0), (5, iA t5), (6, iA t6), (7, iA t7), (18, .bool true)] ?_
  refine RegI.l [0, 5, 6, 7, 18] [(0, iA p0), (5, iA t5), (6, iA t6), (7, iA t7), (18, .bool true)] ?_
  exact hj17 true w1 h (h3.pick [] (by decide))
 ·refine RegI.f 21 false hc10 ?_
  refine RegI.p 4 [(0, iA p0), (5, iA t5), (6, iA t6), (7, iA t7), (25, .bool (p0 == 3))] ?_
  rcases of_cond h with ⟨hc11, h⟩ | ⟨hc11, h⟩
  ·refine RegI.f 25 true hc11 ?_
   refine RegI.p 4 [(0, iA p0), (5, iA t5), (6, iA t6), (7, iA t7), (18, .bool true)] ?_
   refine RegI.l [0, 5, 6, 7, 18] [(0, iA p0), (5, iA t5), (6, iA t6), (7, iA t7), (18, .bool true)] ?_
   exact hj17 true w1 h (h3.pick [] (by decide))
  ·refine RegI.f 25 false hc11 ?_
   refine RegI.p 4 [(0, iA p0), (5, iA t5), (6, iA t6), (7, iA t7), (18, .bool (p0 == 4))] ?_
   refine RegI.l [0, 5, 6, 7, 18] [(0, iA p0), (5, iA t5), (6, iA t6), (7, iA t7), (18, .bool (p0 == 4))] ?_
   exact hj17 (p0 == 4) w1 h (h3.pick [] (by decide))
end
end Go.Proofs.YtbcepghanbkncaaGreatDoor.LiP
