/- Functions of the program as plain Lean functions, each with the proof that the call comes to it; written by wip/eng.py. -/
import Derived.Test.YtilgjfckgkkfmaaDoorProg
import Derived.Test.YtilgjfckgkkfmaaDoorEngLib
import Derived.Test.YtilgjfckgkkfmaaDoorEngMap
import Derived.Test.YtilgjfckgkkfmaaDoorShelf
set_option linter.unusedVariables false
set_option linter.unusedSimpArgs false
set_option maxHeartbeats 4000000
namespace Go.Proofs.YtilgjfckgkkfmaaDoor.Tex
open Go.RowKit Go.Eng
noncomputable def B25 : Code := (Tryd.f25.body).getD .skip
noncomputable def F25 : Fun Tryd.prog := ⟨25, Tryd.f25, B25, 20, Tryd.func25, by kernel_rfl, by kernel_rfl, [], none⟩
noncomputable def B26 : Code := (Tryd.f26.body).getD .skip
noncomputable def F26 : Fun Tryd.prog := ⟨26, Tryd.f26, B26, 37, Tryd.func26, by kernel_rfl, by kernel_rfl, [], none⟩
noncomputable def B27 : Code := (Tryd.f27.body).getD .skip
noncomputable def F27 : Fun Tryd.prog := ⟨27, Tryd.f27, B27, 83, Tryd.func27, by kernel_rfl, by kernel_rfl, [], none⟩
noncomputable def B28 : Code := (Tryd.f28.body).getD .skip
noncomputable def F28 : Fun Tryd.prog := ⟨28, Tryd.f28, B28, 42, Tryd.func28, by kernel_rfl, by kernel_rfl, [], none⟩
noncomputable def B36 : Code := (Tryd.f36.body).getD .skip
noncomputable def F36 : Fun Tryd.prog := ⟨36, Tryd.f36, B36, 11, Tryd.func36, by kernel_rfl, by kernel_rfl, [], none⟩
noncomputable def B46 : Code := (Tryd.f46.body).getD .skip
noncomputable def F46 : Fun Tryd.prog := ⟨46, Tryd.f46, B46, 26, Tryd.func46, by kernel_rfl, by kernel_rfl, [], none⟩
noncomputable def B47 : Code := (Tryd.f47.body).getD .skip
noncomputable def F47 : Fun Tryd.prog := ⟨47, Tryd.f47, B47, 26, Tryd.func47, by kernel_rfl, by kernel_rfl, [], none⟩
noncomputable def B48 : Code := (Tryd.f48.body).getD .skip
noncomputable def F48 : Fun Tryd.prog := ⟨48, Tryd.f48, B48, 31, Tryd.func48, by kernel_rfl, by kernel_rfl, [], none⟩
noncomputable def B49 : Code := (Tryd.f49.body).getD .skip
noncomputable def F49 : Fun Tryd.prog := ⟨49, Tryd.f49, B49, 13, Tryd.func49, by kernel_rfl, by kernel_rfl, [], none⟩
noncomputable def B50 : Code := (Tryd.f50.body).getD .skip
noncomputable def F50 : Fun Tryd.prog := ⟨50, Tryd.f50, B50, 21, Tryd.func50, by kernel_rfl, by kernel_rfl, [], none⟩
noncomputable def B51 : Code := (Tryd.f51.body).getD .skip
noncomputable def F51 : Fun Tryd.prog := ⟨51, Tryd.f51, B51, 96, Tryd.func51, by kernel_rfl, by kernel_rfl, [], none⟩
noncomputable def B52 : Code := (Tryd.f52.body).getD .skip
noncomputable def F52 : Fun Tryd.prog := ⟨52, Tryd.f52, B52, 22, Tryd.func52, by kernel_rfl, by kernel_rfl, [], none⟩
noncomputable def B53 : Code := (Tryd.f53.body).getD .skip
noncomputable def F53 : Fun Tryd.prog := ⟨53, Tryd.f53, B53, 12, Tryd.func53, by kernel_rfl, by kernel_rfl, [], none⟩
noncomputable def B54 : Code := (Tryd.f54.body).getD .skip
noncomputable def F54 : Fun Tryd.prog := ⟨54, Tryd.f54, B54, 107, Tryd.func54, by kernel_rfl, by kernel_rfl, [], none⟩
noncomputable def B55 : Code := (Tryd.f55.body).getD .skip
noncomputable def F55 : Fun Tryd.prog := ⟨55, Tryd.f55, B55, 120, Tryd.func55, by kernel_rfl, by kernel_rfl, [], none⟩
noncomputable def B56 : Code := (Tryd.f56.body).getD .skip
noncomputable def F56 : Fun Tryd.prog := ⟨56, Tryd.f56, B56, 54, Tryd.func56, by kernel_rfl, by kernel_rfl, [], none⟩
noncomputable def B57 : Code := (Tryd.f57.body).getD .skip
noncomputable def F57 : Fun Tryd.prog := ⟨57, Tryd.f57, B57, 23, Tryd.func57, by kernel_rfl, by kernel_rfl, [], none⟩
noncomputable def B58 : Code := (Tryd.f58.body).getD .skip
noncomputable def F58 : Fun Tryd.prog := ⟨58, Tryd.f58, B58, 52, Tryd.func58, by kernel_rfl, by kernel_rfl, [], none⟩
noncomputable def B59 : Code := (Tryd.f59.body).getD .skip
noncomputable def F59 : Fun Tryd.prog := ⟨59, Tryd.f59, B59, 108, Tryd.func59, by kernel_rfl, by kernel_rfl, [], none⟩
noncomputable def B60 : Code := (Tryd.f60.body).getD .skip
noncomputable def F60 : Fun Tryd.prog := ⟨60, Tryd.f60, B60, 120, Tryd.func60, by kernel_rfl, by kernel_rfl, [], none⟩
noncomputable def B61 : Code := (Tryd.f61.body).getD .skip
noncomputable def F61 : Fun Tryd.prog := ⟨61, Tryd.f61, B61, 51, Tryd.func61, by kernel_rfl, by kernel_rfl, [], none⟩
noncomputable def B62 : Code := (Tryd.f62.body).getD .skip
noncomputable def F62 : Fun Tryd.prog := ⟨62, Tryd.f62, B62, 2, Tryd.func62, by kernel_rfl, by kernel_rfl, [], none⟩
noncomputable def B63 : Code := (Tryd.f63.body).getD .skip
noncomputable def F63 : Fun Tryd.prog := ⟨63, Tryd.f63, B63, 106, Tryd.func63, by kernel_rfl, by kernel_rfl, [], none⟩
noncomputable def B66 : Code := (Tryd.f66.body).getD .skip
noncomputable def F66 : Fun Tryd.prog := ⟨66, Tryd.f66, B66, 5, Tryd.func66, by kernel_rfl, by kernel_rfl, [], none⟩
noncomputable def B79 : Code := (Tryd.f79.body).getD .skip
noncomputable def F79 : Fun Tryd.prog := ⟨79, Tryd.f79, B79, 22, Tryd.func79, by kernel_rfl, by kernel_rfl, [], none⟩
noncomputable def B80 : Code := (Tryd.f80.body).getD .skip
noncomputable def F80 : Fun Tryd.prog := ⟨80, Tryd.f80, B80, 8, Tryd.func80, by kernel_rfl, by kernel_rfl, [], none⟩
noncomputable def B82 : Code := (Tryd.f82.body).getD .skip
noncomputable def F82 : Fun Tryd.prog := ⟨82, Tryd.f82, B82, 9, Tryd.func82, by kernel_rfl, by kernel_rfl, [], none⟩
noncomputable def B83 : Code := (Tryd.f83.body).getD .skip
noncomputable def F83 : Fun Tryd.prog := ⟨83, Tryd.f83, B83, 10, Tryd.func83, by kernel_rfl, by kernel_rfl, [], none⟩
noncomputable def B84 : Code := (Tryd.f84.body).getD .skip
noncomputable def F84 : Fun Tryd.prog := ⟨84, Tryd.f84, B84, 6, Tryd.func84, by kernel_rfl, by kernel_rfl, [], none⟩
noncomputable def B85 : Code := (Tryd.f85.body).getD .skip
noncomputable def F85 : Fun Tryd.prog := ⟨85, Tryd.f85, B85, 24, Tryd.func85, by kernel_rfl, by kernel_rfl, [], none⟩
noncomputable def B86 : Code := (Tryd.f86.body).getD .skip
noncomputable def F86 : Fun Tryd.prog := ⟨86, Tryd.f86, B86, 11, Tryd.func86, by kernel_rfl, by kernel_rfl, [], none⟩
noncomputable def B87 : Code := (Tryd.f87.body).getD .skip
noncomputable def F87 : Fun Tryd.prog := ⟨87, Tryd.f87, B87, 5, Tryd.func87, by kernel_rfl, by kernel_rfl, [], none⟩
noncomputable def B88 : Code := (Tryd.f88.body).getD .skip
noncomputable def F88 : Fun Tryd.prog := ⟨88, Tryd.f88, B88, 29, Tryd.func88, by kernel_rfl, by kernel_rfl, [], none⟩
noncomputable def B89 : Code := (Tryd.f89.body).getD .skip
noncomputable def F89 : Fun Tryd.prog := ⟨89, Tryd.f89, B89, 8, Tryd.func89, by kernel_rfl, by kernel_rfl, [], none⟩
noncomputable def B90 : Code := (Tryd.f90.body).getD .skip
noncomputable def F90 : Fun Tryd.prog := ⟨90, Tryd.f90, B90, 29, Tryd.func90, by kernel_rfl, by kernel_rfl, [], none⟩
noncomputable def B91 : Code := (Tryd.f91.body).getD .skip
noncomputable def F91 : Fun Tryd.prog := ⟨91, Tryd.f91, B91, 47, Tryd.func91, by kernel_rfl, by kernel_rfl, [], none⟩
noncomputable def B92 : Code := (Tryd.f92.body).getD .skip
noncomputable def F92 : Fun Tryd.prog := ⟨92, Tryd.f92, B92, 9, Tryd.func92, by kernel_rfl, by kernel_rfl, [], none⟩
noncomputable def B94 : Code := (Tryd.f94.body).getD .skip
noncomputable def F94 : Fun Tryd.prog := ⟨94, Tryd.f94, B94, 13, Tryd.func94, by kernel_rfl, by kernel_rfl, [], none⟩
noncomputable def B95 : Code := (Tryd.f95.body).getD .skip
noncomputable def F95 : Fun Tryd.prog := ⟨95, Tryd.f95, B95, 2, Tryd.func95, by kernel_rfl, by kernel_rfl, [], none⟩
noncomputable def B96 : Code := (Tryd.f96.body).getD .skip
noncomputable def F96 : Fun Tryd.prog := ⟨96, Tryd.f96, B96, 36, Tryd.func96, by kernel_rfl, by kernel_rfl, [], none⟩
noncomputable def B97 : Code := (Tryd.f97.body).getD .skip
noncomputable def F97 : Fun Tryd.prog := ⟨97, Tryd.f97, B97, 25, Tryd.func97, by kernel_rfl, by kernel_rfl, [], none⟩
noncomputable def B98 : Code := (Tryd.f98.body).getD .skip
noncomputable def F98 : Fun Tryd.prog := ⟨98, Tryd.f98, B98, 7, Tryd.func98, by kernel_rfl, by kernel_rfl, [], none⟩
noncomputable def B99 : Code := (Tryd.f99.body).getD .skip
noncomputable def F99 : Fun Tryd.prog := ⟨99, Tryd.f99, B99, 11, Tryd.func99, by kernel_rfl, by kernel_rfl, [], none⟩
noncomputable def B100 : Code := (Tryd.f100.body).getD .skip
noncomputable def F100 : Fun Tryd.prog := ⟨100, Tryd.f100, B100, 2, Tryd.func100, by kernel_rfl, by kernel_rfl, [], none⟩
noncomputable def B101 : Code := (Tryd.f101.body).getD .skip
noncomputable def F101 : Fun Tryd.prog := ⟨101, Tryd.f101, B101, 8, Tryd.func101, by kernel_rfl, by kernel_rfl, [], none⟩
noncomputable def B102 : Code := (Tryd.f102.body).getD .skip
noncomputable def F102 : Fun Tryd.prog := ⟨102, Tryd.f102, B102, 11, Tryd.func102, by kernel_rfl, by kernel_rfl, [], none⟩
noncomputable def B103 : Code := (Tryd.f103.body).getD .skip
noncomputable def F103 : Fun Tryd.prog := ⟨103, Tryd.f103, B103, 49, Tryd.func103, by kernel_rfl, by kernel_rfl, [], none⟩
noncomputable def B104 : Code := (Tryd.f104.body).getD .skip
noncomputable def F104 : Fun Tryd.prog := ⟨104, Tryd.f104, B104, 9, Tryd.func104, by kernel_rfl, by kernel_rfl, [], none⟩
noncomputable def B105 : Code := (Tryd.f105.body).getD .skip
noncomputable def F105 : Fun Tryd.prog := ⟨105, Tryd.f105, B105, 24, Tryd.func105, by kernel_rfl, by kernel_rfl, [], none⟩
noncomputable def B113 : Code := (Tryd.f113.body).getD .skip
noncomputable def F113 : Fun Tryd.prog := ⟨113, Tryd.f113, B113, 4, Tryd.func113, by kernel_rfl, by kernel_rfl, [], none⟩
noncomputable def B114 : Code := (Tryd.f114.body).getD .skip
noncomputable def F114 : Fun Tryd.prog := ⟨114, Tryd.f114, B114, 54, Tryd.func114, by kernel_rfl, by kernel_rfl, [], none⟩
noncomputable def B119 : Code := (Tryd.f119.body).getD .skip
noncomputable def F119 : Fun Tryd.prog := ⟨119, Tryd.f119, B119, 13, Tryd.func119, by kernel_rfl, by kernel_rfl, [], none⟩
noncomputable def B120 : Code := (Tryd.f120.body).getD .skip
noncomputable def F120 : Fun Tryd.prog := ⟨120, Tryd.f120, B120, 63, Tryd.func120, by kernel_rfl, by kernel_rfl, [], none⟩
noncomputable def B122 : Code := (Tryd.f122.body).getD .skip
noncomputable def F122 : Fun Tryd.prog := ⟨122, Tryd.f122, B122, 12, Tryd.func122, by kernel_rfl, by kernel_rfl, [], none⟩
noncomputable def B123 : Code := (Tryd.f123.body).getD .skip
noncomputable def F123 : Fun Tryd.prog := ⟨123, Tryd.f123, B123, 10, Tryd.func123, by kernel_rfl, by kernel_rfl, [], none⟩
noncomputable def B132 : Code := (Tryd.f132.body).getD .skip
noncomputable def F132 : Fun Tryd.prog := ⟨132, Tryd.f132, B132, 22, Tryd.func132, by kernel_rfl, by kernel_rfl, [], none⟩
noncomputable def B133 : Code := (Tryd.f133.body).getD .skip
noncomputable def F133 : Fun Tryd.prog := ⟨133, Tryd.f133, B133, 98, Tryd.func133, by kernel_rfl, by kernel_rfl, [], none⟩
noncomputable def B134 : Code := (Tryd.f134.body).getD .skip
noncomputable def F134 : Fun Tryd.prog := ⟨134, Tryd.f134, B134, 15, Tryd.func134, by kernel_rfl, by kernel_rfl, [], none⟩
noncomputable def B137 : Code := (Tryd.f137.body).getD .skip
noncomputable def F137 : Fun Tryd.prog := ⟨137, Tryd.f137, B137, 102, Tryd.func137, by kernel_rfl, by kernel_rfl, [], none⟩
noncomputable def B148 : Code := (Tryd.f148.body).getD .skip
noncomputable def F148 : Fun Tryd.prog := ⟨148, Tryd.f148, B148, 4, Tryd.func148, by kernel_rfl, by kernel_rfl, [], none⟩
noncomputable def B149 : Code := (Tryd.f149.body).getD .skip
noncomputable def F149 : Fun Tryd.prog := ⟨149, Tryd.f149, B149, 24, Tryd.func149, by kernel_rfl, by kernel_rfl, [], none⟩
noncomputable def B150 : Code := (Tryd.f150.body).getD .skip
noncomputable def F150 : Fun Tryd.prog := ⟨150, Tryd.f150, B150, 31, Tryd.func150, by kernel_rfl, by kernel_rfl, [], none⟩
noncomputable def B151 : Code := (Tryd.f151.body).getD .skip
noncomputable def F151 : Fun Tryd.prog := ⟨151, Tryd.f151, B151, 20, Tryd.func151, by kernel_rfl, by kernel_rfl, [], none⟩
noncomputable def B152 : Code := (Tryd.f152.body).getD .skip
noncomputable def F152 : Fun Tryd.prog := ⟨152, Tryd.f152, B152, 44, Tryd.func152, by kernel_rfl, by kernel_rfl, [], none⟩
noncomputable def B153 : Code := (Tryd.f153.body).getD .skip
noncomputable def F153 : Fun Tryd.prog := ⟨153, Tryd.f153, B153, 6, Tryd.func153, by kernel_rfl, by kernel_rfl, [], none⟩
noncomputable def B154 : Code := (Tryd.f154.body).getD .skip
noncomputable def F154 : Fun Tryd.prog := ⟨154, Tryd.f154, B154, 25, Tryd.func154, by kernel_rfl, by kernel_rfl, [], none⟩
noncomputable def B155 : Code := (Tryd.f155.body).getD .skip
noncomputable def F155 : Fun Tryd.prog := ⟨155, Tryd.f155, B155, 4, Tryd.func155, by kernel_rfl, by kernel_rfl, [], none⟩
noncomputable def B156 : Code := (Tryd.f156.body).getD .skip
noncomputable def F156 : Fun Tryd.prog := ⟨156, Tryd.f156, B156, 8, Tryd.func156, by kernel_rfl, by kernel_rfl, [], none⟩
noncomputable def B157 : Code := (Tryd.f157.body).getD .skip
noncomputable def F157 : Fun Tryd.prog := ⟨157, Tryd.f157, B157, 8, Tryd.func157, by kernel_rfl, by kernel_rfl, [], none⟩
noncomputable def B169 : Code := (Tryd.f169.body).getD .skip
noncomputable def F169 : Fun Tryd.prog := ⟨169, Tryd.f169, B169, 13, Tryd.func169, by kernel_rfl, by kernel_rfl, [], none⟩
noncomputable def B170 : Code := (Tryd.f170.body).getD .skip
noncomputable def F170 : Fun Tryd.prog := ⟨170, Tryd.f170, B170, 63, Tryd.func170, by kernel_rfl, by kernel_rfl, [], none⟩
noncomputable def B172 : Code := (Tryd.f172.body).getD .skip
noncomputable def F172 : Fun Tryd.prog := ⟨172, Tryd.f172, B172, 14, Tryd.func172, by kernel_rfl, by kernel_rfl, [], none⟩
def tab_0 : List ByteArray := [(⟨#[110, 122]⟩ : ByteArray), (⟨#[122]⟩ : ByteArray), (⟨#[110, 99]⟩ : ByteArray), (⟨#[99]⟩ : ByteArray), (⟨#[112, 111]⟩ : ByteArray), (⟨#[112, 101]⟩ : ByteArray), (⟨#[112]⟩ : ByteArray), (⟨#[109]⟩ : ByteArray)]
def en_0 : ByteArray → List Value := fun x => [.string x]
def tab_1 : List ByteArray := [(⟨#[114, 108, 99, 97]⟩ : ByteArray), (⟨#[114, 114, 99, 97]⟩ : ByteArray), (⟨#[114, 108, 97]⟩ : ByteArray), (⟨#[114, 114, 97]⟩ : ByteArray), (⟨#[100, 97, 97]⟩ : ByteArray), (⟨#[99, 112, 108]⟩ : ByteArray), (⟨#[115, 99, 102]⟩ : ByteArray), (⟨#[99, 99, 102]⟩ : ByteArray)]
def en_1 : ByteArray → List Value := fun x => [.string x]
def tab_2 : List ByteArray := [(⟨#[97, 100, 100, 32, 97, 44]⟩ : ByteArray), (⟨#[97, 100, 99, 32, 97, 44]⟩ : ByteArray), (⟨#[115, 117, 98, 32]⟩ : ByteArray), (⟨#[115, 98, 99, 32, 97, 44]⟩ : ByteArray), (⟨#[97, 110, 100, 32]⟩ : ByteArray), (⟨#[120, 111, 114, 32]⟩ : ByteArray), (⟨#[111, 114, 32]⟩ : ByteArray), (⟨#[99, 112, 32]⟩ : ByteArray)]
def en_2 : ByteArray → List Value := fun x => [.string x]
def tab_3 : List ByteArray := [(⟨#[105]⟩ : ByteArray), (⟨#[100]⟩ : ByteArray), (⟨#[105, 114]⟩ : ByteArray), (⟨#[100, 114]⟩ : ByteArray)]
def en_3 : ByteArray → List Value := fun x => [.string x]
def tab_4 : List ByteArray := [(⟨#[108, 100]⟩ : ByteArray), (⟨#[99, 112]⟩ : ByteArray), (⟨#[105, 110]⟩ : ByteArray), (⟨#[111, 116]⟩ : ByteArray)]
def en_4 : ByteArray → List Value := fun x => [.string x]
def tab_5 : List ByteArray := [(⟨#[98]⟩ : ByteArray), (⟨#[99]⟩ : ByteArray), (⟨#[100]⟩ : ByteArray), (⟨#[101]⟩ : ByteArray), (⟨#[104]⟩ : ByteArray), (⟨#[108]⟩ : ByteArray), (⟨#[40, 104, 108, 41]⟩ : ByteArray), (⟨#[97]⟩ : ByteArray)]
def en_5 : ByteArray → List Value := fun x => [.string x]
def tab_6 : List ByteArray := [(⟨#[98, 99]⟩ : ByteArray), (⟨#[100, 101]⟩ : ByteArray), (⟨#[104, 108]⟩ : ByteArray), (⟨#[115, 112]⟩ : ByteArray), (⟨#[97, 102]⟩ : ByteArray)]
def en_6 : ByteArray → List Value := fun x => [.string x]
def tab_7 : List ByteArray := [(⟨#[105, 109, 32, 48]⟩ : ByteArray), (⟨#[105, 109, 32, 48]⟩ : ByteArray), (⟨#[105, 109, 32, 49]⟩ : ByteArray), (⟨#[105, 109, 32, 50]⟩ : ByteArray)]
def en_7 : ByteArray → List Value := fun x => [.string x]
def tab_8 : List ByteArray := [(⟨#[108, 100, 32, 105, 44, 97]⟩ : ByteArray), (⟨#[108, 100, 32, 114, 44, 97]⟩ : ByteArray), (⟨#[108, 100, 32, 97, 44, 105]⟩ : ByteArray), (⟨#[108, 100, 32, 97, 44, 114]⟩ : ByteArray), (⟨#[114, 114, 100]⟩ : ByteArray), (⟨#[114, 108, 100]⟩ : ByteArray), (⟨#[110, 111, 112, 42]⟩ : ByteArray), (⟨#[110, 111, 112, 42]⟩ : ByteArray)]
def en_8 : ByteArray → List Value := fun x => [.string x]
def tab_9 : List ByteArray := [(⟨#[114, 108, 99, 32]⟩ : ByteArray), (⟨#[114, 114, 99, 32]⟩ : ByteArray), (⟨#[114, 108, 32]⟩ : ByteArray), (⟨#[114, 114, 32]⟩ : ByteArray), (⟨#[115, 108, 97, 32]⟩ : ByteArray), (⟨#[115, 114, 97, 32]⟩ : ByteArray), (⟨#[115, 108, 108, 32]⟩ : ByteArray), (⟨#[115, 114, 108, 32]⟩ : ByteArray)]
def en_9 : ByteArray → List Value := fun x => [.string x]
def tab_10 : List ByteArray := [(⟨#[]⟩ : ByteArray), (⟨#[98, 105, 116, 32]⟩ : ByteArray), (⟨#[114, 101, 115, 32]⟩ : ByteArray), (⟨#[115, 101, 116, 32]⟩ : ByteArray)]
def en_10 : ByteArray → List Value := fun x => [.string x]
def tab_12 : List Int := [1, 10, 100, 1000, 10000, 100000, 1000000, 10000000, 100000000, 1000000000, 10000000000, 100000000000, 1000000000000, 10000000000000, 100000000000000, 1000000000000000, 10000000000000000, 100000000000000000, 1000000000000000000, 10000000000000000000]
def en_12 : Int → List Value := fun x => [.int .u64 x]
def tab_15 : List Int := [0, 1, 28, 2, 29, 14, 24, 3, 30, 22, 20, 15, 25, 17, 4, 8, 31, 27, 13, 23, 21, 19, 16, 7, 26, 12, 18, 6, 11, 5, 10, 9]
def en_15 : Int → List Value := fun x => [.int .u8 x]
def tab_16 : List Int := [0, 1, 56, 2, 57, 49, 28, 3, 61, 58, 42, 50, 38, 29, 17, 4, 62, 47, 59, 36, 45, 43, 51, 22, 53, 39, 33, 30, 24, 18, 12, 5, 63, 55, 48, 27, 60, 41, 37, 16, 46, 35, 44, 21, 52, 32, 23, 11, 54, 26, 40, 15, 34, 20, 31, 10, 25, 14, 19, 9, 13, 8, 7, 6]
def en_16 : Int → List Value := fun x => [.int .u8 x]

/-! ### charabanc/decode.Fields (function 85) -/
section
def decode_Fields_85.post (M0 : Nat → Prop) (w0 : World) (r : Int × Int × Int × Int × Int) : Ending → World → Prop := fun e w => e = .returned (.tuple #[.int .i64 r.1, .int .i64 r.2.1, .int .i64 r.2.2.1, .int .i64 r.2.2.2.1, .int .i64 r.2.2.2.2]) ∧ Below w0.heap.size w0 w
def decode_Fields_85.f (K : Nat) (p0 : Int) : Option (Int × Int × Int × Int × Int) := some ((IntKind.wrap .i64 (Int.fdiv p0 (2 ^ 6))), (IntKind.wrap .i64 (band .u8 (Int.fdiv p0 (2 ^ 3)) 7)), (IntKind.wrap .i64 (band .u8 p0 7)), (Int.fdiv (IntKind.wrap .i64 (band .u8 (Int.fdiv p0 (2 ^ 3)) 7)) (2 ^ 1)), (band .i64 (IntKind.wrap .i64 (band .u8 (Int.fdiv p0 (2 ^ 3)) 7)) 1))
set_option maxRecDepth 100000 in
theorem decode_Fields_85_ok (K : Nat) (M0 : Nat → Prop) (w0 : World) (p0 : Int) (ho : ∀ b, M0 b → b < w0.heap.size) {r : Int × Int × Int × Int × Int} (h : decode_Fields_85.f K p0 = some r) :
  Calls Tryd.prog 85 #[.int .u8 p0] w0 (decode_Fields_85.post M0 w0 r) := by
 unfold decode_Fields_85.f at h
 have h0 : Holds M0 w0 w0 [] := Holds.start ho
 have h0 : Holds M0 w0 w0 [] := h0
 refine calls_of F85 rfl [.int .u8 p0] (by kernel_rfl) ?_
 refine RunsI.g 1 [.c 1, .c 2] ?_
 refine RunsI.r ?_
 refine RegI.p 5 [(0, .int .u8 p0)] ?_
 refine RegI.d ?_
 refine RunsI.g 1 [.c 3, .c 4] ?_
 refine RunsI.r ?_
 refine RegI.p 13 [(2, .int .i64 (IntKind.wrap .i64 (Int.fdiv p0 (2 ^ 6)))), (3, .int .i64 (IntKind.wrap .i64 (band .u8 (Int.fdiv p0 (2 ^ 3)) 7))), (4, .int .i64 (IntKind.wrap .i64 (band .u8 p0 7)))] ?_
 refine RegI.d ?_
 refine RunsI.g 1 [.c 5, .c 6] ?_
 refine RunsI.r ?_
 refine RegI.p 12 [(2, .int .i64 (IntKind.wrap .i64 (Int.fdiv p0 (2 ^ 6)))), (3, .int .i64 (IntKind.wrap .i64 (band .u8 (Int.fdiv p0 (2 ^ 3)) 7))), (4, .int .i64 (IntKind.wrap .i64 (band .u8 p0 7))), (5, .int .i64 (Int.fdiv (IntKind.wrap .i64 (band .u8 (Int.fdiv p0 (2 ^ 3)) 7)) (2 ^ 1))), (6, .int .i64 (band .i64 (IntKind.wrap .i64 (band .u8 (Int.fdiv p0 (2 ^ 3)) 7)) 1))] ?_
 refine RegI.d ?_
 refine RunsI.t (.tuple #[.int .i64 (IntKind.wrap .i64 (Int.fdiv p0 (2 ^ 6))), .int .i64 (IntKind.wrap .i64 (band .u8 (Int.fdiv p0 (2 ^ 3)) 7)), .int .i64 (IntKind.wrap .i64 (band .u8 p0 7)), .int .i64 (Int.fdiv (IntKind.wrap .i64 (band .u8 (Int.fdiv p0 (2 ^ 3)) 7)) (2 ^ 1)), .int .i64 (band .i64 (IntKind.wrap .i64 (band .u8 (Int.fdiv p0 (2 ^ 3)) 7)) 1)]) ?_
 obtain rfl := Option.some.inj h
 exact ⟨rfl, h0.below⟩
end

/-! ### charabanc/text.of (function 50) -/
section
def text_of_50.post (M0 : Nat → Prop) (w0 : World) (r : Int × Int × Int × Int × Int × Int × Int × Int × Int × Int × Int) : Ending → World → Prop := fun e w => e = .returned (.agg #[.int .i64 r.1, .int .u8 r.2.1, .int .u8 r.2.2.1, .int .u16 r.2.2.2.1, .int .i64 r.2.2.2.2.1, .int .i64 r.2.2.2.2.2.1, .int .i64 r.2.2.2.2.2.2.1, .int .i64 r.2.2.2.2.2.2.2.1, .int .i64 r.2.2.2.2.2.2.2.2.1, .int .i64 r.2.2.2.2.2.2.2.2.2.1, .int .i64 r.2.2.2.2.2.2.2.2.2.2]) ∧ Below w0.heap.size w0 w
def text_of_50.f (K : Nat) (p0_0 : Int) (p0_1 : Int) (p0_2 : Int) (p0_3 : Int) (p0_4 : Int) (p0_5 : Int) : Option (Int × Int × Int × Int × Int × Int × Int × Int × Int × Int × Int) := (decode_Fields_85.f K p0_1).bind fun yt23 => some (p0_0, p0_1, p0_2, p0_3, p0_4, p0_5, yt23.1, yt23.2.1, yt23.2.2.1, yt23.2.2.2.1, yt23.2.2.2.2)
set_option maxRecDepth 100000 in
theorem text_of_50_ok (K : Nat) (M0 : Nat → Prop) (w0 : World) (p0_0 : Int) (p0_1 : Int) (p0_2 : Int) (p0_3 : Int) (p0_4 : Int) (p0_5 : Int) (ho : ∀ b, M0 b → b < w0.heap.size) {r : Int × Int × Int × Int × Int × Int × Int × Int × Int × Int × Int} (h : text_of_50.f K p0_0 p0_1 p0_2 p0_3 p0_4 p0_5 = some r) :
  Calls Tryd.prog 50 #[.agg #[.int .i64 p0_0, .int .u8 p0_1, .int .u8 p0_2, .int .u16 p0_3, .int .i64 p0_4, .int .i64 p0_5]] w0 (text_of_50.post M0 w0 r) := by
 unfold text_of_50.f at h
 have h0 : Holds M0 w0 w0 [] := Holds.start ho
 have h0 : Holds M0 w0 w0 [] := h0
 refine calls_of F50 rfl [.agg #[.int .i64 p0_0, .int .u8 p0_1, .int .u8 p0_2, .int .u16 p0_3, .int .i64 p0_4, .int .i64 p0_5]] (by kernel_rfl) ?_
 refine RunsI.g 1 [.c 1, .c 2] ?_
 refine RunsI.r ?_
 refine RegI.o (OpE.box 1 51 [.int .i64 p0_0, .int .u8 p0_1, .int .u8 p0_2, .int .u16 p0_3, .int .i64 p0_4, .int .i64 p0_5] h0 (by kernel_rfl) (by kernel_rfl) ?_)
 intro w1 b2 h3 hb4 hn5
 refine RegI.o (OpE.box 2 92 [.int .i64 0, .int .u8 0, .int .u8 0, .int .u16 0, .int .i64 0, .int .i64 0, .int .i64 0, .int .i64 0, .int .i64 0, .int .i64 0, .int .i64 0] h3 (by kernel_rfl) (by kernel_rfl) ?_)
 intro w6 b7 h8 hb9 hn10
 refine RegI.d ?_
 refine RunsI.g 1 [.c 3, .c 4] ?_
 refine RunsI.r ?_
 refine RegI.o (OpE.loadBox 4 0 51 b2 0 (.agg #[.int .i64 p0_0, .int .u8 p0_1, .int .u8 p0_2, .int .u16 p0_3, .int .i64 p0_4, .int .i64 p0_5]) h8 (by kernel_rfl) (by kernel_rfl) rfl (by kernel_rfl) ?_)
 refine RegI.p 1 [(1, .pointer (some ⟨b2, 0, none⟩)), (2, .pointer (some ⟨b7, 0, none⟩)), (5, .agg #[.int .i64 p0_0, .int .u8 p0_1, .int .u8 p0_2, .int .u16 p0_3, .int .i64 p0_4, .int .i64 p0_5, .int .i64 0, .int .i64 0, .int .i64 0, .int .i64 0, .int .i64 0])] ?_
 refine RegI.o (OpE.box 3 92 [.int .i64 0, .int .u8 0, .int .u8 0, .int .u16 0, .int .i64 0, .int .i64 0, .int .i64 0, .int .i64 0, .int .i64 0, .int .i64 0, .int .i64 0] h8 (by kernel_rfl) (by kernel_rfl) ?_)
 intro w11 b12 h13 hb14 hn15
 refine RegI.o (OpE.storeBox 2 92 b12 0 (.agg #[.int .i64 p0_0, .int .u8 p0_1, .int .u8 p0_2, .int .u16 p0_3, .int .i64 p0_4, .int .i64 p0_5, .int .i64 0, .int .i64 0, .int .i64 0, .int .i64 0, .int .i64 0]) [.int .i64 p0_0, .int .u8 p0_1, .int .u8 p0_2, .int .u16 p0_3, .int .i64 p0_4, .int .i64 p0_5, .int .i64 0, .int .i64 0, .int .i64 0, .int .i64 0, .int .i64 0] h13 (by kernel_rfl) (by kernel_rfl) rfl (by kernel_rfl) (by kernel_rfl) (by kernel_rfl) ?_)
 intro w16 h17 hk18
 refine RegI.d ?_
 refine RunsI.g 1 [.c 5, .c 6] ?_
 refine RunsI.r ?_
 refine RegI.p 1 [(2, .pointer (some ⟨b7, 0, none⟩)), (3, .pointer (some ⟨b12, 0, none⟩)), (7, .pointer (some ⟨b2, 1, none⟩))] ?_
 refine RegI.o (OpE.loadBox 8 0 5 b2 1 (.int .u8 p0_1) h17 (by kernel_rfl) (by kernel_rfl) rfl (by kernel_rfl) ?_)
 obtain ⟨⟨t23, t24, t25, t26, t27⟩, hg22, h⟩ := of_bind h
 dsimp only at h
 refine RegI.o (OpE.call 9 (by kernel_rfl) 85 #[.int .u8 p0_1] (by kernel_rfl) ((decode_Fields_85_ok K _ w16  p0_1 h17.old' hg22).mono ?_))
 rintro _ w19 ⟨rfl, hb20⟩
 refine ⟨_, rfl, ?_⟩
 have h21 := h17.call hb20
 refine RegI.p 7 [(2, .pointer (some ⟨b7, 0, none⟩)), (3, .pointer (some ⟨b12, 0, none⟩)), (10, .int .i64 t23), (11, .int .i64 t24), (12, .int .i64 t25), (13, .int .i64 t26), (14, .int .i64 t27), (15, .pointer (some ⟨b12, 6, none⟩))] ?_
 refine RegI.o (OpE.storeBox 2 3 b12 6 (.int .i64 t23) [.int .i64 p0_0, .int .u8 p0_1, .int .u8 p0_2, .int .u16 p0_3, .int .i64 p0_4, .int .i64 p0_5, .int .i64 t23, .int .i64 0, .int .i64 0, .int .i64 0, .int .i64 0] h21 (by kernel_rfl) (by kernel_rfl) rfl (by kernel_rfl) (by kernel_rfl) (by kernel_rfl) ?_)
 intro w28 h29 hk30
 refine RegI.p 1 [(2, .pointer (some ⟨b7, 0, none⟩)), (3, .pointer (some ⟨b12, 0, none⟩)), (11, .int .i64 t24), (12, .int .i64 t25), (13, .int .i64 t26), (14, .int .i64 t27), (16, .pointer (some ⟨b12, 7, none⟩))] ?_
 refine RegI.o (OpE.storeBox 2 3 b12 7 (.int .i64 t24) [.int .i64 p0_0, .int .u8 p0_1, .int .u8 p0_2, .int .u16 p0_3, .int .i64 p0_4, .int .i64 p0_5, .int .i64 t23, .int .i64 t24, .int .i64 0, .int .i64 0, .int .i64 0] h29 (by kernel_rfl) (by kernel_rfl) rfl (by kernel_rfl) (by kernel_rfl) (by kernel_rfl) ?_)
 intro w31 h32 hk33
 refine RegI.p 1 [(2, .pointer (some ⟨b7, 0, none⟩)), (3, .pointer (some ⟨b12, 0, none⟩)), (12, .int .i64 t25), (13, .int .i64 t26), (14, .int .i64 t27), (17, .pointer (some ⟨b12, 8, none⟩))] ?_
 refine RegI.o (OpE.storeBox 2 3 b12 8 (.int .i64 t25) [.int .i64 p0_0, .int .u8 p0_1, .int .u8 p0_2, .int .u16 p0_3, .int .i64 p0_4, .int .i64 p0_5, .int .i64 t23, .int .i64 t24, .int .i64 t25, .int .i64 0, .int .i64 0] h32 (by kernel_rfl) (by kernel_rfl) rfl (by kernel_rfl) (by kernel_rfl) (by kernel_rfl) ?_)
 intro w34 h35 hk36
 refine RegI.p 1 [(2, .pointer (some ⟨b7, 0, none⟩)), (3, .pointer (some ⟨b12, 0, none⟩)), (13, .int .i64 t26), (14, .int .i64 t27), (18, .pointer (some ⟨b12, 9, none⟩))] ?_
 refine RegI.o (OpE.storeBox 2 3 b12 9 (.int .i64 t26) [.int .i64 p0_0, .int .u8 p0_1, .int .u8 p0_2, .int .u16 p0_3, .int .i64 p0_4, .int .i64 p0_5, .int .i64 t23, .int .i64 t24, .int .i64 t25, .int .i64 t26, .int .i64 0] h35 (by kernel_rfl) (by kernel_rfl) rfl (by kernel_rfl) (by kernel_rfl) (by kernel_rfl) ?_)
 intro w37 h38 hk39
 refine RegI.p 1 [(2, .pointer (some ⟨b7, 0, none⟩)), (3, .pointer (some ⟨b12, 0, none⟩)), (14, .int .i64 t27), (19, .pointer (some ⟨b12, 10, none⟩))] ?_
 refine RegI.o (OpE.storeBox 2 3 b12 10 (.int .i64 t27) [.int .i64 p0_0, .int .u8 p0_1, .int .u8 p0_2, .int .u16 p0_3, .int .i64 p0_4, .int .i64 p0_5, .int .i64 t23, .int .i64 t24, .int .i64 t25, .int .i64 t26, .int .i64 t27] h38 (by kernel_rfl) (by kernel_rfl) rfl (by kernel_rfl) (by kernel_rfl) (by kernel_rfl) ?_)
 intro w40 h41 hk42
 refine RegI.d ?_
 refine RunsI.g 1 [.c 7, .c 8] ?_
 refine RunsI.r ?_
 refine RegI.o (OpE.loadBox 20 2 92 b12 0 (.agg #[.int .i64 p0_0, .int .u8 p0_1, .int .u8 p0_2, .int .u16 p0_3, .int .i64 p0_4, .int .i64 p0_5, .int .i64 t23, .int .i64 t24, .int .i64 t25, .int .i64 t26, .int .i64 t27]) h41 (by kernel_rfl) (by kernel_rfl) rfl (by kernel_rfl) ?_)
 refine RegI.o (OpE.storeBox 1 92 b7 0 (.agg #[.int .i64 p0_0, .int .u8 p0_1, .int .u8 p0_2, .int .u16 p0_3, .int .i64 p0_4, .int .i64 p0_5, .int .i64 t23, .int .i64 t24, .int .i64 t25, .int .i64 t26, .int .i64 t27]) [.int .i64 p0_0, .int .u8 p0_1, .int .u8 p0_2, .int .u16 p0_3, .int .i64 p0_4, .int .i64 p0_5, .int .i64 t23, .int .i64 t24, .int .i64 t25, .int .i64 t26, .int .i64 t27] h41 (by kernel_rfl) (by kernel_rfl) rfl (by kernel_rfl) (by kernel_rfl) (by kernel_rfl) ?_)
 intro w43 h44 hk45
 refine RegI.d ?_
 refine RunsI.toRet (by kernel_rfl) ?_
 refine RetI.valW [.cell 2 92] [.agg #[.int .i64 p0_0, .int .u8 p0_1, .int .u8 p0_2, .int .u16 p0_3, .int .i64 p0_4, .int .i64 p0_5, .int .i64 t23, .int .i64 t24, .int .i64 t25, .int .i64 t26, .int .i64 t27]] (.agg #[.int .i64 p0_0, .int .u8 p0_1, .int .u8 p0_2, .int .u16 p0_3, .int .i64 p0_4, .int .i64 p0_5, .int .i64 t23, .int .i64 t24, .int .i64 t25, .int .i64 t26, .int .i64 t27]) (by kernel_rfl) (ResAt.box 1 92 b7 0 h44 (by kernel_rfl) (by kernel_rfl) rfl (by kernel_rfl) rfl) (by kernel_rfl) ?_
 obtain rfl := Option.some.inj h
 exact ⟨rfl, h44.below⟩
end

/-! ### charabanc/bits.Lo (function 66) -/
section
def bits_Lo_66.post (M0 : Nat → Prop) (w0 : World) (r : Int) : Ending → World → Prop := fun e w => e = .returned (.int .u8 r) ∧ Below w0.heap.size w0 w
def bits_Lo_66.f (K : Nat) (p0 : Int) : Option Int := some (IntKind.wrap .u8 p0)
set_option maxRecDepth 100000 in
theorem bits_Lo_66_ok (K : Nat) (M0 : Nat → Prop) (w0 : World) (p0 : Int) (ho : ∀ b, M0 b → b < w0.heap.size) {r : Int} (h : bits_Lo_66.f K p0 = some r) :
  Calls Tryd.prog 66 #[.int .u16 p0] w0 (bits_Lo_66.post M0 w0 r) := by
 unfold bits_Lo_66.f at h
 have h0 : Holds M0 w0 w0 [] := Holds.start ho
 have h0 : Holds M0 w0 w0 [] := h0
 refine calls_of F66 rfl [.int .u16 p0] (by kernel_rfl) ?_
 refine RunsI.g 1 [.c 1, .c 2] ?_
 refine RunsI.r ?_
 refine RegI.p 1 [(0, .int .u16 p0)] ?_
 refine RegI.d ?_
 refine RunsI.g 1 [.c 3, .c 4] ?_
 refine RunsI.r ?_
 refine RegI.p 3 [(2, .int .u8 (IntKind.wrap .u8 p0))] ?_
 refine RegI.d ?_
 refine RunsI.t (.int .u8 (IntKind.wrap .u8 p0)) ?_
 obtain rfl := Option.some.inj h
 exact ⟨rfl, h0.below⟩
end

/-! ### strconv.Itoa (function 93) -/
section
def strconv_Itoa_93.post (M0 : Nat → Prop) (w0 : World) (r : ByteArray) : Ending → World → Prop := fun e w => e = .returned (.string r) ∧ Below w0.heap.size w0 w
def strconv_Itoa_93.f (K : Nat) (p0 : Int) : Option ByteArray := cond (in64 p0) (some (⟨(Lib.itoa p0).toArray⟩ : ByteArray)) none
theorem strconv_Itoa_93_ok (K : Nat) (M0 : Nat → Prop) (w0 : World) (p0 : Int) (ho : ∀ b, M0 b → b < w0.heap.size) (hG12 : (gl 12 (tab_12.flatMap en_12)).ok w0 M0) {r : ByteArray} (h : strconv_Itoa_93.f K p0 = some r) : Calls Tryd.prog 93 #[.int .i64 p0] w0 (strconv_Itoa_93.post M0 w0 r) := by
 obtain ⟨hc, h⟩ := of_cond0 h
 obtain rfl := Option.some.inj h
 refine (Tryd.strconv_Itoa p0 (in64_l hc) (in64_r hc) w0 (tabIs_of_gl hG12 (by kernel_rfl) (by kernel_rfl))).mono ?_
 rintro e w' ⟨rfl, k, os, rfl⟩
 exact ⟨rfl, Lib.below_grow _ _ (Nat.le_refl _) _ _⟩
end

/-! ### charabanc/text.signed (function 83) -/
section
def text_signed_83.post (M0 : Nat → Prop) (w0 : World) (r : ByteArray) : Ending → World → Prop := fun e w => e = .returned (.string r) ∧ Below w0.heap.size w0 w
def text_signed_83.f (K : Nat) (p0 : Int) : Option ByteArray := cond (decide (p0 < 0)) ((strconv_Itoa_93.f K p0).bind fun t6 => some t6) ((strconv_Itoa_93.f K p0).bind fun t11 => cond (mayCat (⟨#[43]⟩ : ByteArray).size t11.size) (some ((⟨#[43]⟩ : ByteArray) ++ t11)) none)
set_option maxRecDepth 100000 in
theorem text_signed_83_ok (K : Nat) (M0 : Nat → Prop) (w0 : World) (p0 : Int) (ho : ∀ b, M0 b → b < w0.heap.size) (hG12 : (gl 12 (tab_12.flatMap en_12)).ok w0 M0) {r : ByteArray} (h : text_signed_83.f K p0 = some r) :
  Calls Tryd.prog 83 #[.int .i64 p0] w0 (text_signed_83.post M0 w0 r) := by
 unfold text_signed_83.f at h
 have h0 : Holds M0 w0 w0 [] := Holds.start ho
 have h0g12 := h0.add (gl 12 (tab_12.flatMap en_12)) rfl ⟨hG12.1, fun hm => hG12.2.1 (hm.elim id (fun hm => absurd hm (by simp [mines, sl, gl]))), hG12.2.2⟩
 have h0 : Holds M0 w0 w0 [gl 12 (tab_12.flatMap en_12)] := h0g12
 refine calls_of F83 rfl [.int .i64 p0] (by kernel_rfl) ?_
 refine RunsI.g 1 [.c 1, .c 2] ?_
 refine RunsI.r ?_
 refine RegI.p 1 [(0, .int .i64 p0)] ?_
 refine RegI.d ?_
 refine RunsI.g 2 [.c 4, .c 5, .c 10] ?_
 refine RunsI.r ?_
 refine RegI.p 2 [(0, .int .i64 p0), (4, .bool (decide (p0 < 0)))] ?_
 refine RegI.d ?_
 rcases of_cond h with ⟨hc1, h⟩ | ⟨hc1, h⟩
 ·skip
  refine RunsI.f 4 true hc1 ?_
  refine RunsI.b true 6 ?_
  refine RunsI.g 1 [.c 7, .c 8, .c 10] ?_
  refine RunsI.r ?_
  refine RegI.p 1 [(5, .int .i64 p0)] ?_
  obtain ⟨t6, hg5, h⟩ := of_bind h
  refine RegI.o (OpE.call 6 (by kernel_rfl) 93 #[.int .i64 p0] (by kernel_rfl) ((strconv_Itoa_93_ok K _ w0  p0 h0.old' (h0.get 0 rfl) hg5).mono ?_))
  rintro _ w2 ⟨rfl, hb3⟩
  refine ⟨_, rfl, ?_⟩
  have h4 := h0.call hb3
  refine RegI.p 1 [(2, .string t6)] ?_
  refine RegI.d ?_
  refine RunsI.t (.string t6) ?_
  obtain rfl := Option.some.inj h
  exact ⟨rfl, h4.below⟩
 ·skip
  refine RunsI.f 4 false hc1 ?_
  refine RunsI.b false 9 ?_
  refine RunsI.g 1 [.c 10] ?_
  refine RunsI.g 1 [.c 11, .c 12] ?_
  refine RunsI.r ?_
  refine RegI.p 1 [(7, .int .i64 p0)] ?_
  obtain ⟨t11, hg10, h⟩ := of_bind h
  refine RegI.o (OpE.call 8 (by kernel_rfl) 93 #[.int .i64 p0] (by kernel_rfl) ((strconv_Itoa_93_ok K _ w0  p0 h0.old' (h0.get 0 rfl) hg10).mono ?_))
  rintro _ w7 ⟨rfl, hb8⟩
  refine ⟨_, rfl, ?_⟩
  have h9 := h0.call hb8
  obtain ⟨hc12, h⟩ := of_cond0 h
  refine RegI.o (OpE.run 9 (by kernel_rfl) (run_cat (a := (⟨#[43]⟩ : ByteArray)) (b := t11) (by kernel_rfl) hc12) ?_)
  refine RegI.p 1 [(2, .string ((⟨#[43]⟩ : ByteArray) ++ t11))] ?_
  refine RegI.d ?_
  refine RunsI.t (.string ((⟨#[43]⟩ : ByteArray) ++ t11)) ?_
  obtain rfl := Option.some.inj h
  exact ⟨rfl, h9.below⟩
end

/-! ### charabanc/bits.Signed (function 84) -/
section
def bits_Signed_84.post (M0 : Nat → Prop) (w0 : World) (r : Int) : Ending → World → Prop := fun e w => e = .returned (.int .i64 r) ∧ Below w0.heap.size w0 w
def bits_Signed_84.f (K : Nat) (p0 : Int) : Option Int := some (IntKind.wrap .i64 (IntKind.wrap .i8 p0))
set_option maxRecDepth 100000 in
theorem bits_Signed_84_ok (K : Nat) (M0 : Nat → Prop) (w0 : World) (p0 : Int) (ho : ∀ b, M0 b → b < w0.heap.size) {r : Int} (h : bits_Signed_84.f K p0 = some r) :
  Calls Tryd.prog 84 #[.int .u8 p0] w0 (bits_Signed_84.post M0 w0 r) := by
 unfold bits_Signed_84.f at h
 have h0 : Holds M0 w0 w0 [] := Holds.start ho
 have h0 : Holds M0 w0 w0 [] := h0
 refine calls_of F84 rfl [.int .u8 p0] (by kernel_rfl) ?_
 refine RunsI.g 1 [.c 1, .c 2] ?_
 refine RunsI.r ?_
 refine RegI.p 1 [(0, .int .u8 p0)] ?_
 refine RegI.d ?_
 refine RunsI.g 1 [.c 3, .c 4] ?_
 refine RunsI.r ?_
 refine RegI.p 4 [(2, .int .i64 (IntKind.wrap .i64 (IntKind.wrap .i8 p0)))] ?_
 refine RegI.d ?_
 refine RunsI.t (.int .i64 (IntKind.wrap .i64 (IntKind.wrap .i8 p0))) ?_
 obtain rfl := Option.some.inj h
 exact ⟨rfl, h0.below⟩
end

/-! ### (charabanc/text.shown).to (function 86) -/
section
def text_shown_to_86.post (M0 : Nat → Prop) (w0 : World) (r : ByteArray) : Ending → World → Prop := fun e w => e = .returned (.string r) ∧ Below w0.heap.size w0 w
def text_shown_to_86.f (K : Nat) (p0_0_0 : Int) (p0_0_1 : Int) (p0_0_2 : Int) (p0_0_3 : Int) (p0_0_4 : Int) (p0_0_5 : Int) (p0_1 : Int) (p0_2 : Int) (p0_3 : Int) (p0_4 : Int) (p0_5 : Int) : Option ByteArray := (bits_Lo_66.f K p0_0_3).bind fun t10 => (bits_Signed_84.f K t10).bind fun t15 => (text_signed_83.f K (IntKind.wrap .i64 (t15 + 2))).bind fun t20 => cond (mayCat (⟨#[36]⟩ : ByteArray).size t20.size) (some ((⟨#[36]⟩ : ByteArray) ++ t20)) none
set_option maxRecDepth 100000 in
theorem text_shown_to_86_ok (K : Nat) (M0 : Nat → Prop) (w0 : World) (p0_0_0 : Int) (p0_0_1 : Int) (p0_0_2 : Int) (p0_0_3 : Int) (p0_0_4 : Int) (p0_0_5 : Int) (p0_1 : Int) (p0_2 : Int) (p0_3 : Int) (p0_4 : Int) (p0_5 : Int) (ho : ∀ b, M0 b → b < w0.heap.size) (hG12 : (gl 12 (tab_12.flatMap en_12)).ok w0 M0) {r : ByteArray} (h : text_shown_to_86.f K p0_0_0 p0_0_1 p0_0_2 p0_0_3 p0_0_4 p0_0_5 p0_1 p0_2 p0_3 p0_4 p0_5 = some r) :
  Calls Tryd.prog 86 #[.agg #[.int .i64 p0_0_0, .int .u8 p0_0_1, .int .u8 p0_0_2, .int .u16 p0_0_3, .int .i64 p0_0_4, .int .i64 p0_0_5, .int .i64 p0_1, .int .i64 p0_2, .int .i64 p0_3, .int .i64 p0_4, .int .i64 p0_5]] w0 (text_shown_to_86.post M0 w0 r) := by
 unfold text_shown_to_86.f at h
 have h0 : Holds M0 w0 w0 [] := Holds.start ho
 have h0g12 := h0.add (gl 12 (tab_12.flatMap en_12)) rfl ⟨hG12.1, fun hm => hG12.2.1 (hm.elim id (fun hm => absurd hm (by simp [mines, sl, gl]))), hG12.2.2⟩
 have h0 : Holds M0 w0 w0 [gl 12 (tab_12.flatMap en_12)] := h0g12
 refine calls_of F86 rfl [.agg #[.int .i64 p0_0_0, .int .u8 p0_0_1, .int .u8 p0_0_2, .int .u16 p0_0_3, .int .i64 p0_0_4, .int .i64 p0_0_5, .int .i64 p0_1, .int .i64 p0_2, .int .i64 p0_3, .int .i64 p0_4, .int .i64 p0_5]] (by kernel_rfl) ?_
 refine RunsI.g 1 [.c 1, .c 2] ?_
 refine RunsI.r ?_
 refine RegI.o (OpE.box 1 92 [.int .i64 p0_0_0, .int .u8 p0_0_1, .int .u8 p0_0_2, .int .u16 p0_0_3, .int .i64 p0_0_4, .int .i64 p0_0_5, .int .i64 p0_1, .int .i64 p0_2, .int .i64 p0_3, .int .i64 p0_4, .int .i64 p0_5] h0 (by kernel_rfl) (by kernel_rfl) ?_)
 intro w1 b2 h3 hb4 hn5
 refine RegI.p 1 [(1, .pointer (some ⟨b2, 0, none⟩))] ?_
 refine RegI.d ?_
 refine RunsI.g 1 [.c 3, .c 4] ?_
 refine RunsI.r ?_
 refine RegI.p 2 [(4, .pointer (some ⟨b2, 3, none⟩))] ?_
 refine RegI.o (OpE.loadBox 5 1 22 b2 3 (.int .u16 p0_0_3) h3 (by kernel_rfl) (by kernel_rfl) rfl (by kernel_rfl) ?_)
 obtain ⟨t10, hg9, h⟩ := of_bind h
 refine RegI.o (OpE.call 6 (by kernel_rfl) 66 #[.int .u16 p0_0_3] (by kernel_rfl) ((bits_Lo_66_ok K _ w1  p0_0_3 h3.old' hg9).mono ?_))
 rintro _ w6 ⟨rfl, hb7⟩
 refine ⟨_, rfl, ?_⟩
 have h8 := h3.call hb7
 obtain ⟨t15, hg14, h⟩ := of_bind h
 refine RegI.o (OpE.call 7 (by kernel_rfl) 84 #[.int .u8 t10] (by kernel_rfl) ((bits_Signed_84_ok K _ w6  t10 h8.old' hg14).mono ?_))
 rintro _ w11 ⟨rfl, hb12⟩
 refine ⟨_, rfl, ?_⟩
 have h13 := h8.call hb12
 refine RegI.p 1 [(8, .int .i64 (IntKind.wrap .i64 (t15 + 2)))] ?_
 obtain ⟨t20, hg19, h⟩ := of_bind h
 refine RegI.o (OpE.call 9 (by kernel_rfl) 83 #[.int .i64 (IntKind.wrap .i64 (t15 + 2))] (by kernel_rfl) ((text_signed_83_ok K _ w11  (IntKind.wrap .i64 (t15 + 2)) h13.old' (h13.get 0 rfl) hg19).mono ?_))
 rintro _ w16 ⟨rfl, hb17⟩
 refine ⟨_, rfl, ?_⟩
 have h18 := h13.call hb17
 obtain ⟨hc21, h⟩ := of_cond0 h
 refine RegI.o (OpE.run 10 (by kernel_rfl) (run_cat (a := (⟨#[36]⟩ : ByteArray)) (b := t20) (by kernel_rfl) hc21) ?_)
 refine RegI.p 1 [(2, .string ((⟨#[36]⟩ : ByteArray) ++ t20))] ?_
 refine RegI.d ?_
 refine RunsI.t (.string ((⟨#[36]⟩ : ByteArray) ++ t20)) ?_
 obtain rfl := Option.some.inj h
 exact ⟨rfl, h18.below⟩
end

/-! ### charabanc/text.index (function 82) -/
section
def text_index_82.post (M0 : Nat → Prop) (w0 : World) (r : ByteArray) : Ending → World → Prop := fun e w => e = .returned (.string r) ∧ Below w0.heap.size w0 w
def text_index_82.f (K : Nat) (p0 : Int) : Option ByteArray := Let (fun (t2 : Bool) => cond t2 (some (⟨#[105, 120]⟩ : ByteArray)) (some (⟨#[105, 121]⟩ : ByteArray))) (fun j5 => cond (p0 == 3) (j5 true) (j5 (p0 == 5)))
set_option maxRecDepth 100000 in
theorem text_index_82_ok (K : Nat) (M0 : Nat → Prop) (w0 : World) (p0 : Int) (ho : ∀ b, M0 b → b < w0.heap.size) {r : ByteArray} (h : text_index_82.f K p0 = some r) :
  Calls Tryd.prog 82 #[.int .i64 p0] w0 (text_index_82.post M0 w0 r) := by
 unfold text_index_82.f at h
 have h0 : Holds M0 w0 w0 [] := Holds.start ho
 have h0 : Holds M0 w0 w0 [] := h0
 refine calls_of F82 rfl [.int .i64 p0] (by kernel_rfl) ?_
 refine RunsI.g 1 [.c 1, .c 2] ?_
 refine RunsI.r ?_
 refine RegI.p 1 [(0, .int .i64 p0)] ?_
 refine RegI.d ?_
 refine RunsI.g 2 [.c 4, .c 5, .c 10] ?_
 refine RunsI.r ?_
 refine RegI.p 3 [(0, .int .i64 p0), (5, .bool (p0 == 3))] ?_
 obtain ⟨j5, hJ6, h⟩ := of_let h
 have hj7 : ∀ (t2 : Bool) (w4 : World), j5 t2 = some r → Holds M0 w0 w4 [] → RegI F82 4 [.c 5, .c 10] 6 [(8, .bool t2)] w4 (text_index_82.post M0 w0 r) := by
  intro t2 w4 h h3
  rw [hJ6] at h
  clear hJ6
  dsimp only at h
  refine RegI.d ?_
  rcases of_cond h with ⟨hc8, h⟩ | ⟨hc8, h⟩
  ·skip
   refine RunsI.f 8 true hc8 ?_
   refine RunsI.b true 6 ?_
   refine RunsI.g 1 [.c 7, .c 8, .c 10] ?_
   refine RunsI.r ?_
   refine RegI.p 1 [(2, .string (⟨#[105, 120]⟩ : ByteArray))] ?_
   refine RegI.d ?_
   refine RunsI.t (.string (⟨#[105, 120]⟩ : ByteArray)) ?_
   obtain rfl := Option.some.inj h
   exact ⟨rfl, h3.below⟩
  ·skip
   refine RunsI.f 8 false hc8 ?_
   refine RunsI.b false 9 ?_
   refine RunsI.g 1 [.c 10] ?_
   refine RunsI.g 1 [.c 11, .c 12] ?_
   refine RunsI.r ?_
   refine RegI.p 1 [(2, .string (⟨#[105, 121]⟩ : ByteArray))] ?_
   refine RegI.d ?_
   refine RunsI.t (.string (⟨#[105, 121]⟩ : ByteArray)) ?_
   obtain rfl := Option.some.inj h
   exact ⟨rfl, h3.below⟩
 clear hJ6
 rcases of_cond h with ⟨hc1, h⟩ | ⟨hc1, h⟩
 ·skip
  refine RegI.f 5 true hc1 ?_
  refine RegI.p 3 [(8, .bool true)] ?_
  refine RegI.l [8] [(8, .bool true)] ?_
  exact hj7 true w0 h (h0.pick [] (by decide))
 ·skip
  refine RegI.f 5 false hc1 ?_
  refine RegI.p 3 [(8, .bool (p0 == 5))] ?_
  refine RegI.l [8] [(8, .bool (p0 == 5))] ?_
  exact hj7 (p0 == 5) w0 h (h0.pick [] (by decide))
end

/-! ### (charabanc/text.shown).indexed (function 119) -/
section
def text_shown_indexed_119.post (M0 : Nat → Prop) (w0 : World) (r : Bool) : Ending → World → Prop := fun e w => e = .returned (.bool r) ∧ Below w0.heap.size w0 w
def text_shown_indexed_119.f (K : Nat) (p0_0_0 : Int) (p0_0_1 : Int) (p0_0_2 : Int) (p0_0_3 : Int) (p0_0_4 : Int) (p0_0_5 : Int) (p0_1 : Int) (p0_2 : Int) (p0_3 : Int) (p0_4 : Int) (p0_5 : Int) : Option Bool := cond (p0_0_0 == 3) (some true) (some (p0_0_0 == 4))
set_option maxRecDepth 100000 in
theorem text_shown_indexed_119_ok (K : Nat) (M0 : Nat → Prop) (w0 : World) (p0_0_0 : Int) (p0_0_1 : Int) (p0_0_2 : Int) (p0_0_3 : Int) (p0_0_4 : Int) (p0_0_5 : Int) (p0_1 : Int) (p0_2 : Int) (p0_3 : Int) (p0_4 : Int) (p0_5 : Int) (ho : ∀ b, M0 b → b < w0.heap.size) {r : Bool} (h : text_shown_indexed_119.f K p0_0_0 p0_0_1 p0_0_2 p0_0_3 p0_0_4 p0_0_5 p0_1 p0_2 p0_3 p0_4 p0_5 = some r) :
  Calls Tryd.prog 119 #[.agg #[.int .i64 p0_0_0, .int .u8 p0_0_1, .int .u8 p0_0_2, .int .u16 p0_0_3, .int .i64 p0_0_4, .int .i64 p0_0_5, .int .i64 p0_1, .int .i64 p0_2, .int .i64 p0_3, .int .i64 p0_4, .int .i64 p0_5]] w0 (text_shown_indexed_119.post M0 w0 r) := by
 unfold text_shown_indexed_119.f at h
 have h0 : Holds M0 w0 w0 [] := Holds.start ho
 have h0 : Holds M0 w0 w0 [] := h0
 refine calls_of F119 rfl [.agg #[.int .i64 p0_0_0, .int .u8 p0_0_1, .int .u8 p0_0_2, .int .u16 p0_0_3, .int .i64 p0_0_4, .int .i64 p0_0_5, .int .i64 p0_1, .int .i64 p0_2, .int .i64 p0_3, .int .i64 p0_4, .int .i64 p0_5]] (by kernel_rfl) ?_
 refine RunsI.g 1 [.c 1, .c 2] ?_
 refine RunsI.r ?_
 refine RegI.o (OpE.box 1 92 [.int .i64 p0_0_0, .int .u8 p0_0_1, .int .u8 p0_0_2, .int .u16 p0_0_3, .int .i64 p0_0_4, .int .i64 p0_0_5, .int .i64 p0_1, .int .i64 p0_2, .int .i64 p0_3, .int .i64 p0_4, .int .i64 p0_5] h0 (by kernel_rfl) (by kernel_rfl) ?_)
 intro w1 b2 h3 hb4 hn5
 refine RegI.p 1 [(1, .pointer (some ⟨b2, 0, none⟩))] ?_
 refine RegI.d ?_
 refine RunsI.g 1 [.c 3, .c 4] ?_
 refine RunsI.r ?_
 refine RegI.p 2 [(1, .pointer (some ⟨b2, 0, none⟩)), (4, .pointer (some ⟨b2, 0, none⟩))] ?_
 refine RegI.o (OpE.loadBox 5 0 3 b2 0 (.int .i64 p0_0_0) h3 (by kernel_rfl) (by kernel_rfl) rfl (by kernel_rfl) ?_)
 refine RegI.p 2 [(1, .pointer (some ⟨b2, 0, none⟩)), (7, .bool (p0_0_0 == 3))] ?_
 rcases of_cond h with ⟨hc6, h⟩ | ⟨hc6, h⟩
 ·skip
  refine RegI.f 7 true hc6 ?_
  refine RegI.p 6 [(2, .bool true)] ?_
  refine RegI.d ?_
  refine RunsI.t (.bool true) ?_
  obtain rfl := Option.some.inj h
  exact ⟨rfl, h3.below⟩
 ·skip
  refine RegI.f 7 false hc6 ?_
  refine RegI.p 2 [(7, .bool false), (9, .pointer (some ⟨b2, 0, none⟩))] ?_
  refine RegI.o (OpE.loadBox 10 0 3 b2 0 (.int .i64 p0_0_0) h3 (by kernel_rfl) (by kernel_rfl) rfl (by kernel_rfl) ?_)
  refine RegI.p 3 [(2, .bool (p0_0_0 == 4))] ?_
  refine RegI.d ?_
  refine RunsI.t (.bool (p0_0_0 == 4)) ?_
  obtain rfl := Option.some.inj h
  exact ⟨rfl, h3.below⟩
end

/-! ### (charabanc/text.shown).pair (function 88) -/
section
def text_shown_pair_88.post (M0 : Nat → Prop) (w0 : World) (r : ByteArray) : Ending → World → Prop := fun e w => e = .returned (.string r) ∧ Below w0.heap.size w0 w
def text_shown_pair_88.f (K : Nat) (p0_0_0 : Int) (p0_0_1 : Int) (p0_0_2 : Int) (p0_0_3 : Int) (p0_0_4 : Int) (p0_0_5 : Int) (p0_1 : Int) (p0_2 : Int) (p0_3 : Int) (p0_4 : Int) (p0_5 : Int) (p1 : Int) (p2 : Bool) : Option ByteArray := Let (fun (t12 : Bool) => cond t12 ((text_index_82.f K p0_0_0).bind fun t23 => some t23) (Let (fun (t25 : Bool) => cond t25 (some (rdD tab_6 4)) (cond (inR p1 5) (some (rdD tab_6 p1)) none)) (fun j28 => cond (p1 == 3) (j28 p2) (j28 false)))) (fun j15 => cond (p1 == 2) ((text_shown_indexed_119.f K p0_0_0 p0_0_1 p0_0_2 p0_0_3 p0_0_4 p0_0_5 p0_1 p0_2 p0_3 p0_4 p0_5).bind fun t11 => j15 t11) (j15 false))
set_option maxRecDepth 100000 in
theorem text_shown_pair_88_ok (K : Nat) (M0 : Nat → Prop) (w0 : World) (p0_0_0 : Int) (p0_0_1 : Int) (p0_0_2 : Int) (p0_0_3 : Int) (p0_0_4 : Int) (p0_0_5 : Int) (p0_1 : Int) (p0_2 : Int) (p0_3 : Int) (p0_4 : Int) (p0_5 : Int) (p1 : Int) (p2 : Bool) (ho : ∀ b, M0 b → b < w0.heap.size) (hG6 : (gl 6 (tab_6.flatMap en_6)).ok w0 M0) {r : ByteArray} (h : text_shown_pair_88.f K p0_0_0 p0_0_1 p0_0_2 p0_0_3 p0_0_4 p0_0_5 p0_1 p0_2 p0_3 p0_4 p0_5 p1 p2 = some r) :
  Calls Tryd.prog 88 #[.agg #[.int .i64 p0_0_0, .int .u8 p0_0_1, .int .u8 p0_0_2, .int .u16 p0_0_3, .int .i64 p0_0_4, .int .i64 p0_0_5, .int .i64 p0_1, .int .i64 p0_2, .int .i64 p0_3, .int .i64 p0_4, .int .i64 p0_5], .int .i64 p1, .bool p2] w0 (text_shown_pair_88.post M0 w0 r) := by
 unfold text_shown_pair_88.f at h
 have h0 : Holds M0 w0 w0 [] := Holds.start ho
 have h0g6 := h0.add (gl 6 (tab_6.flatMap en_6)) rfl ⟨hG6.1, fun hm => hG6.2.1 (hm.elim id (fun hm => absurd hm (by simp [mines, sl, gl]))), hG6.2.2⟩
 have h0 : Holds M0 w0 w0 [gl 6 (tab_6.flatMap en_6)] := h0g6
 refine calls_of F88 rfl [.agg #[.int .i64 p0_0_0, .int .u8 p0_0_1, .int .u8 p0_0_2, .int .u16 p0_0_3, .int .i64 p0_0_4, .int .i64 p0_0_5, .int .i64 p0_1, .int .i64 p0_2, .int .i64 p0_3, .int .i64 p0_4, .int .i64 p0_5], .int .i64 p1, .bool p2] (by kernel_rfl) ?_
 refine RunsI.g 1 [.c 1, .c 2] ?_
 refine RunsI.r ?_
 refine RegI.o (OpE.box 3 92 [.int .i64 p0_0_0, .int .u8 p0_0_1, .int .u8 p0_0_2, .int .u16 p0_0_3, .int .i64 p0_0_4, .int .i64 p0_0_5, .int .i64 p0_1, .int .i64 p0_2, .int .i64 p0_3, .int .i64 p0_4, .int .i64 p0_5] h0 (by kernel_rfl) (by kernel_rfl) ?_)
 intro w1 b2 h3 hb4 hn5
 refine RegI.p 1 [(1, .int .i64 p1), (2, .bool p2), (3, .pointer (some ⟨b2, 0, none⟩))] ?_
 refine RegI.d ?_
 refine RunsI.g 3 [.c 5, .c 6, .blk 0, .c 17] ?_
 refine RunsI.r ?_
 refine RegI.p 3 [(1, .int .i64 p1), (2, .bool p2), (3, .pointer (some ⟨b2, 0, none⟩)), (10, .bool (p1 == 2))] ?_
 obtain ⟨j15, hJ16, h⟩ := of_let h
 have hj17 : ∀ (t12 : Bool) (w14 : World), j15 t12 = some r → Holds M0 w0 w14 [box b2 92 [.int .i64 p0_0_0, .int .u8 p0_0_1, .int .u8 p0_0_2, .int .u16 p0_0_3, .int .i64 p0_0_4, .int .i64 p0_0_5, .int .i64 p0_1, .int .i64 p0_2, .int .i64 p0_3, .int .i64 p0_4, .int .i64 p0_5], gl 6 (tab_6.flatMap en_6)] → RegI F88 5 [.c 6, .blk 0, .c 17] 7 [(1, .int .i64 p1), (2, .bool p2), (3, .pointer (some ⟨b2, 0, none⟩)), (7, .bool t12)] w14 (text_shown_pair_88.post M0 w0 r) := by
  intro t12 w14 h h13
  rw [hJ16] at h
  clear hJ16
  dsimp only at h
  refine RegI.d ?_
  rcases of_cond h with ⟨hc18, h⟩ | ⟨hc18, h⟩
  ·skip
   refine RunsI.f 7 true hc18 ?_
   refine RunsI.b true 7 ?_
   refine RunsI.g 1 [.c 8, .c 9, .blk 0, .c 17] ?_
   refine RunsI.r ?_
   refine RegI.p 2 [(15, .pointer (some ⟨b2, 0, none⟩))] ?_
   refine RegI.o (OpE.loadBox 16 0 3 b2 0 (.int .i64 p0_0_0) h13 (by kernel_rfl) (by kernel_rfl) rfl (by kernel_rfl) ?_)
   obtain ⟨t23, hg22, h⟩ := of_bind h
   refine RegI.o (OpE.call 17 (by kernel_rfl) 82 #[.int .i64 p0_0_0] (by kernel_rfl) ((text_index_82_ok K _ w14  p0_0_0 h13.old' hg22).mono ?_))
   rintro _ w19 ⟨rfl, hb20⟩
   refine ⟨_, rfl, ?_⟩
   have h21 := h13.call hb20
   refine RegI.p 1 [(6, .string t23)] ?_
   refine RegI.d ?_
   refine RunsI.t (.string t23) ?_
   obtain rfl := Option.some.inj h
   exact ⟨rfl, h21.below⟩
  ·skip
   refine RunsI.f 7 false hc18 ?_
   refine RunsI.b false 10 ?_
   refine RunsI.g 1 [.c 11, .c 12, .blk 0, .c 17] ?_
   refine RunsI.r ?_
   refine RegI.p 3 [(1, .int .i64 p1), (2, .bool p2), (21, .bool (p1 == 3))] ?_
   obtain ⟨j28, hJ29, h⟩ := of_let h
   have hj30 : ∀ (t25 : Bool) (w27 : World), j28 t25 = some r → Holds M0 w0 w27 [gl 6 (tab_6.flatMap en_6)] → RegI F88 11 [.c 12, .blk 0, .c 17] 6 [(1, .int .i64 p1), (18, .bool t25)] w27 (text_shown_pair_88.post M0 w0 r) := by
    intro t25 w27 h h26
    rw [hJ29] at h
    clear hJ29
    dsimp only at h
    refine RegI.d ?_
    rcases of_cond h with ⟨hc31, h⟩ | ⟨hc31, h⟩
    ·skip
     refine RunsI.f 18 true hc31 ?_
     refine RunsI.b true 13 ?_
     refine RunsI.g 1 [.c 14, .c 15, .blk 0, .c 17] ?_
     refine RunsI.r ?_
     refine RegI.o (OpE.run 24 (by kernel_rfl) (run_idxArr (T := 126) (b := 6) (o := 0) (ix := 4) (len := 5) (s := 1) (by kernel_rfl) (by kernel_rfl) (by kernel_rfl)) ?_)
     refine RegI.o (OpE.loadTab 25 0 9 en_6 tab_6 0 1 4 (.string (rdD tab_6 4)) (o := 0 + (Int.toNat 4) * 1 + 0) h26 (by kernel_rfl) rfl (fun _ => rfl) (by kernel_rfl) (by omega) (by kernel_rfl) (fun _ => by kernel_rfl) ?_)
     refine RegI.p 1 [(6, .string (rdD tab_6 4))] ?_
     refine RegI.d ?_
     refine RunsI.t (.string (rdD tab_6 4)) ?_
     obtain rfl := Option.some.inj h
     exact ⟨rfl, h26.below⟩
    ·skip
     refine RunsI.f 18 false hc31 ?_
     refine RunsI.b false 16 ?_
     refine RunsI.g 1 [.blk 0, .c 17] ?_
     refine RunsI.g 2 [.c 18, .c 19] ?_
     refine RunsI.r ?_
     refine RegI.p 1 [(26, .int .i64 p1)] ?_
     obtain ⟨hc32, h⟩ := of_cond0 h
     refine RegI.o (OpE.run 27 (by kernel_rfl) (run_idxArr (T := 126) (b := 6) (o := 0) (ix := p1) (len := 5) (s := 1) (by kernel_rfl) (by kernel_rfl) hc32) ?_)
     refine RegI.o (OpE.loadTab 28 0 9 en_6 tab_6 0 1 p1 (.string (rdD tab_6 p1)) (o := 0 + (Int.toNat p1) * 1 + 0) h26 (by kernel_rfl) rfl (fun _ => rfl) (by kernel_rfl) (by omega) hc32 (fun _ => by kernel_rfl) ?_)
     refine RegI.p 1 [(6, .string (rdD tab_6 p1))] ?_
     refine RegI.d ?_
     refine RunsI.t (.string (rdD tab_6 p1)) ?_
     obtain rfl := Option.some.inj h
     exact ⟨rfl, h26.below⟩
   clear hJ29
   rcases of_cond h with ⟨hc24, h⟩ | ⟨hc24, h⟩
   ·skip
    refine RegI.f 21 true hc24 ?_
    refine RegI.p 3 [(1, .int .i64 p1), (18, .bool p2)] ?_
    refine RegI.l [1, 18] [(1, .int .i64 p1), (18, .bool p2)] ?_
    exact hj30 p2 w14 h (h13.pick [1] (by decide))
   ·skip
    refine RegI.f 21 false hc24 ?_
    refine RegI.p 3 [(1, .int .i64 p1), (18, .bool false)] ?_
    refine RegI.l [1, 18] [(1, .int .i64 p1), (18, .bool false)] ?_
    exact hj30 false w14 h (h13.pick [1] (by decide))
 clear hJ16
 rcases of_cond h with ⟨hc6, h⟩ | ⟨hc6, h⟩
 ·skip
  refine RegI.f 10 true hc6 ?_
  refine RegI.o (OpE.loadBox 11 1 92 b2 0 (.agg #[.int .i64 p0_0_0, .int .u8 p0_0_1, .int .u8 p0_0_2, .int .u16 p0_0_3, .int .i64 p0_0_4, .int .i64 p0_0_5, .int .i64 p0_1, .int .i64 p0_2, .int .i64 p0_3, .int .i64 p0_4, .int .i64 p0_5]) h3 (by kernel_rfl) (by kernel_rfl) rfl (by kernel_rfl) ?_)
  obtain ⟨t11, hg10, h⟩ := of_bind h
  refine RegI.o (OpE.call 12 (by kernel_rfl) 119 #[.agg #[.int .i64 p0_0_0, .int .u8 p0_0_1, .int .u8 p0_0_2, .int .u16 p0_0_3, .int .i64 p0_0_4, .int .i64 p0_0_5, .int .i64 p0_1, .int .i64 p0_2, .int .i64 p0_3, .int .i64 p0_4, .int .i64 p0_5]] (by kernel_rfl) ((text_shown_indexed_119_ok K _ w1  p0_0_0 p0_0_1 p0_0_2 p0_0_3 p0_0_4 p0_0_5 p0_1 p0_2 p0_3 p0_4 p0_5 h3.old' hg10).mono ?_))
  rintro _ w7 ⟨rfl, hb8⟩
  refine ⟨_, rfl, ?_⟩
  have h9 := h3.call hb8
  refine RegI.p 2 [(1, .int .i64 p1), (2, .bool p2), (3, .pointer (some ⟨b2, 0, none⟩)), (7, .bool t11)] ?_
  refine RegI.l [1, 2, 3, 7] [(1, .int .i64 p1), (2, .bool p2), (3, .pointer (some ⟨b2, 0, none⟩)), (7, .bool t11)] ?_
  exact hj17 t11 w7 h (h9.pick [1, 0] (by decide))
 ·skip
  refine RegI.f 10 false hc6 ?_
  refine RegI.p 4 [(1, .int .i64 p1), (2, .bool p2), (3, .pointer (some ⟨b2, 0, none⟩)), (7, .bool false)] ?_
  refine RegI.l [1, 2, 3, 7] [(1, .int .i64 p1), (2, .bool p2), (3, .pointer (some ⟨b2, 0, none⟩)), (7, .bool false)] ?_
  exact hj17 false w1 h (h3.pick [1, 0] (by decide))
end

/-! ### (charabanc/text.shown).hl (function 87) -/
section
def text_shown_hl_87.post (M0 : Nat → Prop) (w0 : World) (r : ByteArray) : Ending → World → Prop := fun e w => e = .returned (.string r) ∧ Below w0.heap.size w0 w
def text_shown_hl_87.f (K : Nat) (p0_0_0 : Int) (p0_0_1 : Int) (p0_0_2 : Int) (p0_0_3 : Int) (p0_0_4 : Int) (p0_0_5 : Int) (p0_1 : Int) (p0_2 : Int) (p0_3 : Int) (p0_4 : Int) (p0_5 : Int) : Option ByteArray := (text_shown_pair_88.f K p0_0_0 p0_0_1 p0_0_2 p0_0_3 p0_0_4 p0_0_5 p0_1 p0_2 p0_3 p0_4 p0_5 2 false).bind fun t10 => some t10
set_option maxRecDepth 100000 in
theorem text_shown_hl_87_ok (K : Nat) (M0 : Nat → Prop) (w0 : World) (p0_0_0 : Int) (p0_0_1 : Int) (p0_0_2 : Int) (p0_0_3 : Int) (p0_0_4 : Int) (p0_0_5 : Int) (p0_1 : Int) (p0_2 : Int) (p0_3 : Int) (p0_4 : Int) (p0_5 : Int) (ho : ∀ b, M0 b → b < w0.heap.size) (hG6 : (gl 6 (tab_6.flatMap en_6)).ok w0 M0) {r : ByteArray} (h : text_shown_hl_87.f K p0_0_0 p0_0_1 p0_0_2 p0_0_3 p0_0_4 p0_0_5 p0_1 p0_2 p0_3 p0_4 p0_5 = some r) :
  Calls Tryd.prog 87 #[.agg #[.int .i64 p0_0_0, .int .u8 p0_0_1, .int .u8 p0_0_2, .int .u16 p0_0_3, .int .i64 p0_0_4, .int .i64 p0_0_5, .int .i64 p0_1, .int .i64 p0_2, .int .i64 p0_3, .int .i64 p0_4, .int .i64 p0_5]] w0 (text_shown_hl_87.post M0 w0 r) := by
 unfold text_shown_hl_87.f at h
 have h0 : Holds M0 w0 w0 [] := Holds.start ho
 have h0g6 := h0.add (gl 6 (tab_6.flatMap en_6)) rfl ⟨hG6.1, fun hm => hG6.2.1 (hm.elim id (fun hm => absurd hm (by simp [mines, sl, gl]))), hG6.2.2⟩
 have h0 : Holds M0 w0 w0 [gl 6 (tab_6.flatMap en_6)] := h0g6
 refine calls_of F87 rfl [.agg #[.int .i64 p0_0_0, .int .u8 p0_0_1, .int .u8 p0_0_2, .int .u16 p0_0_3, .int .i64 p0_0_4, .int .i64 p0_0_5, .int .i64 p0_1, .int .i64 p0_2, .int .i64 p0_3, .int .i64 p0_4, .int .i64 p0_5]] (by kernel_rfl) ?_
 refine RunsI.g 1 [.c 1, .c 2] ?_
 refine RunsI.r ?_
 refine RegI.o (OpE.box 1 92 [.int .i64 p0_0_0, .int .u8 p0_0_1, .int .u8 p0_0_2, .int .u16 p0_0_3, .int .i64 p0_0_4, .int .i64 p0_0_5, .int .i64 p0_1, .int .i64 p0_2, .int .i64 p0_3, .int .i64 p0_4, .int .i64 p0_5] h0 (by kernel_rfl) (by kernel_rfl) ?_)
 intro w1 b2 h3 hb4 hn5
 refine RegI.p 1 [(1, .pointer (some ⟨b2, 0, none⟩))] ?_
 refine RegI.d ?_
 refine RunsI.g 1 [.c 3, .c 4] ?_
 refine RunsI.r ?_
 refine RegI.o (OpE.loadBox 3 1 92 b2 0 (.agg #[.int .i64 p0_0_0, .int .u8 p0_0_1, .int .u8 p0_0_2, .int .u16 p0_0_3, .int .i64 p0_0_4, .int .i64 p0_0_5, .int .i64 p0_1, .int .i64 p0_2, .int .i64 p0_3, .int .i64 p0_4, .int .i64 p0_5]) h3 (by kernel_rfl) (by kernel_rfl) rfl (by kernel_rfl) ?_)
 obtain ⟨t10, hg9, h⟩ := of_bind h
 refine RegI.o (OpE.call 4 (by kernel_rfl) 88 #[.agg #[.int .i64 p0_0_0, .int .u8 p0_0_1, .int .u8 p0_0_2, .int .u16 p0_0_3, .int .i64 p0_0_4, .int .i64 p0_0_5, .int .i64 p0_1, .int .i64 p0_2, .int .i64 p0_3, .int .i64 p0_4, .int .i64 p0_5], .int .i64 2, .bool false] (by kernel_rfl) ((text_shown_pair_88_ok K _ w1  p0_0_0 p0_0_1 p0_0_2 p0_0_3 p0_0_4 p0_0_5 p0_1 p0_2 p0_3 p0_4 p0_5 2 false h3.old' (h3.get 0 rfl) hg9).mono ?_))
 rintro _ w6 ⟨rfl, hb7⟩
 refine ⟨_, rfl, ?_⟩
 have h8 := h3.call hb7
 refine RegI.p 1 [(2, .string t10)] ?_
 refine RegI.d ?_
 refine RunsI.t (.string t10) ?_
 obtain rfl := Option.some.inj h
 exact ⟨rfl, h8.below⟩
end

/-! ### strings.CutPrefix (function 33) -/
section
def strings_CutPrefix_33.post (M0 : Nat → Prop) (w0 : World) (r : ByteArray × Bool) : Ending → World → Prop := fun e w => e = .returned (.tuple #[.string r.1, .bool r.2]) ∧ Below w0.heap.size w0 w
def strings_CutPrefix_33.f (K : Nat) (p0 : ByteArray) (p1 : ByteArray) : Option (ByteArray × Bool) := some ((⟨(Lib.trimPrefix p0.data.toList p1.data.toList).toArray⟩ : ByteArray), Lib.hasPrefix p0.data.toList p1.data.toList)
theorem strings_CutPrefix_33_ok (K : Nat) (M0 : Nat → Prop) (w0 : World) (p0 : ByteArray) (p1 : ByteArray) (ho : ∀ b, M0 b → b < w0.heap.size) {r : ByteArray × Bool} (h : strings_CutPrefix_33.f K p0 p1 = some r) : Calls Tryd.prog 33 #[.string p0, .string p1] w0 (strings_CutPrefix_33.post M0 w0 r) := by
 obtain rfl := Option.some.inj h
 refine (Tryd.strings_CutPrefix p0 p1 w0).mono ?_
 rintro e w' ⟨rfl, rfl⟩
 exact ⟨rfl, Below.refl _ _⟩
end

/-! ### strings.Repeat (function 81) -/
section
def strings_Repeat_81.post (M0 : Nat → Prop) (w0 : World) (r : ByteArray) : Ending → World → Prop := fun e w => e = .returned (.string r) ∧ Below w0.heap.size w0 w
def strings_Repeat_81.f (K : Nat) (p0 : ByteArray) (p1 : Int) : Option ByteArray := cond (repR p0.size p1) (some (⟨(Lib.repeatL p0.data.toList p1.toNat).toArray⟩ : ByteArray)) none
theorem strings_Repeat_81_ok (K : Nat) (M0 : Nat → Prop) (w0 : World) (p0 : ByteArray) (p1 : Int) (ho : ∀ b, M0 b → b < w0.heap.size) {r : ByteArray} (h : strings_Repeat_81.f K p0 p1 = some r) : Calls Tryd.prog 81 #[.string p0, .int .i64 p1] w0 (strings_Repeat_81.post M0 w0 r) := by
 obtain ⟨hc, h⟩ := of_cond0 h
 obtain rfl := Option.some.inj h
 obtain ⟨h1, h2, h3⟩ := repR_of hc
 have hq : ((p1.toNat : Nat) : Int) = p1 := Int.toNat_of_nonneg h1
 rw [← hq]
 refine (Tryd.strings_Repeat p0 p1.toNat w0 h2 h3).mono ?_
 rintro e w' ⟨rfl, hb⟩
 exact ⟨by rw [hq], hb⟩
end

/-! ### charabanc/text.Hex (function 48) -/
section
def text_Hex_48.post (M0 : Nat → Prop) (w0 : World) (r : ByteArray) : Ending → World → Prop := fun e w => e = .returned (.string r) ∧ Below w0.heap.size w0 w
def text_Hex_48.l0 (K : Nat) (p0 : Int) (p1 : Int) : Nat → Int → (List Int) → Int → Option (Int × (List Int) × Int)
 | 0, _, _, _ => none
 | k + 1, t13, t15, t16 => cond (decide (t13 ≥ 16)) (cond (inR (band .u64 t13 15) (⟨#[48, 49, 50, 51, 52, 53, 54, 55, 56, 57, 97, 98, 99, 100, 101, 102, 103, 104, 105, 106, 107, 108, 109, 110, 111, 112, 113, 114, 115, 116, 117, 118, 119, 120, 121, 122]⟩ : ByteArray).size) (cond (inR (IntKind.wrap .i64 (t16 - 1)) 65) (cond (inR (IntKind.wrap .i64 (t16 - 1)) t15.length) (text_Hex_48.l0 K p0 p1 k (Int.fdiv t13 (2 ^ 4)) (stD t15 (IntKind.wrap .i64 (t16 - 1)) (btD (⟨#[48, 49, 50, 51, 52, 53, 54, 55, 56, 57, 97, 98, 99, 100, 101, 102, 103, 104, 105, 106, 107, 108, 109, 110, 111, 112, 113, 114, 115, 116, 117, 118, 119, 120, 121, 122]⟩ : ByteArray) (band .u64 t13 15))) (IntKind.wrap .i64 (t16 - 1))) none) none) none) (some (t13, t15, t16))
set_option maxRecDepth 100000 in
theorem text_Hex_48.l0_ok (K : Nat) (M0 : Nat → Prop) (w0 : World) (p0 : Int) (p1 : Int) (b14 : Nat) (R : Ending → World → Prop) (x : Int × (List Int) × Int) (hk0 : ∀ (t24 : Int) (t25 : List Int) (t26 : Int) (w1 : World), x = (t24, t25, t26) → Holds M0 w0 w1 [box b14 178 (List.flatMap (fun (x : Int) => ([.int .u8 x] : List Value)) t25), gl 12 (tab_12.flatMap en_12), gl 15 (tab_15.flatMap en_15), gl 16 (tab_16.flatMap en_16)] → RunsI F137 [.c 43, .c 68] [(0, .slice none 0 0), (1, .int .u64 t24), (3, .bool (decide (p0 < 0))), (4, .bool false), (10, .slice none 0 0), (11, .string (⟨#[]⟩ : ByteArray)), (12, .pointer (some ⟨b14, 0, none⟩)), (13, .int .i64 t26)] w1 R) :
  ∀ (k : Nat) (t13 : Int) (t15 : List Int) (t16 : Int) (w : World), text_Hex_48.l0 K p0 p1 k t13 t15 t16 = some x → Holds M0 w0 w [box b14 178 (List.flatMap (fun (x : Int) => ([.int .u8 x] : List Value)) t15), gl 12 (tab_12.flatMap en_12), gl 15 (tab_15.flatMap en_15), gl 16 (tab_16.flatMap en_16)] → RunsI F137 [.c 31, .lp 31, .blk 0, .c 43, .c 68] [(0, .slice none 0 0), (1, .int .u64 t13), (3, .bool (decide (p0 < 0))), (4, .bool false), (10, .slice none 0 0), (11, .string (⟨#[]⟩ : ByteArray)), (12, .pointer (some ⟨b14, 0, none⟩)), (13, .int .i64 t16), (14, .int .u64 4), (15, .int .u64 16), (16, .int .u64 15)] w R := by
 intro k
 induction k with
 | zero => intro t13 t15 t16 w h hH; exact absurd h (by simp [text_Hex_48.l0])
 | succ k ih =>
  intro t13 t15 t16 w h hH
  rw [text_Hex_48.l0.eq_2] at h
  refine RunsI.g 1 [.c 32, .c 37, .lp 31, .blk 0, .c 43, .c 68] ?_
  refine RunsI.g 1 [.c 33, .c 34, .c 37, .lp 31, .blk 0, .c 43, .c 68] ?_
  refine RunsI.r ?_
  refine RegI.p 3 [(0, .slice none 0 0), (1, .int .u64 t13), (3, .bool (decide (p0 < 0))), (4, .bool false), (10, .slice none 0 0), (11, .string (⟨#[]⟩ : ByteArray)), (12, .pointer (some ⟨b14, 0, none⟩)), (13, .int .i64 t16), (14, .int .u64 4), (15, .int .u64 16), (16, .int .u64 15), (46, .bool (decide (t13 ≥ 16)))] ?_
  refine RegI.d ?_
  rcases of_cond h with ⟨hc17, h⟩ | ⟨hc17, h⟩
  ·skip
   refine RunsI.f 46 true hc17 ?_
   refine RunsI.b true 35 ?_
   refine RunsI.g 1 [.c 37, .lp 31, .blk 0, .c 43, .c 68] ?_
   refine RunsI.g 2 [.c 39, .c 40, .blk 1, .lp 31, .blk 0, .c 43, .c 68] ?_
   refine RunsI.r ?_
   refine RegI.p 3 [(0, .slice none 0 0), (1, .int .u64 t13), (3, .bool (decide (p0 < 0))), (4, .bool false), (10, .slice none 0 0), (11, .string (⟨#[]⟩ : ByteArray)), (12, .pointer (some ⟨b14, 0, none⟩)), (13, .int .i64 (IntKind.wrap .i64 (t16 - 1))), (14, .int .u64 4), (15, .int .u64 16), (16, .int .u64 15)] ?_
   refine RegI.d ?_
   refine RunsI.g 1 [.c 41, .c 42, .blk 1, .lp 31, .blk 0, .c 43, .c 68] ?_
   refine RunsI.r ?_
   refine RegI.p 4 [(0, .slice none 0 0), (1, .int .u64 t13), (3, .bool (decide (p0 < 0))), (4, .bool false), (10, .slice none 0 0), (11, .string (⟨#[]⟩ : ByteArray)), (12, .pointer (some ⟨b14, 0, none⟩)), (13, .int .i64 (IntKind.wrap .i64 (t16 - 1))), (14, .int .u64 4), (15, .int .u64 16), (16, .int .u64 15), (49, .int .i64 (IntKind.wrap .i64 (t16 - 1))), (52, .int .u64 (band .u64 t13 15))] ?_
   obtain ⟨hc18, h⟩ := of_cond0 h
   refine RegI.o (OpE.run 53 (by kernel_rfl) (run_strIdx (T0 := 9) (s := (⟨#[48, 49, 50, 51, 52, 53, 54, 55, 56, 57, 97, 98, 99, 100, 101, 102, 103, 104, 105, 106, 107, 108, 109, 110, 111, 112, 113, 114, 115, 116, 117, 118, 119, 120, 121, 122]⟩ : ByteArray)) (j := (band .u64 t13 15)) (by kernel_rfl) (by kernel_rfl) hc18) ?_)
   obtain ⟨hc19, h⟩ := of_cond0 h
   refine RegI.o (OpE.run 54 (by kernel_rfl) (run_idxArr (T := 178) (b := b14) (o := 0) (ix := (IntKind.wrap .i64 (t16 - 1))) (len := 65) (s := 1) (by kernel_rfl) (by kernel_rfl) hc19) ?_)
   obtain ⟨hc20, h⟩ := of_cond0 h
   refine RegI.o (OpE.storeArr (en := (fun (x : Int) => ([.int .u8 x] : List Value))) 0 5 b14 1 (IntKind.wrap .i64 (t16 - 1)) (.int .u8 (btD (⟨#[48, 49, 50, 51, 52, 53, 54, 55, 56, 57, 97, 98, 99, 100, 101, 102, 103, 104, 105, 106, 107, 108, 109, 110, 111, 112, 113, 114, 115, 116, 117, 118, 119, 120, 121, 122]⟩ : ByteArray) (band .u64 t13 15))) (xs := t15) (btD (⟨#[48, 49, 50, 51, 52, 53, 54, 55, 56, 57, 97, 98, 99, 100, 101, 102, 103, 104, 105, 106, 107, 108, 109, 110, 111, 112, 113, 114, 115, 116, 117, 118, 119, 120, 121, 122]⟩ : ByteArray) (band .u64 t13 15)) (o := 0 + (Int.toNat (IntKind.wrap .i64 (t16 - 1))) * 1) hH (by kernel_rfl) (by kernel_rfl) rfl (fun _ => rfl) (by omega) (by kernel_rfl) (by kernel_rfl) hc20 ?_)
   intro w21 h22 hk23
   refine RegI.d ?_
   refine RunsI.r ?_
   refine RegI.p 4 [(0, .slice none 0 0), (1, .int .u64 (Int.fdiv t13 (2 ^ 4))), (3, .bool (decide (p0 < 0))), (4, .bool false), (10, .slice none 0 0), (11, .string (⟨#[]⟩ : ByteArray)), (12, .pointer (some ⟨b14, 0, none⟩)), (13, .int .i64 (IntKind.wrap .i64 (t16 - 1))), (14, .int .u64 4), (15, .int .u64 16), (16, .int .u64 15)] ?_
   refine RegI.d ?_
   refine RunsI.g 2 [.c 31, .lp 31, .blk 0, .c 43, .c 68] ?_
   refine RunsI.l [0, 1, 3, 4, 10, 11, 12, 13, 14, 15, 16] [(0, .slice none 0 0), (1, .int .u64 (Int.fdiv t13 (2 ^ 4))), (3, .bool (decide (p0 < 0))), (4, .bool false), (10, .slice none 0 0), (11, .string (⟨#[]⟩ : ByteArray)), (12, .pointer (some ⟨b14, 0, none⟩)), (13, .int .i64 (IntKind.wrap .i64 (t16 - 1))), (14, .int .u64 4), (15, .int .u64 16), (16, .int .u64 15)] ?_
   exact ih (Int.fdiv t13 (2 ^ 4)) (stD t15 (IntKind.wrap .i64 (t16 - 1)) (btD (⟨#[48, 49, 50, 51, 52, 53, 54, 55, 56, 57, 97, 98, 99, 100, 101, 102, 103, 104, 105, 106, 107, 108, 109, 110, 111, 112, 113, 114, 115, 116, 117, 118, 119, 120, 121, 122]⟩ : ByteArray) (band .u64 t13 15))) (IntKind.wrap .i64 (t16 - 1)) w21 h (h22.pick [0, 1, 2, 3] (by decide))
  ·skip
   refine RunsI.f 46 false hc17 ?_
   refine RunsI.b false 36 ?_
   refine RunsI.g 1 [.c 43, .c 68] ?_
   refine RunsI.l [0, 1, 3, 4, 10, 11, 12, 13] [(0, .slice none 0 0), (1, .int .u64 t13), (3, .bool (decide (p0 < 0))), (4, .bool false), (10, .slice none 0 0), (11, .string (⟨#[]⟩ : ByteArray)), (12, .pointer (some ⟨b14, 0, none⟩)), (13, .int .i64 t16)] ?_
   exact hk0 t13 t15 t16 w (Option.some.inj h).symm (hH.pick [0, 1, 2, 3] (by decide))
def text_Hex_48.f (K : Nat) (p0 : Int) (p1 : Int) : Option ByteArray := Let (fun (t7 : Int) => (text_Hex_48.l0 K p0 p1 K t7 (List.replicate 65 0) 65).bind (fun yx27 => cond (inR yx27.1 (⟨#[48, 49, 50, 51, 52, 53, 54, 55, 56, 57, 97, 98, 99, 100, 101, 102, 103, 104, 105, 106, 107, 108, 109, 110, 111, 112, 113, 114, 115, 116, 117, 118, 119, 120, 121, 122]⟩ : ByteArray).size) (cond (inR (IntKind.wrap .i64 (yx27.2.2 - 1)) 65) (cond (inR (IntKind.wrap .i64 (yx27.2.2 - 1)) yx27.2.1.length) (Let (fun (yj50 : (List Int) × Int) => cond (cutR yj50.2 65 65) (cond (Nat.beq yj50.1.length 65) ((strings_CutPrefix_33.f K (strOf (cutL yj50.1 yj50.2 65)) (⟨#[45]⟩ : ByteArray)).bind fun yt59 => Let (fun (t68 : ByteArray) => cond yt59.2 (cond (mayCat (⟨#[45]⟩ : ByteArray).size t68.size) (cond (mayCat ((⟨#[45]⟩ : ByteArray) ++ t68).size (⟨#[104]⟩ : ByteArray).size) (some (((⟨#[45]⟩ : ByteArray) ++ t68) ++ (⟨#[104]⟩ : ByteArray))) none) none) (cond (mayCat t68.size (⟨#[104]⟩ : ByteArray).size) (some (t68 ++ (⟨#[104]⟩ : ByteArray))) none)) (fun j71 => cond (decide ((IntKind.wrap .i64 ((if (if 8 < p1 then 8 else p1) > 0 then (if 8 < p1 then 8 else p1) else 0) - (yt59.1.size : Int))) > 0)) ((strings_Repeat_81.f K (⟨#[48]⟩ : ByteArray) (IntKind.wrap .i64 ((if (if 8 < p1 then 8 else p1) > 0 then (if 8 < p1 then 8 else p1) else 0) - (yt59.1.size : Int)))).bind fun t66 => cond (mayCat t66.size yt59.1.size) (j71 (t66 ++ yt59.1)) none) (j71 yt59.1))) none) none) (fun j50 => cond (decide (p0 < 0)) (cond (inR (IntKind.wrap .i64 ((IntKind.wrap .i64 (yx27.2.2 - 1)) - 1)) 65) (cond (inR (IntKind.wrap .i64 ((IntKind.wrap .i64 (yx27.2.2 - 1)) - 1)) (stD yx27.2.1 (IntKind.wrap .i64 (yx27.2.2 - 1)) (btD (⟨#[48, 49, 50, 51, 52, 53, 54, 55, 56, 57, 97, 98, 99, 100, 101, 102, 103, 104, 105, 106, 107, 108, 109, 110, 111, 112, 113, 114, 115, 116, 117, 118, 119, 120, 121, 122]⟩ : ByteArray) yx27.1)).length) (j50 ((stD (stD yx27.2.1 (IntKind.wrap .i64 (yx27.2.2 - 1)) (btD (⟨#[48, 49, 50, 51, 52, 53, 54, 55, 56, 57, 97, 98, 99, 100, 101, 102, 103, 104, 105, 106, 107, 108, 109, 110, 111, 112, 113, 114, 115, 116, 117, 118, 119, 120, 121, 122]⟩ : ByteArray) yx27.1)) (IntKind.wrap .i64 ((IntKind.wrap .i64 (yx27.2.2 - 1)) - 1)) 45), (IntKind.wrap .i64 ((IntKind.wrap .i64 (yx27.2.2 - 1)) - 1)))) none) none) (j50 ((stD yx27.2.1 (IntKind.wrap .i64 (yx27.2.2 - 1)) (btD (⟨#[48, 49, 50, 51, 52, 53, 54, 55, 56, 57, 97, 98, 99, 100, 101, 102, 103, 104, 105, 106, 107, 108, 109, 110, 111, 112, 113, 114, 115, 116, 117, 118, 119, 120, 121, 122]⟩ : ByteArray) yx27.1)), (IntKind.wrap .i64 (yx27.2.2 - 1)))))) none) none) none)) (fun j10 => cond (decide (p0 < 0)) (j10 (IntKind.wrap .u64 (0 - (IntKind.wrap .u64 p0)))) (j10 (IntKind.wrap .u64 p0)))
set_option maxRecDepth 100000 in
theorem text_Hex_48_ok (K : Nat) (M0 : Nat → Prop) (w0 : World) (p0 : Int) (p1 : Int) (ho : ∀ b, M0 b → b < w0.heap.size) (hG12 : (gl 12 (tab_12.flatMap en_12)).ok w0 M0) (hG15 : (gl 15 (tab_15.flatMap en_15)).ok w0 M0) (hG16 : (gl 16 (tab_16.flatMap en_16)).ok w0 M0) {r : ByteArray} (h : text_Hex_48.f K p0 p1 = some r) :
  Calls Tryd.prog 48 #[.int .i64 p0, .int .i64 p1] w0 (text_Hex_48.post M0 w0 r) := by
 unfold text_Hex_48.f at h
 have h0 : Holds M0 w0 w0 [] := Holds.start ho
 have h0g12 := h0.add (gl 12 (tab_12.flatMap en_12)) rfl ⟨hG12.1, fun hm => hG12.2.1 (hm.elim id (fun hm => absurd hm (by simp [mines, sl, gl]))), hG12.2.2⟩
 have h0g15 := h0g12.add (gl 15 (tab_15.flatMap en_15)) rfl ⟨hG15.1, fun hm => hG15.2.1 (hm.elim id (fun hm => absurd hm (by simp [mines, sl, gl]))), hG15.2.2⟩
 have h0g16 := h0g15.add (gl 16 (tab_16.flatMap en_16)) rfl ⟨hG16.1, fun hm => hG16.2.1 (hm.elim id (fun hm => absurd hm (by simp [mines, sl, gl]))), hG16.2.2⟩
 have h0 : Holds M0 w0 w0 [gl 12 (tab_12.flatMap en_12), gl 15 (tab_15.flatMap en_15), gl 16 (tab_16.flatMap en_16)] := h0g16
 refine calls_of F48 rfl [.int .i64 p0, .int .i64 p1] (by kernel_rfl) ?_
 refine RunsI.g 1 [.c 1, .c 2] ?_
 refine RunsI.r ?_
 refine RegI.p 1 [(0, .int .i64 p0), (1, .int .i64 p1)] ?_
 refine RegI.d ?_
 refine RunsI.g 1 [.c 3, .c 4] ?_
 refine RunsI.r ?_
 refine RegI.p 1 [(1, .int .i64 p1), (9, .int .i64 p0)] ?_
 refine RegI.enter 10 [1] [(1, .int .i64 p1)] (by kernel_rfl) (by kernel_rfl) (by kernel_rfl) (by kernel_rfl) F80 80 rfl [.int .i64 p0, .int .i64 16] (by kernel_rfl) (by kernel_rfl) ?_
 refine RunsI.g 1 [.c 1, .c 2] ?_
 refine RunsI.r ?_
 refine RegI.p 1 [(0, .int .i64 p0), (1, .int .i64 16)] ?_
 refine RegI.d ?_
 refine RunsI.g 1 [.c 3, .c 4] ?_
 refine RunsI.r ?_
 refine RegI.p 2 [(5, .int .i64 p0), (6, .int .i64 16)] ?_
 refine RegI.enter 7 [] [] (by kernel_rfl) (by kernel_rfl) (by kernel_rfl) (by kernel_rfl) F114 114 rfl [.int .i64 p0, .int .i64 16] (by kernel_rfl) (by kernel_rfl) ?_
 refine RunsI.g 1 [.c 1, .c 2] ?_
 refine RunsI.r ?_
 refine RegI.p 1 [(0, .int .i64 p0), (1, .int .i64 16)] ?_
 refine RegI.d ?_
 refine RunsI.g 2 [.c 4, .c 5, .c 42] ?_
 refine RunsI.r ?_
 refine RegI.p 2 [(0, .int .i64 p0), (1, .int .i64 16), (11, .bool false)] ?_
 refine RegI.d ?_
 refine RunsI.b false 41 ?_
 refine RunsI.g 2 [.c 43, .c 44] ?_
 refine RunsI.r ?_
 refine RegI.p 5 [(46, .int .u64 (IntKind.wrap .u64 p0)), (47, .int .i64 16), (49, .bool (decide (p0 < 0)))] ?_
 refine RegI.enter 50 [] [] (by kernel_rfl) (by kernel_rfl) (by kernel_rfl) (by kernel_rfl) F137 137 rfl [.slice none 0 0, .int .u64 (IntKind.wrap .u64 p0), .int .i64 16, .bool (decide (p0 < 0)), .bool false] (by kernel_rfl) (by kernel_rfl) ?_
 refine RunsI.g 1 [.c 1, .c 2] ?_
 refine RunsI.r ?_
 refine RegI.p 2 [(0, .slice none 0 0), (1, .int .u64 (IntKind.wrap .u64 p0)), (2, .int .i64 16), (3, .bool (decide (p0 < 0))), (4, .bool false), (10, .slice none 0 0), (11, .string (⟨#[]⟩ : ByteArray))] ?_
 refine RegI.d ?_
 refine RunsI.g 2 [.c 4, .c 5, .c 8] ?_
 refine RunsI.r ?_
 refine RegI.p 10 [(0, .slice none 0 0), (1, .int .u64 (IntKind.wrap .u64 p0)), (2, .int .i64 16), (3, .bool (decide (p0 < 0))), (4, .bool false), (10, .slice none 0 0), (11, .string (⟨#[]⟩ : ByteArray)), (28, .bool false)] ?_
 refine RegI.d ?_
 refine RunsI.b false 7 ?_
 refine RunsI.g 2 [.c 9, .c 10] ?_
 refine RunsI.r ?_
 refine RegI.o (OpE.box 12 178 (List.flatMap (fun (x : Int) => ([.int .u8 x] : List Value)) (List.replicate 65 0)) h0 (by kernel_rfl) (by kernel_rfl) ?_)
 intro w1 b2 h3 hb4 hn5
 refine RegI.d ?_
 refine RunsI.g 1 [.c 11, .c 12] ?_
 refine RunsI.r ?_
 refine RegI.p 1 [(0, .slice none 0 0), (1, .int .u64 (IntKind.wrap .u64 p0)), (2, .int .i64 16), (3, .bool (decide (p0 < 0))), (4, .bool false), (10, .slice none 0 0), (11, .string (⟨#[]⟩ : ByteArray)), (12, .pointer (some ⟨b2, 0, none⟩)), (13, .int .i64 65)] ?_
 refine RegI.d ?_
 refine RunsI.g 2 [.c 14, .c 15, .c 18] ?_
 refine RunsI.r ?_
 refine RegI.p 1 [(0, .slice none 0 0), (1, .int .u64 (IntKind.wrap .u64 p0)), (2, .int .i64 16), (3, .bool (decide (p0 < 0))), (4, .bool false), (10, .slice none 0 0), (11, .string (⟨#[]⟩ : ByteArray)), (12, .pointer (some ⟨b2, 0, none⟩)), (13, .int .i64 65), (30, .bool (decide (p0 < 0)))] ?_
 refine RegI.d ?_
 obtain ⟨j10, hJ11, h⟩ := of_let h
 have hj12 : ∀ (t7 : Int) (w9 : World), j10 t7 = some r → Holds M0 w0 w9 [box b2 178 (List.flatMap (fun (x : Int) => ([.int .u8 x] : List Value)) (List.replicate 65 0)), gl 12 (tab_12.flatMap en_12), gl 15 (tab_15.flatMap en_15), gl 16 (tab_16.flatMap en_16)] → RunsI F137 [.c 18] [(0, .slice none 0 0), (1, .int .u64 t7), (2, .int .i64 16), (3, .bool (decide (p0 < 0))), (4, .bool false), (10, .slice none 0 0), (11, .string (⟨#[]⟩ : ByteArray)), (12, .pointer (some ⟨b2, 0, none⟩)), (13, .int .i64 65)] w9 (cont (fun e' w' => RegI F114 43 [.c 44] 6 e' w' (cont (fun e' w' => RegI F80 3 [.c 4] 3 e' w' (cont (fun e' w' => RegI F48 3 [.c 4] 2 e' w' (text_Hex_48.post M0 w0 r)) 10 [(1, .int .i64 p1)])) 7 [])) 50 []) := by
  intro t7 w9 h h8
  rw [hJ11] at h
  clear hJ11
  dsimp only at h
  refine RunsI.g 2 [.c 20, .c 21, .c 68] ?_
  refine RunsI.r ?_
  refine RegI.p 1 [(0, .slice none 0 0), (1, .int .u64 t7), (2, .int .i64 16), (3, .bool (decide (p0 < 0))), (4, .bool false), (10, .slice none 0 0), (11, .string (⟨#[]⟩ : ByteArray)), (12, .pointer (some ⟨b2, 0, none⟩)), (13, .int .i64 65), (33, .int .i64 16)] ?_
  refine RegI.enter 34 [0, 1, 2, 3, 4, 10, 11, 12, 13] [(0, .slice none 0 0), (1, .int .u64 t7), (2, .int .i64 16), (3, .bool (decide (p0 < 0))), (4, .bool false), (10, .slice none 0 0), (11, .string (⟨#[]⟩ : ByteArray)), (12, .pointer (some ⟨b2, 0, none⟩)), (13, .int .i64 65)] (by kernel_rfl) (by kernel_rfl) (by kernel_rfl) (by kernel_rfl) F156 156 rfl [.int .i64 16] (by kernel_rfl) (by kernel_rfl) ?_
  refine RunsI.g 1 [.c 1, .c 2] ?_
  refine RunsI.r ?_
  refine RegI.p 1 [(0, .int .i64 16)] ?_
  refine RegI.d ?_
  refine RunsI.g 1 [.c 3, .c 4] ?_
  refine RunsI.r ?_
  refine RegI.p 6 [(2, .bool true)] ?_
  refine RegI.d ?_
  refine RunsI.t (.bool true) ?_
  refine cont_mk ?_
  refine RegI.d ?_
  refine RunsI.b true 22 ?_
  refine RunsI.g 1 [.c 23, .c 24, .c 68] ?_
  refine RunsI.r ?_
  refine RegI.p 2 [(0, .slice none 0 0), (1, .int .u64 t7), (2, .int .i64 16), (3, .bool (decide (p0 < 0))), (4, .bool false), (10, .slice none 0 0), (11, .string (⟨#[]⟩ : ByteArray)), (12, .pointer (some ⟨b2, 0, none⟩)), (13, .int .i64 65), (36, .int .u64 16)] ?_
  refine RegI.enter 37 [0, 1, 2, 3, 4, 10, 11, 12, 13] [(0, .slice none 0 0), (1, .int .u64 t7), (2, .int .i64 16), (3, .bool (decide (p0 < 0))), (4, .bool false), (10, .slice none 0 0), (11, .string (⟨#[]⟩ : ByteArray)), (12, .pointer (some ⟨b2, 0, none⟩)), (13, .int .i64 65)] (by kernel_rfl) (by kernel_rfl) (by kernel_rfl) (by kernel_rfl) F157 157 rfl [.int .u64 16] (by kernel_rfl) (by kernel_rfl) ?_
  refine RunsI.g 1 [.c 1, .c 2] ?_
  refine RunsI.r ?_
  refine RegI.p 1 [(0, .int .u64 16)] ?_
  refine RegI.d ?_
  refine RunsI.g 1 [.c 3, .c 8] ?_
  refine RunsI.b false 7 ?_
  refine RunsI.g 2 [.c 9, .c 10] ?_
  refine RunsI.r ?_
  refine RegI.p 1 [(6, .int .u64 16)] ?_
  refine RegI.enter 7 [] [] (by kernel_rfl) (by kernel_rfl) (by kernel_rfl) (by kernel_rfl) F172 172 rfl [.int .u64 16] (by kernel_rfl) (by kernel_rfl) ?_
  refine RunsI.g 1 [.c 1, .c 2] ?_
  refine RunsI.r ?_
  refine RegI.p 1 [(0, .int .u64 16)] ?_
  refine RegI.d ?_
  refine RunsI.g 2 [.c 4, .c 5, .c 10] ?_
  refine RunsI.r ?_
  refine RegI.p 2 [(0, .int .u64 16), (4, .bool false)] ?_
  refine RegI.d ?_
  refine RunsI.b false 9 ?_
  refine RunsI.g 2 [.c 11, .c 12] ?_
  refine RunsI.r ?_
  refine RegI.p 6 [(10, .int .u64 15)] ?_
  refine RegI.o (OpE.run 11 (by kernel_rfl) (run_idxArr (T := 206) (b := 16) (o := 0) (ix := 15) (len := 64) (s := 1) (by kernel_rfl) (by kernel_rfl) (by kernel_rfl)) ?_)
  refine RegI.o (OpE.loadTab 12 3 5 en_16 tab_16 0 1 15 (.int .u8 4) (o := 0 + (Int.toNat 15) * 1 + 0) h8 (by kernel_rfl) rfl (fun _ => rfl) (by kernel_rfl) (by omega) (by kernel_rfl) (fun _ => by kernel_rfl) ?_)
  refine RegI.p 2 [(2, .int .i64 4)] ?_
  refine RegI.d ?_
  refine RunsI.t (.int .i64 4) ?_
  refine cont_mk ?_
  refine RegI.p 1 [(2, .int .i64 4)] ?_
  refine RegI.d ?_
  refine RunsI.t (.int .i64 4) ?_
  refine cont_mk ?_
  refine RegI.p 2 [(0, .slice none 0 0), (1, .int .u64 t7), (2, .int .i64 16), (3, .bool (decide (p0 < 0))), (4, .bool false), (10, .slice none 0 0), (11, .string (⟨#[]⟩ : ByteArray)), (12, .pointer (some ⟨b2, 0, none⟩)), (13, .int .i64 65), (14, .int .u64 4)] ?_
  refine RegI.d ?_
  refine RunsI.g 1 [.c 25, .c 26, .c 68] ?_
  refine RunsI.r ?_
  refine RegI.p 3 [(0, .slice none 0 0), (1, .int .u64 t7), (2, .int .i64 16), (3, .bool (decide (p0 < 0))), (4, .bool false), (10, .slice none 0 0), (11, .string (⟨#[]⟩ : ByteArray)), (12, .pointer (some ⟨b2, 0, none⟩)), (13, .int .i64 65), (14, .int .u64 4), (15, .int .u64 16)] ?_
  refine RegI.d ?_
  refine RunsI.g 1 [.c 27, .c 28, .c 68] ?_
  refine RunsI.r ?_
  refine RegI.p 4 [(0, .slice none 0 0), (1, .int .u64 t7), (3, .bool (decide (p0 < 0))), (4, .bool false), (10, .slice none 0 0), (11, .string (⟨#[]⟩ : ByteArray)), (12, .pointer (some ⟨b2, 0, none⟩)), (13, .int .i64 65), (14, .int .u64 4), (15, .int .u64 16), (16, .int .u64 15)] ?_
  refine RegI.d ?_
  refine RunsI.g 3 [.c 31, .lp 31, .blk 0, .c 43, .c 68] ?_
  obtain ⟨x27, hx28, h⟩ := of_bind h
  refine RunsI.l [0, 1, 3, 4, 10, 11, 12, 13, 14, 15, 16] [(0, .slice none 0 0), (1, .int .u64 t7), (3, .bool (decide (p0 < 0))), (4, .bool false), (10, .slice none 0 0), (11, .string (⟨#[]⟩ : ByteArray)), (12, .pointer (some ⟨b2, 0, none⟩)), (13, .int .i64 65), (14, .int .u64 4), (15, .int .u64 16), (16, .int .u64 15)] ?_
  refine text_Hex_48.l0_ok K M0 w0 p0 p1 b2 _ x27 ?_ K t7 (List.replicate 65 0) 65 w9 hx28 (h8.pick [0, 1, 2, 3] (by decide))
  ·intro t29 t30 t31 w33 hq78 h32
   (try rw [hq78] at h)
   dsimp only at h
   refine RunsI.g 1 [.c 44, .c 45, .c 68] ?_
   refine RunsI.r ?_
   refine RegI.p 3 [(0, .slice none 0 0), (1, .int .u64 t29), (3, .bool (decide (p0 < 0))), (4, .bool false), (10, .slice none 0 0), (11, .string (⟨#[]⟩ : ByteArray)), (12, .pointer (some ⟨b2, 0, none⟩)), (13, .int .i64 (IntKind.wrap .i64 (t31 - 1)))] ?_
   refine RegI.d ?_
   refine RunsI.r ?_
   refine RegI.p 2 [(0, .slice none 0 0), (3, .bool (decide (p0 < 0))), (4, .bool false), (10, .slice none 0 0), (11, .string (⟨#[]⟩ : ByteArray)), (12, .pointer (some ⟨b2, 0, none⟩)), (13, .int .i64 (IntKind.wrap .i64 (t31 - 1))), (60, .int .i64 (IntKind.wrap .i64 (t31 - 1))), (61, .int .u64 t29)] ?_
   obtain ⟨hc34, h⟩ := of_cond0 h
   refine RegI.o (OpE.run 62 (by kernel_rfl) (run_strIdx (T0 := 9) (s := (⟨#[48, 49, 50, 51, 52, 53, 54, 55, 56, 57, 97, 98, 99, 100, 101, 102, 103, 104, 105, 106, 107, 108, 109, 110, 111, 112, 113, 114, 115, 116, 117, 118, 119, 120, 121, 122]⟩ : ByteArray)) (j := t29) (by kernel_rfl) (by kernel_rfl) hc34) ?_)
   obtain ⟨hc35, h⟩ := of_cond0 h
   refine RegI.o (OpE.run 63 (by kernel_rfl) (run_idxArr (T := 178) (b := b2) (o := 0) (ix := (IntKind.wrap .i64 (t31 - 1))) (len := 65) (s := 1) (by kernel_rfl) (by kernel_rfl) hc35) ?_)
   obtain ⟨hc36, h⟩ := of_cond0 h
   refine RegI.o (OpE.storeArr (en := (fun (x : Int) => ([.int .u8 x] : List Value))) 0 5 b2 1 (IntKind.wrap .i64 (t31 - 1)) (.int .u8 (btD (⟨#[48, 49, 50, 51, 52, 53, 54, 55, 56, 57, 97, 98, 99, 100, 101, 102, 103, 104, 105, 106, 107, 108, 109, 110, 111, 112, 113, 114, 115, 116, 117, 118, 119, 120, 121, 122]⟩ : ByteArray) t29)) (xs := t30) (btD (⟨#[48, 49, 50, 51, 52, 53, 54, 55, 56, 57, 97, 98, 99, 100, 101, 102, 103, 104, 105, 106, 107, 108, 109, 110, 111, 112, 113, 114, 115, 116, 117, 118, 119, 120, 121, 122]⟩ : ByteArray) t29) (o := 0 + (Int.toNat (IntKind.wrap .i64 (t31 - 1))) * 1) h32 (by kernel_rfl) (by kernel_rfl) rfl (fun _ => rfl) (by omega) (by kernel_rfl) (by kernel_rfl) hc36 ?_)
   intro w37 h38 hk39
   refine RegI.d ?_
   refine RunsI.g 2 [.c 70, .c 71, .c 76] ?_
   refine RunsI.r ?_
   refine RegI.p 1 [(0, .slice none 0 0), (4, .bool false), (10, .slice none 0 0), (11, .string (⟨#[]⟩ : ByteArray)), (12, .pointer (some ⟨b2, 0, none⟩)), (13, .int .i64 (IntKind.wrap .i64 (t31 - 1))), (89, .bool (decide (p0 < 0)))] ?_
   refine RegI.d ?_
   obtain ⟨j50, hJ51, h⟩ := of_let h
   have hj52 : ∀ (t46 : List Int) (t47 : Int) (w49 : World), j50 (t46, t47) = some r → Holds M0 w0 w49 [box b2 178 (List.flatMap (fun (x : Int) => ([.int .u8 x] : List Value)) t46), gl 12 (tab_12.flatMap en_12), gl 15 (tab_15.flatMap en_15), gl 16 (tab_16.flatMap en_16)] → RunsI F137 [.c 76] [(0, .slice none 0 0), (4, .bool false), (10, .slice none 0 0), (11, .string (⟨#[]⟩ : ByteArray)), (12, .pointer (some ⟨b2, 0, none⟩)), (13, .int .i64 t47)] w49 (cont (fun e' w' => RegI F114 43 [.c 44] 6 e' w' (cont (fun e' w' => RegI F80 3 [.c 4] 3 e' w' (cont (fun e' w' => RegI F48 3 [.c 4] 2 e' w' (text_Hex_48.post M0 w0 r)) 10 [(1, .int .i64 p1)])) 7 [])) 50 []) := by
    intro t46 t47 w49 h h48
    rw [hJ51] at h
    clear hJ51
    dsimp only at h
    refine RunsI.g 2 [.c 78, .c 79, .c 84] ?_
    refine RunsI.r ?_
    refine RegI.p 1 [(0, .slice none 0 0), (10, .slice none 0 0), (11, .string (⟨#[]⟩ : ByteArray)), (12, .pointer (some ⟨b2, 0, none⟩)), (13, .int .i64 t47), (94, .bool false)] ?_
    refine RegI.d ?_
    refine RunsI.b false 83 ?_
    refine RunsI.g 2 [.c 85, .c 86] ?_
    refine RunsI.r ?_
    refine RegI.p 1 [(10, .slice none 0 0), (12, .pointer (some ⟨b2, 0, none⟩)), (99, .int .i64 t47)] ?_
    obtain ⟨hc53, h⟩ := of_cond0 h
    refine RegI.o (OpE.run 100 (by kernel_rfl) (run_cutArr (T := 178) (b := b2) (lo := (some t47)) (hi := none) (len := 65) (sz := 1) (by kernel_rfl) (by kernel_rfl) hc53) ?_)
    obtain ⟨hc54, h⟩ := of_cond0 h
    refine RegI.o (OpE.run 101 (by kernel_rfl) (run_toStr (s := 23) (d := 9) (v := (slicedAt ⟨b2, 0, none⟩ (Int.toNat t47) (Int.toNat 65) 65 1)) (by kernel_rfl) (by kernel_rfl) (h48.rdArr 0 rfl t47 65 hc54 hc53)) ?_)
    refine RegI.p 1 [(10, .slice none 0 0), (11, .string (strOf (cutL t46 t47 65)))] ?_
    refine RegI.d ?_
    refine RunsI.t (.tuple #[.slice none 0 0, .string (strOf (cutL t46 t47 65))]) ?_
    refine cont_mk ?_
    refine RegI.p 5 [(9, .string (strOf (cutL t46 t47 65)))] ?_
    refine RegI.d ?_
    refine RunsI.g 1 [.c 45, .c 46] ?_
    refine RunsI.r ?_
    refine RegI.p 2 [(4, .string (strOf (cutL t46 t47 65)))] ?_
    refine RegI.d ?_
    refine RunsI.t (.string (strOf (cutL t46 t47 65))) ?_
    refine cont_mk ?_
    refine RegI.p 1 [(4, .string (strOf (cutL t46 t47 65)))] ?_
    refine RegI.d ?_
    refine RunsI.t (.string (strOf (cutL t46 t47 65))) ?_
    refine cont_mk ?_
    obtain ⟨⟨t59, t60⟩, hg58, h⟩ := of_bind h
    dsimp only at h
    refine RegI.o (OpE.call 11 (by kernel_rfl) 33 #[.string (strOf (cutL t46 t47 65)), .string (⟨#[45]⟩ : ByteArray)] (by kernel_rfl) ((strings_CutPrefix_33_ok K _ w49  (strOf (cutL t46 t47 65)) (⟨#[45]⟩ : ByteArray) h48.old' hg58).mono ?_))
    rintro _ w55 ⟨rfl, hb56⟩
    refine ⟨_, rfl, ?_⟩
    have h57 := h48.call hb56
    refine RegI.p 5 [(1, .int .i64 p1), (5, .string t59), (6, .bool t60)] ?_
    refine RegI.d ?_
    refine RunsI.g 2 [.c 6, .c 7, .c 12] ?_
    refine RunsI.r ?_
    refine RegI.p 7 [(5, .string t59), (6, .bool t60), (7, .int .i64 (IntKind.wrap .i64 ((if (if 8 < p1 then 8 else p1) > 0 then (if 8 < p1 then 8 else p1) else 0) - (t59.size : Int))))] ?_
    refine RegI.d ?_
    refine RunsI.g 1 [.c 8, .c 9, .c 12] ?_
    refine RunsI.r ?_
    refine RegI.p 2 [(5, .string t59), (6, .bool t60), (7, .int .i64 (IntKind.wrap .i64 ((if (if 8 < p1 then 8 else p1) > 0 then (if 8 < p1 then 8 else p1) else 0) - (t59.size : Int)))), (21, .bool (decide ((IntKind.wrap .i64 ((if (if 8 < p1 then 8 else p1) > 0 then (if 8 < p1 then 8 else p1) else 0) - (t59.size : Int))) > 0)))] ?_
    refine RegI.d ?_
    obtain ⟨j71, hJ72, h⟩ := of_let h
    have hj73 : ∀ (t68 : ByteArray) (w70 : World), j71 t68 = some r → Holds M0 w0 w70 [gl 12 (tab_12.flatMap en_12), gl 15 (tab_15.flatMap en_15), gl 16 (tab_16.flatMap en_16)] → RunsI F48 [.c 12] [(5, .string t68), (6, .bool t60)] w70 (text_Hex_48.post M0 w0 r) := by
     intro t68 w70 h h69
     rw [hJ72] at h
     clear hJ72
     dsimp only at h
     refine RunsI.g 2 [.c 14, .c 15, .c 18] ?_
     refine RunsI.r ?_
     refine RegI.p 1 [(5, .string t68), (26, .bool t60)] ?_
     refine RegI.d ?_
     rcases of_cond h with ⟨hc74, h⟩ | ⟨hc74, h⟩
     ·skip
      refine RunsI.f 26 true hc74 ?_
      refine RunsI.b true 16 ?_
      refine RunsI.r ?_
      refine RegI.p 1 [(27, .string t68)] ?_
      obtain ⟨hc75, h⟩ := of_cond0 h
      refine RegI.o (OpE.run 28 (by kernel_rfl) (run_cat (a := (⟨#[45]⟩ : ByteArray)) (b := t68) (by kernel_rfl) hc75) ?_)
      refine RegI.p 1 [(5, .string ((⟨#[45]⟩ : ByteArray) ++ t68))] ?_
      refine RegI.d ?_
      refine RunsI.g 1 [.c 19, .c 20] ?_
      refine RunsI.r ?_
      refine RegI.p 1 [(29, .string ((⟨#[45]⟩ : ByteArray) ++ t68))] ?_
      obtain ⟨hc76, h⟩ := of_cond0 h
      refine RegI.o (OpE.run 30 (by kernel_rfl) (run_cat (a := ((⟨#[45]⟩ : ByteArray) ++ t68)) (b := (⟨#[104]⟩ : ByteArray)) (by kernel_rfl) hc76) ?_)
      refine RegI.p 1 [(4, .string (((⟨#[45]⟩ : ByteArray) ++ t68) ++ (⟨#[104]⟩ : ByteArray)))] ?_
      refine RegI.d ?_
      refine RunsI.t (.string (((⟨#[45]⟩ : ByteArray) ++ t68) ++ (⟨#[104]⟩ : ByteArray))) ?_
      obtain rfl := Option.some.inj h
      exact ⟨rfl, h69.below⟩
     ·skip
      refine RunsI.f 26 false hc74 ?_
      refine RunsI.b false 17 ?_
      refine RunsI.g 1 [.c 18] ?_
      refine RunsI.g 1 [.c 19, .c 20] ?_
      refine RunsI.r ?_
      refine RegI.p 1 [(29, .string t68)] ?_
      obtain ⟨hc77, h⟩ := of_cond0 h
      refine RegI.o (OpE.run 30 (by kernel_rfl) (run_cat (a := t68) (b := (⟨#[104]⟩ : ByteArray)) (by kernel_rfl) hc77) ?_)
      refine RegI.p 1 [(4, .string (t68 ++ (⟨#[104]⟩ : ByteArray)))] ?_
      refine RegI.d ?_
      refine RunsI.t (.string (t68 ++ (⟨#[104]⟩ : ByteArray))) ?_
      obtain rfl := Option.some.inj h
      exact ⟨rfl, h69.below⟩
    clear hJ72
    rcases of_cond h with ⟨hc61, h⟩ | ⟨hc61, h⟩
    ·skip
     refine RunsI.f 21 true hc61 ?_
     refine RunsI.b true 10 ?_
     refine RunsI.r ?_
     refine RegI.p 1 [(5, .string t59), (6, .bool t60), (22, .int .i64 (IntKind.wrap .i64 ((if (if 8 < p1 then 8 else p1) > 0 then (if 8 < p1 then 8 else p1) else 0) - (t59.size : Int))))] ?_
     obtain ⟨t66, hg65, h⟩ := of_bind h
     refine RegI.o (OpE.call 23 (by kernel_rfl) 81 #[.string (⟨#[48]⟩ : ByteArray), .int .i64 (IntKind.wrap .i64 ((if (if 8 < p1 then 8 else p1) > 0 then (if 8 < p1 then 8 else p1) else 0) - (t59.size : Int)))] (by kernel_rfl) ((strings_Repeat_81_ok K _ w55  (⟨#[48]⟩ : ByteArray) (IntKind.wrap .i64 ((if (if 8 < p1 then 8 else p1) > 0 then (if 8 < p1 then 8 else p1) else 0) - (t59.size : Int))) h57.old' hg65).mono ?_))
     rintro _ w62 ⟨rfl, hb63⟩
     refine ⟨_, rfl, ?_⟩
     have h64 := h57.call hb63
     refine RegI.p 1 [(6, .bool t60), (23, .string t66), (24, .string t59)] ?_
     obtain ⟨hc67, h⟩ := of_cond0 h
     refine RegI.o (OpE.run 25 (by kernel_rfl) (run_cat (a := t66) (b := t59) (by kernel_rfl) hc67) ?_)
     refine RegI.p 1 [(5, .string (t66 ++ t59)), (6, .bool t60)] ?_
     refine RegI.d ?_
     refine RunsI.l [5, 6] [(5, .string (t66 ++ t59)), (6, .bool t60)] ?_
     exact hj73 (t66 ++ t59) w62 h (h64.pick [1, 2, 3] (by decide))
    ·skip
     refine RunsI.f 21 false hc61 ?_
     refine RunsI.b false 11 ?_
     refine RunsI.g 1 [.c 12] ?_
     refine RunsI.l [5, 6] [(5, .string t59), (6, .bool t60)] ?_
     exact hj73 t59 w55 h (h57.pick [1, 2, 3] (by decide))
   clear hJ51
   rcases of_cond h with ⟨hc40, h⟩ | ⟨hc40, h⟩
   ·skip
    refine RunsI.f 89 true hc40 ?_
    refine RunsI.b true 72 ?_
    refine RunsI.g 1 [.c 73, .c 74, .c 76] ?_
    refine RunsI.r ?_
    refine RegI.p 3 [(0, .slice none 0 0), (4, .bool false), (10, .slice none 0 0), (11, .string (⟨#[]⟩ : ByteArray)), (12, .pointer (some ⟨b2, 0, none⟩)), (13, .int .i64 (IntKind.wrap .i64 ((IntKind.wrap .i64 (t31 - 1)) - 1)))] ?_
    refine RegI.d ?_
    refine RunsI.r ?_
    refine RegI.p 1 [(0, .slice none 0 0), (4, .bool false), (10, .slice none 0 0), (11, .string (⟨#[]⟩ : ByteArray)), (12, .pointer (some ⟨b2, 0, none⟩)), (13, .int .i64 (IntKind.wrap .i64 ((IntKind.wrap .i64 (t31 - 1)) - 1))), (92, .int .i64 (IntKind.wrap .i64 ((IntKind.wrap .i64 (t31 - 1)) - 1)))] ?_
    obtain ⟨hc41, h⟩ := of_cond0 h
    refine RegI.o (OpE.run 93 (by kernel_rfl) (run_idxArr (T := 178) (b := b2) (o := 0) (ix := (IntKind.wrap .i64 ((IntKind.wrap .i64 (t31 - 1)) - 1))) (len := 65) (s := 1) (by kernel_rfl) (by kernel_rfl) hc41) ?_)
    obtain ⟨hc42, h⟩ := of_cond0 h
    refine RegI.o (OpE.storeArr (en := (fun (x : Int) => ([.int .u8 x] : List Value))) 0 5 b2 1 (IntKind.wrap .i64 ((IntKind.wrap .i64 (t31 - 1)) - 1)) (.int .u8 45) (xs := (stD t30 (IntKind.wrap .i64 (t31 - 1)) (btD (⟨#[48, 49, 50, 51, 52, 53, 54, 55, 56, 57, 97, 98, 99, 100, 101, 102, 103, 104, 105, 106, 107, 108, 109, 110, 111, 112, 113, 114, 115, 116, 117, 118, 119, 120, 121, 122]⟩ : ByteArray) t29))) 45 (o := 0 + (Int.toNat (IntKind.wrap .i64 ((IntKind.wrap .i64 (t31 - 1)) - 1))) * 1) h38 (by kernel_rfl) (by kernel_rfl) rfl (fun _ => rfl) (by omega) (by kernel_rfl) (by kernel_rfl) hc42 ?_)
    intro w43 h44 hk45
    refine RegI.d ?_
    refine RunsI.l [0, 4, 10, 11, 12, 13] [(0, .slice none 0 0), (4, .bool false), (10, .slice none 0 0), (11, .string (⟨#[]⟩ : ByteArray)), (12, .pointer (some ⟨b2, 0, none⟩)), (13, .int .i64 (IntKind.wrap .i64 ((IntKind.wrap .i64 (t31 - 1)) - 1)))] ?_
    exact hj52 (stD (stD t30 (IntKind.wrap .i64 (t31 - 1)) (btD (⟨#[48, 49, 50, 51, 52, 53, 54, 55, 56, 57, 97, 98, 99, 100, 101, 102, 103, 104, 105, 106, 107, 108, 109, 110, 111, 112, 113, 114, 115, 116, 117, 118, 119, 120, 121, 122]⟩ : ByteArray) t29)) (IntKind.wrap .i64 ((IntKind.wrap .i64 (t31 - 1)) - 1)) 45) (IntKind.wrap .i64 ((IntKind.wrap .i64 (t31 - 1)) - 1)) w43 h (h44.pick [0, 1, 2, 3] (by decide))
   ·skip
    refine RunsI.f 89 false hc40 ?_
    refine RunsI.b false 75 ?_
    refine RunsI.g 1 [.c 76] ?_
    refine RunsI.l [0, 4, 10, 11, 12, 13] [(0, .slice none 0 0), (4, .bool false), (10, .slice none 0 0), (11, .string (⟨#[]⟩ : ByteArray)), (12, .pointer (some ⟨b2, 0, none⟩)), (13, .int .i64 (IntKind.wrap .i64 (t31 - 1)))] ?_
    exact hj52 (stD t30 (IntKind.wrap .i64 (t31 - 1)) (btD (⟨#[48, 49, 50, 51, 52, 53, 54, 55, 56, 57, 97, 98, 99, 100, 101, 102, 103, 104, 105, 106, 107, 108, 109, 110, 111, 112, 113, 114, 115, 116, 117, 118, 119, 120, 121, 122]⟩ : ByteArray) t29)) (IntKind.wrap .i64 (t31 - 1)) w37 h (h38.pick [0, 1, 2, 3] (by decide))
 clear hJ11
 rcases of_cond h with ⟨hc6, h⟩ | ⟨hc6, h⟩
 ·skip
  refine RunsI.f 30 true hc6 ?_
  refine RunsI.b true 16 ?_
  refine RunsI.r ?_
  refine RegI.p 3 [(0, .slice none 0 0), (1, .int .u64 (IntKind.wrap .u64 (0 - (IntKind.wrap .u64 p0)))), (2, .int .i64 16), (3, .bool (decide (p0 < 0))), (4, .bool false), (10, .slice none 0 0), (11, .string (⟨#[]⟩ : ByteArray)), (12, .pointer (some ⟨b2, 0, none⟩)), (13, .int .i64 65)] ?_
  refine RegI.d ?_
  refine RunsI.l [0, 1, 2, 3, 4, 10, 11, 12, 13] [(0, .slice none 0 0), (1, .int .u64 (IntKind.wrap .u64 (0 - (IntKind.wrap .u64 p0)))), (2, .int .i64 16), (3, .bool (decide (p0 < 0))), (4, .bool false), (10, .slice none 0 0), (11, .string (⟨#[]⟩ : ByteArray)), (12, .pointer (some ⟨b2, 0, none⟩)), (13, .int .i64 65)] ?_
  exact hj12 (IntKind.wrap .u64 (0 - (IntKind.wrap .u64 p0))) w1 h (h3.pick [3, 0, 1, 2] (by decide))
 ·skip
  refine RunsI.f 30 false hc6 ?_
  refine RunsI.b false 17 ?_
  refine RunsI.g 1 [.c 18] ?_
  refine RunsI.l [0, 1, 2, 3, 4, 10, 11, 12, 13] [(0, .slice none 0 0), (1, .int .u64 (IntKind.wrap .u64 p0)), (2, .int .i64 16), (3, .bool (decide (p0 < 0))), (4, .bool false), (10, .slice none 0 0), (11, .string (⟨#[]⟩ : ByteArray)), (12, .pointer (some ⟨b2, 0, none⟩)), (13, .int .i64 65)] ?_
  exact hj12 (IntKind.wrap .u64 p0) w1 h (h3.pick [3, 0, 1, 2] (by decide))
end

/-! ### (charabanc/text.shown).nn (function 89) -/
section
def text_shown_nn_89.post (M0 : Nat → Prop) (w0 : World) (r : ByteArray) : Ending → World → Prop := fun e w => e = .returned (.string r) ∧ Below w0.heap.size w0 w
def text_shown_nn_89.f (K : Nat) (p0_0_0 : Int) (p0_0_1 : Int) (p0_0_2 : Int) (p0_0_3 : Int) (p0_0_4 : Int) (p0_0_5 : Int) (p0_1 : Int) (p0_2 : Int) (p0_3 : Int) (p0_4 : Int) (p0_5 : Int) : Option ByteArray := (text_Hex_48.f K (IntKind.wrap .i64 p0_0_3) 4).bind fun t10 => some t10
set_option maxRecDepth 100000 in
theorem text_shown_nn_89_ok (K : Nat) (M0 : Nat → Prop) (w0 : World) (p0_0_0 : Int) (p0_0_1 : Int) (p0_0_2 : Int) (p0_0_3 : Int) (p0_0_4 : Int) (p0_0_5 : Int) (p0_1 : Int) (p0_2 : Int) (p0_3 : Int) (p0_4 : Int) (p0_5 : Int) (ho : ∀ b, M0 b → b < w0.heap.size) (hG12 : (gl 12 (tab_12.flatMap en_12)).ok w0 M0) (hG15 : (gl 15 (tab_15.flatMap en_15)).ok w0 M0) (hG16 : (gl 16 (tab_16.flatMap en_16)).ok w0 M0) {r : ByteArray} (h : text_shown_nn_89.f K p0_0_0 p0_0_1 p0_0_2 p0_0_3 p0_0_4 p0_0_5 p0_1 p0_2 p0_3 p0_4 p0_5 = some r) :
  Calls Tryd.prog 89 #[.agg #[.int .i64 p0_0_0, .int .u8 p0_0_1, .int .u8 p0_0_2, .int .u16 p0_0_3, .int .i64 p0_0_4, .int .i64 p0_0_5, .int .i64 p0_1, .int .i64 p0_2, .int .i64 p0_3, .int .i64 p0_4, .int .i64 p0_5]] w0 (text_shown_nn_89.post M0 w0 r) := by
 unfold text_shown_nn_89.f at h
 have h0 : Holds M0 w0 w0 [] := Holds.start ho
 have h0g12 := h0.add (gl 12 (tab_12.flatMap en_12)) rfl ⟨hG12.1, fun hm => hG12.2.1 (hm.elim id (fun hm => absurd hm (by simp [mines, sl, gl]))), hG12.2.2⟩
 have h0g15 := h0g12.add (gl 15 (tab_15.flatMap en_15)) rfl ⟨hG15.1, fun hm => hG15.2.1 (hm.elim id (fun hm => absurd hm (by simp [mines, sl, gl]))), hG15.2.2⟩
 have h0g16 := h0g15.add (gl 16 (tab_16.flatMap en_16)) rfl ⟨hG16.1, fun hm => hG16.2.1 (hm.elim id (fun hm => absurd hm (by simp [mines, sl, gl]))), hG16.2.2⟩
 have h0 : Holds M0 w0 w0 [gl 12 (tab_12.flatMap en_12), gl 15 (tab_15.flatMap en_15), gl 16 (tab_16.flatMap en_16)] := h0g16
 refine calls_of F89 rfl [.agg #[.int .i64 p0_0_0, .int .u8 p0_0_1, .int .u8 p0_0_2, .int .u16 p0_0_3, .int .i64 p0_0_4, .int .i64 p0_0_5, .int .i64 p0_1, .int .i64 p0_2, .int .i64 p0_3, .int .i64 p0_4, .int .i64 p0_5]] (by kernel_rfl) ?_
 refine RunsI.g 1 [.c 1, .c 2] ?_
 refine RunsI.r ?_
 refine RegI.o (OpE.box 1 92 [.int .i64 p0_0_0, .int .u8 p0_0_1, .int .u8 p0_0_2, .int .u16 p0_0_3, .int .i64 p0_0_4, .int .i64 p0_0_5, .int .i64 p0_1, .int .i64 p0_2, .int .i64 p0_3, .int .i64 p0_4, .int .i64 p0_5] h0 (by kernel_rfl) (by kernel_rfl) ?_)
 intro w1 b2 h3 hb4 hn5
 refine RegI.p 1 [(1, .pointer (some ⟨b2, 0, none⟩))] ?_
 refine RegI.d ?_
 refine RunsI.g 1 [.c 3, .c 4] ?_
 refine RunsI.r ?_
 refine RegI.p 2 [(4, .pointer (some ⟨b2, 3, none⟩))] ?_
 refine RegI.o (OpE.loadBox 5 3 22 b2 3 (.int .u16 p0_0_3) h3 (by kernel_rfl) (by kernel_rfl) rfl (by kernel_rfl) ?_)
 refine RegI.p 1 [(6, .int .i64 (IntKind.wrap .i64 p0_0_3))] ?_
 obtain ⟨t10, hg9, h⟩ := of_bind h
 refine RegI.o (OpE.call 7 (by kernel_rfl) 48 #[.int .i64 (IntKind.wrap .i64 p0_0_3), .int .i64 4] (by kernel_rfl) ((text_Hex_48_ok K _ w1  (IntKind.wrap .i64 p0_0_3) 4 h3.old' (h3.get 0 rfl) (h3.get 1 rfl) (h3.get 2 rfl) hg9).mono ?_))
 rintro _ w6 ⟨rfl, hb7⟩
 refine ⟨_, rfl, ?_⟩
 have h8 := h3.call hb7
 refine RegI.p 1 [(2, .string t10)] ?_
 refine RegI.d ?_
 refine RunsI.t (.string t10) ?_
 obtain rfl := Option.some.inj h
 exact ⟨rfl, h8.below⟩
end

/-! ### (charabanc/text.shown).through (function 90) -/
section
def text_shown_through_90.post (M0 : Nat → Prop) (w0 : World) (r : ByteArray) : Ending → World → Prop := fun e w => e = .returned (.string r) ∧ Below w0.heap.size w0 w
def text_shown_through_90.f (K : Nat) (p0_0_0 : Int) (p0_0_1 : Int) (p0_0_2 : Int) (p0_0_3 : Int) (p0_0_4 : Int) (p0_0_5 : Int) (p0_1 : Int) (p0_2 : Int) (p0_3 : Int) (p0_4 : Int) (p0_5 : Int) : Option ByteArray := (text_shown_nn_89.f K p0_0_0 p0_0_1 p0_0_2 p0_0_3 p0_0_4 p0_0_5 p0_1 p0_2 p0_3 p0_4 p0_5).bind fun t10 => cond (mayCat (⟨#[40]⟩ : ByteArray).size t10.size) (cond (mayCat ((⟨#[40]⟩ : ByteArray) ++ t10).size (⟨#[41]⟩ : ByteArray).size) (cond (mayCat (⟨#[108, 100, 32]⟩ : ByteArray).size (((⟨#[40]⟩ : ByteArray) ++ t10) ++ (⟨#[41]⟩ : ByteArray)).size) (cond (mayCat ((⟨#[108, 100, 32]⟩ : ByteArray) ++ (((⟨#[40]⟩ : ByteArray) ++ t10) ++ (⟨#[41]⟩ : ByteArray))).size (⟨#[44]⟩ : ByteArray).size) ((text_shown_hl_87.f K p0_0_0 p0_0_1 p0_0_2 p0_0_3 p0_0_4 p0_0_5 p0_1 p0_2 p0_3 p0_4 p0_5).bind fun t20 => cond (mayCat (((⟨#[108, 100, 32]⟩ : ByteArray) ++ (((⟨#[40]⟩ : ByteArray) ++ t10) ++ (⟨#[41]⟩ : ByteArray))) ++ (⟨#[44]⟩ : ByteArray)).size t20.size) ((text_shown_hl_87.f K p0_0_0 p0_0_1 p0_0_2 p0_0_3 p0_0_4 p0_0_5 p0_1 p0_2 p0_3 p0_4 p0_5).bind fun t23 => cond (mayCat (⟨#[108, 100, 32]⟩ : ByteArray).size t23.size) (cond (mayCat ((⟨#[108, 100, 32]⟩ : ByteArray) ++ t23).size (⟨#[44]⟩ : ByteArray).size) (cond (mayCat (((⟨#[108, 100, 32]⟩ : ByteArray) ++ t23) ++ (⟨#[44]⟩ : ByteArray)).size (((⟨#[40]⟩ : ByteArray) ++ t10) ++ (⟨#[41]⟩ : ByteArray)).size) (cond (mayCat ((⟨#[108, 100, 32]⟩ : ByteArray) ++ (((⟨#[40]⟩ : ByteArray) ++ t10) ++ (⟨#[41]⟩ : ByteArray))).size (⟨#[44, 97]⟩ : ByteArray).size) (cond (mayCat (⟨#[108, 100, 32, 97, 44]⟩ : ByteArray).size (((⟨#[40]⟩ : ByteArray) ++ t10) ++ (⟨#[41]⟩ : ByteArray)).size) (cond (inR p0_2 8) (some (rdD ([(⟨#[108, 100, 32, 40, 98, 99, 41, 44, 97]⟩ : ByteArray), (⟨#[108, 100, 32, 97, 44, 40, 98, 99, 41]⟩ : ByteArray), (⟨#[108, 100, 32, 40, 100, 101, 41, 44, 97]⟩ : ByteArray), (⟨#[108, 100, 32, 97, 44, 40, 100, 101, 41]⟩ : ByteArray), ((((⟨#[108, 100, 32]⟩ : ByteArray) ++ (((⟨#[40]⟩ : ByteArray) ++ t10) ++ (⟨#[41]⟩ : ByteArray))) ++ (⟨#[44]⟩ : ByteArray)) ++ t20), ((((⟨#[108, 100, 32]⟩ : ByteArray) ++ t23) ++ (⟨#[44]⟩ : ByteArray)) ++ (((⟨#[40]⟩ : ByteArray) ++ t10) ++ (⟨#[41]⟩ : ByteArray))), (((⟨#[108, 100, 32]⟩ : ByteArray) ++ (((⟨#[40]⟩ : ByteArray) ++ t10) ++ (⟨#[41]⟩ : ByteArray))) ++ (⟨#[44, 97]⟩ : ByteArray)), ((⟨#[108, 100, 32, 97, 44]⟩ : ByteArray) ++ (((⟨#[40]⟩ : ByteArray) ++ t10) ++ (⟨#[41]⟩ : ByteArray)))] : List ByteArray) p0_2)) none) none) none) none) none) none) none) none) none) none) none
set_option maxRecDepth 100000 in
theorem text_shown_through_90_ok (K : Nat) (M0 : Nat → Prop) (w0 : World) (p0_0_0 : Int) (p0_0_1 : Int) (p0_0_2 : Int) (p0_0_3 : Int) (p0_0_4 : Int) (p0_0_5 : Int) (p0_1 : Int) (p0_2 : Int) (p0_3 : Int) (p0_4 : Int) (p0_5 : Int) (ho : ∀ b, M0 b → b < w0.heap.size) (hG6 : (gl 6 (tab_6.flatMap en_6)).ok w0 M0) (hG12 : (gl 12 (tab_12.flatMap en_12)).ok w0 M0) (hG15 : (gl 15 (tab_15.flatMap en_15)).ok w0 M0) (hG16 : (gl 16 (tab_16.flatMap en_16)).ok w0 M0) {r : ByteArray} (h : text_shown_through_90.f K p0_0_0 p0_0_1 p0_0_2 p0_0_3 p0_0_4 p0_0_5 p0_1 p0_2 p0_3 p0_4 p0_5 = some r) :
  Calls Tryd.prog 90 #[.agg #[.int .i64 p0_0_0, .int .u8 p0_0_1, .int .u8 p0_0_2, .int .u16 p0_0_3, .int .i64 p0_0_4, .int .i64 p0_0_5, .int .i64 p0_1, .int .i64 p0_2, .int .i64 p0_3, .int .i64 p0_4, .int .i64 p0_5]] w0 (text_shown_through_90.post M0 w0 r) := by
 unfold text_shown_through_90.f at h
 have h0 : Holds M0 w0 w0 [] := Holds.start ho
 have h0g6 := h0.add (gl 6 (tab_6.flatMap en_6)) rfl ⟨hG6.1, fun hm => hG6.2.1 (hm.elim id (fun hm => absurd hm (by simp [mines, sl, gl]))), hG6.2.2⟩
 have h0g12 := h0g6.add (gl 12 (tab_12.flatMap en_12)) rfl ⟨hG12.1, fun hm => hG12.2.1 (hm.elim id (fun hm => absurd hm (by simp [mines, sl, gl]))), hG12.2.2⟩
 have h0g15 := h0g12.add (gl 15 (tab_15.flatMap en_15)) rfl ⟨hG15.1, fun hm => hG15.2.1 (hm.elim id (fun hm => absurd hm (by simp [mines, sl, gl]))), hG15.2.2⟩
 have h0g16 := h0g15.add (gl 16 (tab_16.flatMap en_16)) rfl ⟨hG16.1, fun hm => hG16.2.1 (hm.elim id (fun hm => absurd hm (by simp [mines, sl, gl]))), hG16.2.2⟩
 have h0 : Holds M0 w0 w0 [gl 6 (tab_6.flatMap en_6), gl 12 (tab_12.flatMap en_12), gl 15 (tab_15.flatMap en_15), gl 16 (tab_16.flatMap en_16)] := h0g16
 refine calls_of F90 rfl [.agg #[.int .i64 p0_0_0, .int .u8 p0_0_1, .int .u8 p0_0_2, .int .u16 p0_0_3, .int .i64 p0_0_4, .int .i64 p0_0_5, .int .i64 p0_1, .int .i64 p0_2, .int .i64 p0_3, .int .i64 p0_4, .int .i64 p0_5]] (by kernel_rfl) ?_
 refine RunsI.g 1 [.c 1, .c 2] ?_
 refine RunsI.r ?_
 refine RegI.o (OpE.box 1 92 [.int .i64 p0_0_0, .int .u8 p0_0_1, .int .u8 p0_0_2, .int .u16 p0_0_3, .int .i64 p0_0_4, .int .i64 p0_0_5, .int .i64 p0_1, .int .i64 p0_2, .int .i64 p0_3, .int .i64 p0_4, .int .i64 p0_5] h0 (by kernel_rfl) (by kernel_rfl) ?_)
 intro w1 b2 h3 hb4 hn5
 refine RegI.p 1 [(1, .pointer (some ⟨b2, 0, none⟩))] ?_
 refine RegI.d ?_
 refine RunsI.g 1 [.c 3, .c 4] ?_
 refine RunsI.r ?_
 refine RegI.o (OpE.loadBox 4 4 92 b2 0 (.agg #[.int .i64 p0_0_0, .int .u8 p0_0_1, .int .u8 p0_0_2, .int .u16 p0_0_3, .int .i64 p0_0_4, .int .i64 p0_0_5, .int .i64 p0_1, .int .i64 p0_2, .int .i64 p0_3, .int .i64 p0_4, .int .i64 p0_5]) h3 (by kernel_rfl) (by kernel_rfl) rfl (by kernel_rfl) ?_)
 obtain ⟨t10, hg9, h⟩ := of_bind h
 refine RegI.o (OpE.call 5 (by kernel_rfl) 89 #[.agg #[.int .i64 p0_0_0, .int .u8 p0_0_1, .int .u8 p0_0_2, .int .u16 p0_0_3, .int .i64 p0_0_4, .int .i64 p0_0_5, .int .i64 p0_1, .int .i64 p0_2, .int .i64 p0_3, .int .i64 p0_4, .int .i64 p0_5]] (by kernel_rfl) ((text_shown_nn_89_ok K _ w1  p0_0_0 p0_0_1 p0_0_2 p0_0_3 p0_0_4 p0_0_5 p0_1 p0_2 p0_3 p0_4 p0_5 h3.old' (h3.get 1 rfl) (h3.get 2 rfl) (h3.get 3 rfl) hg9).mono ?_))
 rintro _ w6 ⟨rfl, hb7⟩
 refine ⟨_, rfl, ?_⟩
 have h8 := h3.call hb7
 obtain ⟨hc11, h⟩ := of_cond0 h
 refine RegI.o (OpE.run 6 (by kernel_rfl) (run_cat (a := (⟨#[40]⟩ : ByteArray)) (b := t10) (by kernel_rfl) hc11) ?_)
 obtain ⟨hc12, h⟩ := of_cond0 h
 refine RegI.o (OpE.run 7 (by kernel_rfl) (run_cat (a := ((⟨#[40]⟩ : ByteArray) ++ t10)) (b := (⟨#[41]⟩ : ByteArray)) (by kernel_rfl) hc12) ?_)
 refine RegI.p 1 [(1, .pointer (some ⟨b2, 0, none⟩)), (3, .string (((⟨#[40]⟩ : ByteArray) ++ t10) ++ (⟨#[41]⟩ : ByteArray)))] ?_
 refine RegI.d ?_
 refine RunsI.g 1 [.c 5, .c 6] ?_
 refine RunsI.any 22 (by kernel_rfl) (by kernel_rfl) (by kernel_rfl) (Kp ([] : List Nat) (World.drew w6)) ?_
 have h14 := h8.drew
 generalize World.drew w6 = w13 at h14 ⊢
 have hS15 := Kp.refl ([] : List Nat) w13
 refine AnyE.pure 0 8 (.string (((⟨#[40]⟩ : ByteArray) ++ t10) ++ (⟨#[41]⟩ : ByteArray))) (by kernel_rfl) hS15 (fun _ => by kernel_rfl) ?_
 obtain ⟨hc17, h⟩ := of_cond0 h
 refine AnyE.run 1 9 (.string ((⟨#[108, 100, 32]⟩ : ByteArray) ++ (((⟨#[40]⟩ : ByteArray) ++ t10) ++ (⟨#[41]⟩ : ByteArray)))) (by kernel_rfl) hS15 (fun _ hk => run_cat (a := (⟨#[108, 100, 32]⟩ : ByteArray)) (b := (((⟨#[40]⟩ : ByteArray) ++ t10) ++ (⟨#[41]⟩ : ByteArray))) (by kernel_rfl) hc17) ?_
 obtain ⟨hc18, h⟩ := of_cond0 h
 refine AnyE.run 2 10 (.string (((⟨#[108, 100, 32]⟩ : ByteArray) ++ (((⟨#[40]⟩ : ByteArray) ++ t10) ++ (⟨#[41]⟩ : ByteArray))) ++ (⟨#[44]⟩ : ByteArray))) (by kernel_rfl) hS15 (fun _ hk => run_cat (a := ((⟨#[108, 100, 32]⟩ : ByteArray) ++ (((⟨#[40]⟩ : ByteArray) ++ t10) ++ (⟨#[41]⟩ : ByteArray)))) (b := (⟨#[44]⟩ : ByteArray)) (by kernel_rfl) hc18) ?_
 refine AnyE.loadBox 3 11 4 92 b2 0 (.agg #[.int .i64 p0_0_0, .int .u8 p0_0_1, .int .u8 p0_0_2, .int .u16 p0_0_3, .int .i64 p0_0_4, .int .i64 p0_0_5, .int .i64 p0_1, .int .i64 p0_2, .int .i64 p0_3, .int .i64 p0_4, .int .i64 p0_5]) [] h14 rfl (by kernel_rfl) hS15 rfl rfl (by kernel_rfl) (by kernel_rfl) ?_
 obtain ⟨t20, hg19, h⟩ := of_bind h
 refine AnyE.call 4 12 (.string t20) 87 #[.agg #[.int .i64 p0_0_0, .int .u8 p0_0_1, .int .u8 p0_0_2, .int .u16 p0_0_3, .int .i64 p0_0_4, .int .i64 p0_0_5, .int .i64 p0_1, .int .i64 p0_2, .int .i64 p0_3, .int .i64 p0_4, .int .i64 p0_5]] (by kernel_rfl) hS15 (fun _ => by kernel_rfl) (fun w hk => text_shown_hl_87_ok K (fun _ => False) w p0_0_0 p0_0_1 p0_0_2 p0_0_3 p0_0_4 p0_0_5 p0_1 p0_2 p0_3 p0_4 p0_5 (fun _ hf => hf.elim) ⟨(h14.atI [] rfl hk 0 rfl rfl).1, fun hf => hf.elim, (h14.atI [] rfl hk 0 rfl rfl).2.2⟩ hg19) ?_
 obtain ⟨hc21, h⟩ := of_cond0 h
 refine AnyE.run 5 13 (.string ((((⟨#[108, 100, 32]⟩ : ByteArray) ++ (((⟨#[40]⟩ : ByteArray) ++ t10) ++ (⟨#[41]⟩ : ByteArray))) ++ (⟨#[44]⟩ : ByteArray)) ++ t20)) (by kernel_rfl) hS15 (fun _ hk => run_cat (a := (((⟨#[108, 100, 32]⟩ : ByteArray) ++ (((⟨#[40]⟩ : ByteArray) ++ t10) ++ (⟨#[41]⟩ : ByteArray))) ++ (⟨#[44]⟩ : ByteArray))) (b := t20) (by kernel_rfl) hc21) ?_
 refine AnyE.loadBox 6 14 4 92 b2 0 (.agg #[.int .i64 p0_0_0, .int .u8 p0_0_1, .int .u8 p0_0_2, .int .u16 p0_0_3, .int .i64 p0_0_4, .int .i64 p0_0_5, .int .i64 p0_1, .int .i64 p0_2, .int .i64 p0_3, .int .i64 p0_4, .int .i64 p0_5]) [] h14 rfl (by kernel_rfl) hS15 rfl rfl (by kernel_rfl) (by kernel_rfl) ?_
 obtain ⟨t23, hg22, h⟩ := of_bind h
 refine AnyE.call 7 15 (.string t23) 87 #[.agg #[.int .i64 p0_0_0, .int .u8 p0_0_1, .int .u8 p0_0_2, .int .u16 p0_0_3, .int .i64 p0_0_4, .int .i64 p0_0_5, .int .i64 p0_1, .int .i64 p0_2, .int .i64 p0_3, .int .i64 p0_4, .int .i64 p0_5]] (by kernel_rfl) hS15 (fun _ => by kernel_rfl) (fun w hk => text_shown_hl_87_ok K (fun _ => False) w p0_0_0 p0_0_1 p0_0_2 p0_0_3 p0_0_4 p0_0_5 p0_1 p0_2 p0_3 p0_4 p0_5 (fun _ hf => hf.elim) ⟨(h14.atI [] rfl hk 0 rfl rfl).1, fun hf => hf.elim, (h14.atI [] rfl hk 0 rfl rfl).2.2⟩ hg22) ?_
 obtain ⟨hc24, h⟩ := of_cond0 h
 refine AnyE.run 8 16 (.string ((⟨#[108, 100, 32]⟩ : ByteArray) ++ t23)) (by kernel_rfl) hS15 (fun _ hk => run_cat (a := (⟨#[108, 100, 32]⟩ : ByteArray)) (b := t23) (by kernel_rfl) hc24) ?_
 obtain ⟨hc25, h⟩ := of_cond0 h
 refine AnyE.run 9 17 (.string (((⟨#[108, 100, 32]⟩ : ByteArray) ++ t23) ++ (⟨#[44]⟩ : ByteArray))) (by kernel_rfl) hS15 (fun _ hk => run_cat (a := ((⟨#[108, 100, 32]⟩ : ByteArray) ++ t23)) (b := (⟨#[44]⟩ : ByteArray)) (by kernel_rfl) hc25) ?_
 refine AnyE.pure 10 18 (.string (((⟨#[40]⟩ : ByteArray) ++ t10) ++ (⟨#[41]⟩ : ByteArray))) (by kernel_rfl) hS15 (fun _ => by kernel_rfl) ?_
 obtain ⟨hc26, h⟩ := of_cond0 h
 refine AnyE.run 11 19 (.string ((((⟨#[108, 100, 32]⟩ : ByteArray) ++ t23) ++ (⟨#[44]⟩ : ByteArray)) ++ (((⟨#[40]⟩ : ByteArray) ++ t10) ++ (⟨#[41]⟩ : ByteArray)))) (by kernel_rfl) hS15 (fun _ hk => run_cat (a := (((⟨#[108, 100, 32]⟩ : ByteArray) ++ t23) ++ (⟨#[44]⟩ : ByteArray))) (b := (((⟨#[40]⟩ : ByteArray) ++ t10) ++ (⟨#[41]⟩ : ByteArray))) (by kernel_rfl) hc26) ?_
 refine AnyE.pure 12 20 (.string (((⟨#[40]⟩ : ByteArray) ++ t10) ++ (⟨#[41]⟩ : ByteArray))) (by kernel_rfl) hS15 (fun _ => by kernel_rfl) ?_
 refine AnyE.run 13 21 (.string ((⟨#[108, 100, 32]⟩ : ByteArray) ++ (((⟨#[40]⟩ : ByteArray) ++ t10) ++ (⟨#[41]⟩ : ByteArray)))) (by kernel_rfl) hS15 (fun _ hk => run_cat (a := (⟨#[108, 100, 32]⟩ : ByteArray)) (b := (((⟨#[40]⟩ : ByteArray) ++ t10) ++ (⟨#[41]⟩ : ByteArray))) (by kernel_rfl) hc17) ?_
 obtain ⟨hc27, h⟩ := of_cond0 h
 refine AnyE.run 14 22 (.string (((⟨#[108, 100, 32]⟩ : ByteArray) ++ (((⟨#[40]⟩ : ByteArray) ++ t10) ++ (⟨#[41]⟩ : ByteArray))) ++ (⟨#[44, 97]⟩ : ByteArray))) (by kernel_rfl) hS15 (fun _ hk => run_cat (a := ((⟨#[108, 100, 32]⟩ : ByteArray) ++ (((⟨#[40]⟩ : ByteArray) ++ t10) ++ (⟨#[41]⟩ : ByteArray)))) (b := (⟨#[44, 97]⟩ : ByteArray)) (by kernel_rfl) hc27) ?_
 refine AnyE.pure 15 23 (.string (((⟨#[40]⟩ : ByteArray) ++ t10) ++ (⟨#[41]⟩ : ByteArray))) (by kernel_rfl) hS15 (fun _ => by kernel_rfl) ?_
 obtain ⟨hc28, h⟩ := of_cond0 h
 refine AnyE.run 16 24 (.string ((⟨#[108, 100, 32, 97, 44]⟩ : ByteArray) ++ (((⟨#[40]⟩ : ByteArray) ++ t10) ++ (⟨#[41]⟩ : ByteArray)))) (by kernel_rfl) hS15 (fun _ hk => run_cat (a := (⟨#[108, 100, 32, 97, 44]⟩ : ByteArray)) (b := (((⟨#[40]⟩ : ByteArray) ++ t10) ++ (⟨#[41]⟩ : ByteArray))) (by kernel_rfl) hc28) ?_
 refine AnyE.pure 17 25 (.agg (List.flatMap (fun (x : ByteArray) => ([.string x] : List Value)) ([(⟨#[108, 100, 32, 40, 98, 99, 41, 44, 97]⟩ : ByteArray), (⟨#[108, 100, 32, 97, 44, 40, 98, 99, 41]⟩ : ByteArray), (⟨#[108, 100, 32, 40, 100, 101, 41, 44, 97]⟩ : ByteArray), (⟨#[108, 100, 32, 97, 44, 40, 100, 101, 41]⟩ : ByteArray), ((((⟨#[108, 100, 32]⟩ : ByteArray) ++ (((⟨#[40]⟩ : ByteArray) ++ t10) ++ (⟨#[41]⟩ : ByteArray))) ++ (⟨#[44]⟩ : ByteArray)) ++ t20), ((((⟨#[108, 100, 32]⟩ : ByteArray) ++ t23) ++ (⟨#[44]⟩ : ByteArray)) ++ (((⟨#[40]⟩ : ByteArray) ++ t10) ++ (⟨#[41]⟩ : ByteArray))), (((⟨#[108, 100, 32]⟩ : ByteArray) ++ (((⟨#[40]⟩ : ByteArray) ++ t10) ++ (⟨#[41]⟩ : ByteArray))) ++ (⟨#[44, 97]⟩ : ByteArray)), ((⟨#[108, 100, 32, 97, 44]⟩ : ByteArray) ++ (((⟨#[40]⟩ : ByteArray) ++ t10) ++ (⟨#[41]⟩ : ByteArray)))] : List ByteArray)).toArray) (by kernel_rfl) hS15 (fun _ => by kernel_rfl) ?_
 refine AnyE.pure 18 26 (.pointer (some ⟨b2, 7, none⟩)) (by kernel_rfl) hS15 (fun _ => by kernel_rfl) ?_
 refine AnyE.loadBox 19 27 4 3 b2 7 (.int .i64 p0_2) [] h14 rfl (by kernel_rfl) hS15 rfl rfl (by kernel_rfl) (by kernel_rfl) ?_
 obtain ⟨hc29, h⟩ := of_cond0 h
 refine AnyE.run 20 28 (.string (rdD ([(⟨#[108, 100, 32, 40, 98, 99, 41, 44, 97]⟩ : ByteArray), (⟨#[108, 100, 32, 97, 44, 40, 98, 99, 41]⟩ : ByteArray), (⟨#[108, 100, 32, 40, 100, 101, 41, 44, 97]⟩ : ByteArray), (⟨#[108, 100, 32, 97, 44, 40, 100, 101, 41]⟩ : ByteArray), ((((⟨#[108, 100, 32]⟩ : ByteArray) ++ (((⟨#[40]⟩ : ByteArray) ++ t10) ++ (⟨#[41]⟩ : ByteArray))) ++ (⟨#[44]⟩ : ByteArray)) ++ t20), ((((⟨#[108, 100, 32]⟩ : ByteArray) ++ t23) ++ (⟨#[44]⟩ : ByteArray)) ++ (((⟨#[40]⟩ : ByteArray) ++ t10) ++ (⟨#[41]⟩ : ByteArray))), (((⟨#[108, 100, 32]⟩ : ByteArray) ++ (((⟨#[40]⟩ : ByteArray) ++ t10) ++ (⟨#[41]⟩ : ByteArray))) ++ (⟨#[44, 97]⟩ : ByteArray)), ((⟨#[108, 100, 32, 97, 44]⟩ : ByteArray) ++ (((⟨#[40]⟩ : ByteArray) ++ t10) ++ (⟨#[41]⟩ : ByteArray)))] : List ByteArray) p0_2)) (by kernel_rfl) hS15 (fun _ hk => run_indexTab (T0 := 122) (en := (fun (x : ByteArray) => ([.string x] : List Value))) (tab := ([(⟨#[108, 100, 32, 40, 98, 99, 41, 44, 97]⟩ : ByteArray), (⟨#[108, 100, 32, 97, 44, 40, 98, 99, 41]⟩ : ByteArray), (⟨#[108, 100, 32, 40, 100, 101, 41, 44, 97]⟩ : ByteArray), (⟨#[108, 100, 32, 97, 44, 40, 100, 101, 41]⟩ : ByteArray), ((((⟨#[108, 100, 32]⟩ : ByteArray) ++ (((⟨#[40]⟩ : ByteArray) ++ t10) ++ (⟨#[41]⟩ : ByteArray))) ++ (⟨#[44]⟩ : ByteArray)) ++ t20), ((((⟨#[108, 100, 32]⟩ : ByteArray) ++ t23) ++ (⟨#[44]⟩ : ByteArray)) ++ (((⟨#[40]⟩ : ByteArray) ++ t10) ++ (⟨#[41]⟩ : ByteArray))), (((⟨#[108, 100, 32]⟩ : ByteArray) ++ (((⟨#[40]⟩ : ByteArray) ++ t10) ++ (⟨#[41]⟩ : ByteArray))) ++ (⟨#[44, 97]⟩ : ByteArray)), ((⟨#[108, 100, 32, 97, 44]⟩ : ByteArray) ++ (((⟨#[40]⟩ : ByteArray) ++ t10) ++ (⟨#[41]⟩ : ByteArray)))] : List ByteArray)) (len := 8) (sz := 1) (j := p0_2) (v := .string (rdD ([(⟨#[108, 100, 32, 40, 98, 99, 41, 44, 97]⟩ : ByteArray), (⟨#[108, 100, 32, 97, 44, 40, 98, 99, 41]⟩ : ByteArray), (⟨#[108, 100, 32, 40, 100, 101, 41, 44, 97]⟩ : ByteArray), (⟨#[108, 100, 32, 97, 44, 40, 100, 101, 41]⟩ : ByteArray), ((((⟨#[108, 100, 32]⟩ : ByteArray) ++ (((⟨#[40]⟩ : ByteArray) ++ t10) ++ (⟨#[41]⟩ : ByteArray))) ++ (⟨#[44]⟩ : ByteArray)) ++ t20), ((((⟨#[108, 100, 32]⟩ : ByteArray) ++ t23) ++ (⟨#[44]⟩ : ByteArray)) ++ (((⟨#[40]⟩ : ByteArray) ++ t10) ++ (⟨#[41]⟩ : ByteArray))), (((⟨#[108, 100, 32]⟩ : ByteArray) ++ (((⟨#[40]⟩ : ByteArray) ++ t10) ++ (⟨#[41]⟩ : ByteArray))) ++ (⟨#[44, 97]⟩ : ByteArray)), ((⟨#[108, 100, 32, 97, 44]⟩ : ByteArray) ++ (((⟨#[40]⟩ : ByteArray) ++ t10) ++ (⟨#[41]⟩ : ByteArray)))] : List ByteArray) p0_2)) (fun _ => rfl) (by kernel_rfl) (by kernel_rfl) rfl hc29 (fun _ => by kernel_rfl)) ?_
 refine AnyE.pure 21 2 (.string (rdD ([(⟨#[108, 100, 32, 40, 98, 99, 41, 44, 97]⟩ : ByteArray), (⟨#[108, 100, 32, 97, 44, 40, 98, 99, 41]⟩ : ByteArray), (⟨#[108, 100, 32, 40, 100, 101, 41, 44, 97]⟩ : ByteArray), (⟨#[108, 100, 32, 97, 44, 40, 100, 101, 41]⟩ : ByteArray), ((((⟨#[108, 100, 32]⟩ : ByteArray) ++ (((⟨#[40]⟩ : ByteArray) ++ t10) ++ (⟨#[41]⟩ : ByteArray))) ++ (⟨#[44]⟩ : ByteArray)) ++ t20), ((((⟨#[108, 100, 32]⟩ : ByteArray) ++ t23) ++ (⟨#[44]⟩ : ByteArray)) ++ (((⟨#[40]⟩ : ByteArray) ++ t10) ++ (⟨#[41]⟩ : ByteArray))), (((⟨#[108, 100, 32]⟩ : ByteArray) ++ (((⟨#[40]⟩ : ByteArray) ++ t10) ++ (⟨#[41]⟩ : ByteArray))) ++ (⟨#[44, 97]⟩ : ByteArray)), ((⟨#[108, 100, 32, 97, 44]⟩ : ByteArray) ++ (((⟨#[40]⟩ : ByteArray) ++ t10) ++ (⟨#[41]⟩ : ByteArray)))] : List ByteArray) p0_2)) (by kernel_rfl) hS15 (fun _ => by kernel_rfl) ?_
 refine AnyE.done (by kernel_rfl) (fun w30 hu31 => ?_)
 have h32 := h14.call hu31
 refine RunsI.l [2] [(2, .string (rdD ([(⟨#[108, 100, 32, 40, 98, 99, 41, 44, 97]⟩ : ByteArray), (⟨#[108, 100, 32, 97, 44, 40, 98, 99, 41]⟩ : ByteArray), (⟨#[108, 100, 32, 40, 100, 101, 41, 44, 97]⟩ : ByteArray), (⟨#[108, 100, 32, 97, 44, 40, 100, 101, 41]⟩ : ByteArray), ((((⟨#[108, 100, 32]⟩ : ByteArray) ++ (((⟨#[40]⟩ : ByteArray) ++ t10) ++ (⟨#[41]⟩ : ByteArray))) ++ (⟨#[44]⟩ : ByteArray)) ++ t20), ((((⟨#[108, 100, 32]⟩ : ByteArray) ++ t23) ++ (⟨#[44]⟩ : ByteArray)) ++ (((⟨#[40]⟩ : ByteArray) ++ t10) ++ (⟨#[41]⟩ : ByteArray))), (((⟨#[108, 100, 32]⟩ : ByteArray) ++ (((⟨#[40]⟩ : ByteArray) ++ t10) ++ (⟨#[41]⟩ : ByteArray))) ++ (⟨#[44, 97]⟩ : ByteArray)), ((⟨#[108, 100, 32, 97, 44]⟩ : ByteArray) ++ (((⟨#[40]⟩ : ByteArray) ++ t10) ++ (⟨#[41]⟩ : ByteArray)))] : List ByteArray) p0_2))] ?_
 refine RunsI.t (.string (rdD ([(⟨#[108, 100, 32, 40, 98, 99, 41, 44, 97]⟩ : ByteArray), (⟨#[108, 100, 32, 97, 44, 40, 98, 99, 41]⟩ : ByteArray), (⟨#[108, 100, 32, 40, 100, 101, 41, 44, 97]⟩ : ByteArray), (⟨#[108, 100, 32, 97, 44, 40, 100, 101, 41]⟩ : ByteArray), ((((⟨#[108, 100, 32]⟩ : ByteArray) ++ (((⟨#[40]⟩ : ByteArray) ++ t10) ++ (⟨#[41]⟩ : ByteArray))) ++ (⟨#[44]⟩ : ByteArray)) ++ t20), ((((⟨#[108, 100, 32]⟩ : ByteArray) ++ t23) ++ (⟨#[44]⟩ : ByteArray)) ++ (((⟨#[40]⟩ : ByteArray) ++ t10) ++ (⟨#[41]⟩ : ByteArray))), (((⟨#[108, 100, 32]⟩ : ByteArray) ++ (((⟨#[40]⟩ : ByteArray) ++ t10) ++ (⟨#[41]⟩ : ByteArray))) ++ (⟨#[44, 97]⟩ : ByteArray)), ((⟨#[108, 100, 32, 97, 44]⟩ : ByteArray) ++ (((⟨#[40]⟩ : ByteArray) ++ t10) ++ (⟨#[41]⟩ : ByteArray)))] : List ByteArray) p0_2)) ?_
 obtain rfl := Option.some.inj h
 exact ⟨rfl, h32.below⟩
end

/-! ### charabanc/text.Index (function 49) -/
section
def text_Index_49.post (M0 : Nat → Prop) (w0 : World) (r : ByteArray) : Ending → World → Prop := fun e w => e = .returned (.string r) ∧ Below w0.heap.size w0 w
def text_Index_49.f (K : Nat) (p0 : Int) (p1 : Int) : Option ByteArray := (text_index_82.f K p0).bind fun t5 => cond (mayCat (⟨#[40]⟩ : ByteArray).size t5.size) ((bits_Signed_84.f K p1).bind fun t11 => (text_signed_83.f K t11).bind fun t16 => cond (mayCat ((⟨#[40]⟩ : ByteArray) ++ t5).size t16.size) (cond (mayCat (((⟨#[40]⟩ : ByteArray) ++ t5) ++ t16).size (⟨#[41]⟩ : ByteArray).size) (some ((((⟨#[40]⟩ : ByteArray) ++ t5) ++ t16) ++ (⟨#[41]⟩ : ByteArray))) none) none) none
set_option maxRecDepth 100000 in
theorem text_Index_49_ok (K : Nat) (M0 : Nat → Prop) (w0 : World) (p0 : Int) (p1 : Int) (ho : ∀ b, M0 b → b < w0.heap.size) (hG12 : (gl 12 (tab_12.flatMap en_12)).ok w0 M0) {r : ByteArray} (h : text_Index_49.f K p0 p1 = some r) :
  Calls Tryd.prog 49 #[.int .i64 p0, .int .u8 p1] w0 (text_Index_49.post M0 w0 r) := by
 unfold text_Index_49.f at h
 have h0 : Holds M0 w0 w0 [] := Holds.start ho
 have h0g12 := h0.add (gl 12 (tab_12.flatMap en_12)) rfl ⟨hG12.1, fun hm => hG12.2.1 (hm.elim id (fun hm => absurd hm (by simp [mines, sl, gl]))), hG12.2.2⟩
 have h0 : Holds M0 w0 w0 [gl 12 (tab_12.flatMap en_12)] := h0g12
 refine calls_of F49 rfl [.int .i64 p0, .int .u8 p1] (by kernel_rfl) ?_
 refine RunsI.g 1 [.c 1, .c 2] ?_
 refine RunsI.r ?_
 refine RegI.p 1 [(0, .int .i64 p0), (1, .int .u8 p1)] ?_
 refine RegI.d ?_
 refine RunsI.g 1 [.c 3, .c 4] ?_
 refine RunsI.r ?_
 refine RegI.p 1 [(1, .int .u8 p1), (5, .int .i64 p0)] ?_
 obtain ⟨t5, hg4, h⟩ := of_bind h
 refine RegI.o (OpE.call 6 (by kernel_rfl) 82 #[.int .i64 p0] (by kernel_rfl) ((text_index_82_ok K _ w0  p0 h0.old' hg4).mono ?_))
 rintro _ w1 ⟨rfl, hb2⟩
 refine ⟨_, rfl, ?_⟩
 have h3 := h0.call hb2
 obtain ⟨hc6, h⟩ := of_cond0 h
 refine RegI.o (OpE.run 7 (by kernel_rfl) (run_cat (a := (⟨#[40]⟩ : ByteArray)) (b := t5) (by kernel_rfl) hc6) ?_)
 refine RegI.p 1 [(7, .string ((⟨#[40]⟩ : ByteArray) ++ t5)), (8, .int .u8 p1)] ?_
 obtain ⟨t11, hg10, h⟩ := of_bind h
 refine RegI.o (OpE.call 9 (by kernel_rfl) 84 #[.int .u8 p1] (by kernel_rfl) ((bits_Signed_84_ok K _ w1  p1 h3.old' hg10).mono ?_))
 rintro _ w7 ⟨rfl, hb8⟩
 refine ⟨_, rfl, ?_⟩
 have h9 := h3.call hb8
 obtain ⟨t16, hg15, h⟩ := of_bind h
 refine RegI.o (OpE.call 10 (by kernel_rfl) 83 #[.int .i64 t11] (by kernel_rfl) ((text_signed_83_ok K _ w7  t11 h9.old' (h9.get 0 rfl) hg15).mono ?_))
 rintro _ w12 ⟨rfl, hb13⟩
 refine ⟨_, rfl, ?_⟩
 have h14 := h9.call hb13
 obtain ⟨hc17, h⟩ := of_cond0 h
 refine RegI.o (OpE.run 11 (by kernel_rfl) (run_cat (a := ((⟨#[40]⟩ : ByteArray) ++ t5)) (b := t16) (by kernel_rfl) hc17) ?_)
 obtain ⟨hc18, h⟩ := of_cond0 h
 refine RegI.o (OpE.run 12 (by kernel_rfl) (run_cat (a := (((⟨#[40]⟩ : ByteArray) ++ t5) ++ t16)) (b := (⟨#[41]⟩ : ByteArray)) (by kernel_rfl) hc18) ?_)
 refine RegI.p 1 [(4, .string ((((⟨#[40]⟩ : ByteArray) ++ t5) ++ t16) ++ (⟨#[41]⟩ : ByteArray)))] ?_
 refine RegI.d ?_
 refine RunsI.t (.string ((((⟨#[40]⟩ : ByteArray) ++ t5) ++ t16) ++ (⟨#[41]⟩ : ByteArray))) ?_
 obtain rfl := Option.some.inj h
 exact ⟨rfl, h14.below⟩
end

/-! ### charabanc/decode.Near (function 120) -/
section
def decode_Near_120.post (M0 : Nat → Prop) (w0 : World) (r : Bool) : Ending → World → Prop := fun e w => e = .returned (.bool r) ∧ Below w0.heap.size w0 w
def decode_Near_120.f (K : Nat) (p0 : Int) (p1 : Int) : Option Bool := Let (fun (t2 : Bool) => cond t2 (some true) (Let (fun (t10 : Bool) => cond t10 (some false) ((decode_Fields_85.f K p1).bind fun yt21 => cond (yt21.1 == 0) (cond (yt21.2.1 == 6) (cond (decide (yt21.2.2.1 ≥ 4)) (cond (decide (yt21.2.2.1 ≤ 6)) (some true) (cond (yt21.1 == 1) (cond ((yt21.2.1 == 6) != (yt21.2.2.1 == 6)) (some true) (cond (yt21.1 == 2) (some (yt21.2.2.1 == 6)) (some false))) (cond (yt21.1 == 2) (some (yt21.2.2.1 == 6)) (some false)))) (cond (yt21.1 == 1) (cond ((yt21.2.1 == 6) != (yt21.2.2.1 == 6)) (some true) (cond (yt21.1 == 2) (some (yt21.2.2.1 == 6)) (some false))) (cond (yt21.1 == 2) (some (yt21.2.2.1 == 6)) (some false)))) (cond (yt21.1 == 1) (cond ((yt21.2.1 == 6) != (yt21.2.2.1 == 6)) (some true) (cond (yt21.1 == 2) (some (yt21.2.2.1 == 6)) (some false))) (cond (yt21.1 == 2) (some (yt21.2.2.1 == 6)) (some false)))) (cond (yt21.1 == 1) (cond ((yt21.2.1 == 6) != (yt21.2.2.1 == 6)) (some true) (cond (yt21.1 == 2) (some (yt21.2.2.1 == 6)) (some false))) (cond (yt21.1 == 2) (some (yt21.2.2.1 == 6)) (some false))))) (fun j13 => cond (p0 != 3) (j13 (p0 != 4)) (j13 false)))) (fun j5 => cond (p0 == 5) (j5 true) (j5 (p0 == 6)))
set_option maxRecDepth 100000 in
theorem decode_Near_120_ok (K : Nat) (M0 : Nat → Prop) (w0 : World) (p0 : Int) (p1 : Int) (ho : ∀ b, M0 b → b < w0.heap.size) {r : Bool} (h : decode_Near_120.f K p0 p1 = some r) :
  Calls Tryd.prog 120 #[.int .i64 p0, .int .u8 p1] w0 (decode_Near_120.post M0 w0 r) := by
 unfold decode_Near_120.f at h
 have h0 : Holds M0 w0 w0 [] := Holds.start ho
 have h0 : Holds M0 w0 w0 [] := h0
 refine calls_of F120 rfl [.int .i64 p0, .int .u8 p1] (by kernel_rfl) ?_
 refine RunsI.g 1 [.c 1, .c 2] ?_
 refine RunsI.r ?_
 refine RegI.p 1 [(0, .int .i64 p0), (1, .int .u8 p1)] ?_
 refine RegI.d ?_
 refine RunsI.g 2 [.c 4, .c 5, .c 10] ?_
 refine RunsI.r ?_
 refine RegI.p 3 [(0, .int .i64 p0), (1, .int .u8 p1), (12, .bool (p0 == 5))] ?_
 obtain ⟨j5, hJ6, h⟩ := of_let h
 have hj7 : ∀ (t2 : Bool) (w4 : World), j5 t2 = some r → Holds M0 w0 w4 [] → RegI F120 4 [.c 5, .c 10] 6 [(0, .int .i64 p0), (1, .int .u8 p1), (15, .bool t2)] w4 (decode_Near_120.post M0 w0 r) := by
  intro t2 w4 h h3
  rw [hJ6] at h
  clear hJ6
  dsimp only at h
  refine RegI.d ?_
  rcases of_cond h with ⟨hc8, h⟩ | ⟨hc8, h⟩
  ·skip
   refine RunsI.f 15 true hc8 ?_
   refine RunsI.b true 6 ?_
   refine RunsI.g 1 [.c 7, .c 8, .c 10] ?_
   refine RunsI.r ?_
   refine RegI.p 1 [(4, .bool true)] ?_
   refine RegI.d ?_
   refine RunsI.t (.bool true) ?_
   obtain rfl := Option.some.inj h
   exact ⟨rfl, h3.below⟩
  ·skip
   refine RunsI.f 15 false hc8 ?_
   refine RunsI.b false 9 ?_
   refine RunsI.g 1 [.c 10] ?_
   refine RunsI.g 2 [.c 12, .c 13, .c 18] ?_
   refine RunsI.r ?_
   refine RegI.p 3 [(0, .int .i64 p0), (1, .int .u8 p1), (18, .bool (p0 != 3))] ?_
   obtain ⟨j13, hJ14, h⟩ := of_let h
   have hj15 : ∀ (t10 : Bool) (w12 : World), j13 t10 = some r → Holds M0 w0 w12 [] → RegI F120 12 [.c 13, .c 18] 6 [(1, .int .u8 p1), (21, .bool t10)] w12 (decode_Near_120.post M0 w0 r) := by
    intro t10 w12 h h11
    rw [hJ14] at h
    clear hJ14
    dsimp only at h
    refine RegI.d ?_
    rcases of_cond h with ⟨hc16, h⟩ | ⟨hc16, h⟩
    ·skip
     refine RunsI.f 21 true hc16 ?_
     refine RunsI.b true 14 ?_
     refine RunsI.g 1 [.c 15, .c 16, .c 18] ?_
     refine RunsI.r ?_
     refine RegI.p 1 [(4, .bool false)] ?_
     refine RegI.d ?_
     refine RunsI.t (.bool false) ?_
     obtain rfl := Option.some.inj h
     exact ⟨rfl, h11.below⟩
    ·skip
     refine RunsI.f 21 false hc16 ?_
     refine RunsI.b false 17 ?_
     refine RunsI.g 1 [.c 18] ?_
     refine RunsI.g 1 [.c 19, .c 20] ?_
     refine RunsI.r ?_
     refine RegI.p 1 [(23, .int .u8 p1)] ?_
     obtain ⟨⟨t21, t22, t23, t24, t25⟩, hg20, h⟩ := of_bind h
     dsimp only at h
     refine RegI.o (OpE.call 24 (by kernel_rfl) 85 #[.int .u8 p1] (by kernel_rfl) ((decode_Fields_85_ok K _ w12  p1 h11.old' hg20).mono ?_))
     rintro _ w17 ⟨rfl, hb18⟩
     refine ⟨_, rfl, ?_⟩
     have h19 := h11.call hb18
     refine RegI.p 11 [(5, .int .i64 t21), (6, .int .i64 t22), (7, .int .i64 t23)] ?_
     refine RegI.d ?_
     refine RunsI.g 1 [.c 21, .c 22] ?_
     refine RunsI.r ?_
     refine RegI.p 3 [(5, .int .i64 t21), (6, .int .i64 t22), (7, .int .i64 t23), (32, .bool (t21 == 0))] ?_
     rcases of_cond h with ⟨hc26, h⟩ | ⟨hc26, h⟩
     ·skip
      refine RegI.f 32 true hc26 ?_
      refine RegI.p 4 [(5, .int .i64 t21), (6, .int .i64 t22), (7, .int .i64 t23), (36, .bool (t22 == 6))] ?_
      rcases of_cond h with ⟨hc27, h⟩ | ⟨hc27, h⟩
      ·skip
       refine RegI.f 36 true hc27 ?_
       refine RegI.p 4 [(5, .int .i64 t21), (6, .int .i64 t22), (7, .int .i64 t23), (40, .bool (decide (t23 ≥ 4)))] ?_
       rcases of_cond h with ⟨hc28, h⟩ | ⟨hc28, h⟩
       ·skip
        refine RegI.f 40 true hc28 ?_
        refine RegI.p 4 [(5, .int .i64 t21), (6, .int .i64 t22), (7, .int .i64 t23), (44, .bool (decide (t23 ≤ 6)))] ?_
        rcases of_cond h with ⟨hc29, h⟩ | ⟨hc29, h⟩
        ·skip
         refine RegI.f 44 true hc29 ?_
         refine RegI.p 19 [(4, .bool true)] ?_
         refine RegI.d ?_
         refine RunsI.t (.bool true) ?_
         obtain rfl := Option.some.inj h
         exact ⟨rfl, h19.below⟩
        ·skip
         refine RegI.f 44 false hc29 ?_
         refine RegI.p 3 [(5, .int .i64 t21), (6, .int .i64 t22), (7, .int .i64 t23), (44, .bool false), (47, .bool (t21 == 1))] ?_
         rcases of_cond h with ⟨hc30, h⟩ | ⟨hc30, h⟩
         ·skip
          refine RegI.f 47 true hc30 ?_
          refine RegI.p 8 [(5, .int .i64 t21), (7, .int .i64 t23), (55, .bool ((t22 == 6) != (t23 == 6)))] ?_
          rcases of_cond h with ⟨hc31, h⟩ | ⟨hc31, h⟩
          ·skip
           refine RegI.f 55 true hc31 ?_
           refine RegI.p 8 [(4, .bool true)] ?_
           refine RegI.d ?_
           refine RunsI.t (.bool true) ?_
           obtain rfl := Option.some.inj h
           exact ⟨rfl, h19.below⟩
          ·skip
           refine RegI.f 55 false hc31 ?_
           refine RegI.p 3 [(7, .int .i64 t23), (55, .bool false), (58, .bool (t21 == 2))] ?_
           rcases of_cond h with ⟨hc32, h⟩ | ⟨hc32, h⟩
           ·skip
            refine RegI.f 58 true hc32 ?_
            refine RegI.p 5 [(4, .bool (t23 == 6))] ?_
            refine RegI.d ?_
            refine RunsI.t (.bool (t23 == 6)) ?_
            obtain rfl := Option.some.inj h
            exact ⟨rfl, h19.below⟩
           ·skip
            refine RegI.f 58 false hc32 ?_
            refine RegI.p 5 [(4, .bool false)] ?_
            refine RegI.d ?_
            refine RunsI.t (.bool false) ?_
            obtain rfl := Option.some.inj h
            exact ⟨rfl, h19.below⟩
         ·skip
          refine RegI.f 47 false hc30 ?_
          refine RegI.p 11 [(7, .int .i64 t23), (55, .bool false), (58, .bool (t21 == 2))] ?_
          rcases of_cond h with ⟨hc33, h⟩ | ⟨hc33, h⟩
          ·skip
           refine RegI.f 58 true hc33 ?_
           refine RegI.p 5 [(4, .bool (t23 == 6))] ?_
           refine RegI.d ?_
           refine RunsI.t (.bool (t23 == 6)) ?_
           obtain rfl := Option.some.inj h
           exact ⟨rfl, h19.below⟩
          ·skip
           refine RegI.f 58 false hc33 ?_
           refine RegI.p 5 [(4, .bool false)] ?_
           refine RegI.d ?_
           refine RunsI.t (.bool false) ?_
           obtain rfl := Option.some.inj h
           exact ⟨rfl, h19.below⟩
       ·skip
        refine RegI.f 40 false hc28 ?_
        refine RegI.p 7 [(5, .int .i64 t21), (6, .int .i64 t22), (7, .int .i64 t23), (44, .bool false), (47, .bool (t21 == 1))] ?_
        rcases of_cond h with ⟨hc34, h⟩ | ⟨hc34, h⟩
        ·skip
         refine RegI.f 47 true hc34 ?_
         refine RegI.p 8 [(5, .int .i64 t21), (7, .int .i64 t23), (55, .bool ((t22 == 6) != (t23 == 6)))] ?_
         rcases of_cond h with ⟨hc35, h⟩ | ⟨hc35, h⟩
         ·skip
          refine RegI.f 55 true hc35 ?_
          refine RegI.p 8 [(4, .bool true)] ?_
          refine RegI.d ?_
          refine RunsI.t (.bool true) ?_
          obtain rfl := Option.some.inj h
          exact ⟨rfl, h19.below⟩
         ·skip
          refine RegI.f 55 false hc35 ?_
          refine RegI.p 3 [(7, .int .i64 t23), (55, .bool false), (58, .bool (t21 == 2))] ?_
          rcases of_cond h with ⟨hc36, h⟩ | ⟨hc36, h⟩
          ·skip
           refine RegI.f 58 true hc36 ?_
           refine RegI.p 5 [(4, .bool (t23 == 6))] ?_
           refine RegI.d ?_
           refine RunsI.t (.bool (t23 == 6)) ?_
           obtain rfl := Option.some.inj h
           exact ⟨rfl, h19.below⟩
          ·skip
           refine RegI.f 58 false hc36 ?_
           refine RegI.p 5 [(4, .bool false)] ?_
           refine RegI.d ?_
           refine RunsI.t (.bool false) ?_
           obtain rfl := Option.some.inj h
           exact ⟨rfl, h19.below⟩
        ·skip
         refine RegI.f 47 false hc34 ?_
         refine RegI.p 11 [(7, .int .i64 t23), (55, .bool false), (58, .bool (t21 == 2))] ?_
         rcases of_cond h with ⟨hc37, h⟩ | ⟨hc37, h⟩
         ·skip
          refine RegI.f 58 true hc37 ?_
          refine RegI.p 5 [(4, .bool (t23 == 6))] ?_
          refine RegI.d ?_
          refine RunsI.t (.bool (t23 == 6)) ?_
          obtain rfl := Option.some.inj h
          exact ⟨rfl, h19.below⟩
         ·skip
          refine RegI.f 58 false hc37 ?_
          refine RegI.p 5 [(4, .bool false)] ?_
          refine RegI.d ?_
          refine RunsI.t (.bool false) ?_
          obtain rfl := Option.some.inj h
          exact ⟨rfl, h19.below⟩
      ·skip
       refine RegI.f 36 false hc27 ?_
       refine RegI.p 11 [(5, .int .i64 t21), (6, .int .i64 t22), (7, .int .i64 t23), (44, .bool false), (47, .bool (t21 == 1))] ?_
       rcases of_cond h with ⟨hc38, h⟩ | ⟨hc38, h⟩
       ·skip
        refine RegI.f 47 true hc38 ?_
        refine RegI.p 8 [(5, .int .i64 t21), (7, .int .i64 t23), (55, .bool ((t22 == 6) != (t23 == 6)))] ?_
        rcases of_cond h with ⟨hc39, h⟩ | ⟨hc39, h⟩
        ·skip
         refine RegI.f 55 true hc39 ?_
         refine RegI.p 8 [(4, .bool true)] ?_
         refine RegI.d ?_
         refine RunsI.t (.bool true) ?_
         obtain rfl := Option.some.inj h
         exact ⟨rfl, h19.below⟩
        ·skip
         refine RegI.f 55 false hc39 ?_
         refine RegI.p 3 [(7, .int .i64 t23), (55, .bool false), (58, .bool (t21 == 2))] ?_
         rcases of_cond h with ⟨hc40, h⟩ | ⟨hc40, h⟩
         ·skip
          refine RegI.f 58 true hc40 ?_
          refine RegI.p 5 [(4, .bool (t23 == 6))] ?_
          refine RegI.d ?_
          refine RunsI.t (.bool (t23 == 6)) ?_
          obtain rfl := Option.some.inj h
          exact ⟨rfl, h19.below⟩
         ·skip
          refine RegI.f 58 false hc40 ?_
          refine RegI.p 5 [(4, .bool false)] ?_
          refine RegI.d ?_
          refine RunsI.t (.bool false) ?_
          obtain rfl := Option.some.inj h
          exact ⟨rfl, h19.below⟩
       ·skip
        refine RegI.f 47 false hc38 ?_
        refine RegI.p 11 [(7, .int .i64 t23), (55, .bool false), (58, .bool (t21 == 2))] ?_
        rcases of_cond h with ⟨hc41, h⟩ | ⟨hc41, h⟩
        ·skip
         refine RegI.f 58 true hc41 ?_
         refine RegI.p 5 [(4, .bool (t23 == 6))] ?_
         refine RegI.d ?_
         refine RunsI.t (.bool (t23 == 6)) ?_
         obtain rfl := Option.some.inj h
         exact ⟨rfl, h19.below⟩
        ·skip
         refine RegI.f 58 false hc41 ?_
         refine RegI.p 5 [(4, .bool false)] ?_
         refine RegI.d ?_
         refine RunsI.t (.bool false) ?_
         obtain rfl := Option.some.inj h
         exact ⟨rfl, h19.below⟩
     ·skip
      refine RegI.f 32 false hc26 ?_
      refine RegI.p 15 [(5, .int .i64 t21), (6, .int .i64 t22), (7, .int .i64 t23), (44, .bool false), (47, .bool (t21 == 1))] ?_
      rcases of_cond h with ⟨hc42, h⟩ | ⟨hc42, h⟩
      ·skip
       refine RegI.f 47 true hc42 ?_
       refine RegI.p 8 [(5, .int .i64 t21), (7, .int .i64 t23), (55, .bool ((t22 == 6) != (t23 == 6)))] ?_
       rcases of_cond h with ⟨hc43, h⟩ | ⟨hc43, h⟩
       ·skip
        refine RegI.f 55 true hc43 ?_
        refine RegI.p 8 [(4, .bool true)] ?_
        refine RegI.d ?_
        refine RunsI.t (.bool true) ?_
        obtain rfl := Option.some.inj h
        exact ⟨rfl, h19.below⟩
       ·skip
        refine RegI.f 55 false hc43 ?_
        refine RegI.p 3 [(7, .int .i64 t23), (55, .bool false), (58, .bool (t21 == 2))] ?_
        rcases of_cond h with ⟨hc44, h⟩ | ⟨hc44, h⟩
        ·skip
         refine RegI.f 58 true hc44 ?_
         refine RegI.p 5 [(4, .bool (t23 == 6))] ?_
         refine RegI.d ?_
         refine RunsI.t (.bool (t23 == 6)) ?_
         obtain rfl := Option.some.inj h
         exact ⟨rfl, h19.below⟩
        ·skip
         refine RegI.f 58 false hc44 ?_
         refine RegI.p 5 [(4, .bool false)] ?_
         refine RegI.d ?_
         refine RunsI.t (.bool false) ?_
         obtain rfl := Option.some.inj h
         exact ⟨rfl, h19.below⟩
      ·skip
       refine RegI.f 47 false hc42 ?_
       refine RegI.p 11 [(7, .int .i64 t23), (55, .bool false), (58, .bool (t21 == 2))] ?_
       rcases of_cond h with ⟨hc45, h⟩ | ⟨hc45, h⟩
       ·skip
        refine RegI.f 58 true hc45 ?_
        refine RegI.p 5 [(4, .bool (t23 == 6))] ?_
        refine RegI.d ?_
        refine RunsI.t (.bool (t23 == 6)) ?_
        obtain rfl := Option.some.inj h
        exact ⟨rfl, h19.below⟩
       ·skip
        refine RegI.f 58 false hc45 ?_
        refine RegI.p 5 [(4, .bool false)] ?_
        refine RegI.d ?_
        refine RunsI.t (.bool false) ?_
        obtain rfl := Option.some.inj h
        exact ⟨rfl, h19.below⟩
   clear hJ14
   rcases of_cond h with ⟨hc9, h⟩ | ⟨hc9, h⟩
   ·skip
    refine RegI.f 18 true hc9 ?_
    refine RegI.p 3 [(1, .int .u8 p1), (21, .bool (p0 != 4))] ?_
    refine RegI.l [1, 21] [(1, .int .u8 p1), (21, .bool (p0 != 4))] ?_
    exact hj15 (p0 != 4) w4 h (h3.pick [] (by decide))
   ·skip
    refine RegI.f 18 false hc9 ?_
    refine RegI.p 3 [(1, .int .u8 p1), (21, .bool false)] ?_
    refine RegI.l [1, 21] [(1, .int .u8 p1), (21, .bool false)] ?_
    exact hj15 false w4 h (h3.pick [] (by decide))
 clear hJ6
 rcases of_cond h with ⟨hc1, h⟩ | ⟨hc1, h⟩
 ·skip
  refine RegI.f 12 true hc1 ?_
  refine RegI.p 3 [(0, .int .i64 p0), (1, .int .u8 p1), (15, .bool true)] ?_
  refine RegI.l [0, 1, 15] [(0, .int .i64 p0), (1, .int .u8 p1), (15, .bool true)] ?_
  exact hj7 true w0 h (h0.pick [] (by decide))
 ·skip
  refine RegI.f 12 false hc1 ?_
  refine RegI.p 3 [(0, .int .i64 p0), (1, .int .u8 p1), (15, .bool (p0 == 6))] ?_
  refine RegI.l [0, 1, 15] [(0, .int .i64 p0), (1, .int .u8 p1), (15, .bool (p0 == 6))] ?_
  exact hj7 (p0 == 6) w0 h (h0.pick [] (by decide))
end

/-! ### (charabanc/text.shown).reg (function 91) -/
section
def text_shown_reg_91.post (M0 : Nat → Prop) (w0 : World) (r : ByteArray) : Ending → World → Prop := fun e w => e = .returned (.string r) ∧ Below w0.heap.size w0 w
def text_shown_reg_91.f (K : Nat) (p0_0_0 : Int) (p0_0_1 : Int) (p0_0_2 : Int) (p0_0_3 : Int) (p0_0_4 : Int) (p0_0_5 : Int) (p0_1 : Int) (p0_2 : Int) (p0_3 : Int) (p0_4 : Int) (p0_5 : Int) (p1 : Int) : Option ByteArray := (text_shown_indexed_119.f K p0_0_0 p0_0_1 p0_0_2 p0_0_3 p0_0_4 p0_0_5 p0_1 p0_2 p0_3 p0_4 p0_5).bind fun t10 => cond (!t10) (cond (inR p1 8) (some (rdD tab_5 p1)) none) (cond (p1 == 6) ((text_Index_49.f K p0_0_0 p0_0_2).bind fun t17 => some t17) (Let (fun (t30 : Bool) => cond t30 ((text_index_82.f K p0_0_0).bind fun t42 => cond (inR p1 8) (cond (mayCat t42.size (rdD tab_5 p1).size) (some (t42 ++ (rdD tab_5 p1))) none) none) (cond (inR p1 8) (some (rdD tab_5 p1)) none)) (fun j33 => cond (p1 == 4) ((decode_Near_120.f K p0_0_0 p0_0_1).bind fun t23 => j33 (!t23)) (cond (p1 == 5) ((decode_Near_120.f K p0_0_0 p0_0_1).bind fun t29 => j33 (!t29)) (j33 false)))))
set_option maxRecDepth 100000 in
theorem text_shown_reg_91_ok (K : Nat) (M0 : Nat → Prop) (w0 : World) (p0_0_0 : Int) (p0_0_1 : Int) (p0_0_2 : Int) (p0_0_3 : Int) (p0_0_4 : Int) (p0_0_5 : Int) (p0_1 : Int) (p0_2 : Int) (p0_3 : Int) (p0_4 : Int) (p0_5 : Int) (p1 : Int) (ho : ∀ b, M0 b → b < w0.heap.size) (hG5 : (gl 5 (tab_5.flatMap en_5)).ok w0 M0) (hG12 : (gl 12 (tab_12.flatMap en_12)).ok w0 M0) {r : ByteArray} (h : text_shown_reg_91.f K p0_0_0 p0_0_1 p0_0_2 p0_0_3 p0_0_4 p0_0_5 p0_1 p0_2 p0_3 p0_4 p0_5 p1 = some r) :
  Calls Tryd.prog 91 #[.agg #[.int .i64 p0_0_0, .int .u8 p0_0_1, .int .u8 p0_0_2, .int .u16 p0_0_3, .int .i64 p0_0_4, .int .i64 p0_0_5, .int .i64 p0_1, .int .i64 p0_2, .int .i64 p0_3, .int .i64 p0_4, .int .i64 p0_5], .int .i64 p1] w0 (text_shown_reg_91.post M0 w0 r) := by
 unfold text_shown_reg_91.f at h
 have h0 : Holds M0 w0 w0 [] := Holds.start ho
 have h0g5 := h0.add (gl 5 (tab_5.flatMap en_5)) rfl ⟨hG5.1, fun hm => hG5.2.1 (hm.elim id (fun hm => absurd hm (by simp [mines, sl, gl]))), hG5.2.2⟩
 have h0g12 := h0g5.add (gl 12 (tab_12.flatMap en_12)) rfl ⟨hG12.1, fun hm => hG12.2.1 (hm.elim id (fun hm => absurd hm (by simp [mines, sl, gl]))), hG12.2.2⟩
 have h0 : Holds M0 w0 w0 [gl 5 (tab_5.flatMap en_5), gl 12 (tab_12.flatMap en_12)] := h0g12
 refine calls_of F91 rfl [.agg #[.int .i64 p0_0_0, .int .u8 p0_0_1, .int .u8 p0_0_2, .int .u16 p0_0_3, .int .i64 p0_0_4, .int .i64 p0_0_5, .int .i64 p0_1, .int .i64 p0_2, .int .i64 p0_3, .int .i64 p0_4, .int .i64 p0_5], .int .i64 p1] (by kernel_rfl) ?_
 refine RunsI.g 1 [.c 1, .c 2] ?_
 refine RunsI.r ?_
 refine RegI.o (OpE.box 2 92 [.int .i64 p0_0_0, .int .u8 p0_0_1, .int .u8 p0_0_2, .int .u16 p0_0_3, .int .i64 p0_0_4, .int .i64 p0_0_5, .int .i64 p0_1, .int .i64 p0_2, .int .i64 p0_3, .int .i64 p0_4, .int .i64 p0_5] h0 (by kernel_rfl) (by kernel_rfl) ?_)
 intro w1 b2 h3 hb4 hn5
 refine RegI.p 1 [(1, .int .i64 p1), (2, .pointer (some ⟨b2, 0, none⟩))] ?_
 refine RegI.d ?_
 refine RunsI.g 3 [.c 5, .c 6, .blk 0, .c 21] ?_
 refine RunsI.r ?_
 refine RegI.o (OpE.loadBox 6 2 92 b2 0 (.agg #[.int .i64 p0_0_0, .int .u8 p0_0_1, .int .u8 p0_0_2, .int .u16 p0_0_3, .int .i64 p0_0_4, .int .i64 p0_0_5, .int .i64 p0_1, .int .i64 p0_2, .int .i64 p0_3, .int .i64 p0_4, .int .i64 p0_5]) h3 (by kernel_rfl) (by kernel_rfl) rfl (by kernel_rfl) ?_)
 obtain ⟨t10, hg9, h⟩ := of_bind h
 refine RegI.o (OpE.call 7 (by kernel_rfl) 119 #[.agg #[.int .i64 p0_0_0, .int .u8 p0_0_1, .int .u8 p0_0_2, .int .u16 p0_0_3, .int .i64 p0_0_4, .int .i64 p0_0_5, .int .i64 p0_1, .int .i64 p0_2, .int .i64 p0_3, .int .i64 p0_4, .int .i64 p0_5]] (by kernel_rfl) ((text_shown_indexed_119_ok K _ w1  p0_0_0 p0_0_1 p0_0_2 p0_0_3 p0_0_4 p0_0_5 p0_1 p0_2 p0_3 p0_4 p0_5 h3.old' hg9).mono ?_))
 rintro _ w6 ⟨rfl, hb7⟩
 refine ⟨_, rfl, ?_⟩
 have h8 := h3.call hb7
 refine RegI.p 2 [(1, .int .i64 p1), (2, .pointer (some ⟨b2, 0, none⟩)), (5, .bool (!t10))] ?_
 refine RegI.d ?_
 rcases of_cond h with ⟨hc11, h⟩ | ⟨hc11, h⟩
 ·skip
  refine RunsI.f 5 true hc11 ?_
  refine RunsI.b true 7 ?_
  refine RunsI.g 1 [.blk 0, .c 21] ?_
  refine RunsI.g 2 [.c 22, .c 23] ?_
  refine RunsI.r ?_
  refine RegI.p 1 [(44, .int .i64 p1)] ?_
  obtain ⟨hc48, h⟩ := of_cond0 h
  refine RegI.o (OpE.run 45 (by kernel_rfl) (run_idxArr (T := 122) (b := 5) (o := 0) (ix := p1) (len := 8) (s := 1) (by kernel_rfl) (by kernel_rfl) hc48) ?_)
  refine RegI.o (OpE.loadTab 46 0 9 en_5 tab_5 0 1 p1 (.string (rdD tab_5 p1)) (o := 0 + (Int.toNat p1) * 1 + 0) h8 (by kernel_rfl) rfl (fun _ => rfl) (by kernel_rfl) (by omega) hc48 (fun _ => by kernel_rfl) ?_)
  refine RegI.p 1 [(4, .string (rdD tab_5 p1))] ?_
  refine RegI.d ?_
  refine RunsI.t (.string (rdD tab_5 p1)) ?_
  obtain rfl := Option.some.inj h
  exact ⟨rfl, h8.below⟩
 ·skip
  refine RunsI.f 5 false hc11 ?_
  refine RunsI.b false 8 ?_
  refine RunsI.g 1 [.c 9, .c 10, .blk 0, .c 21] ?_
  refine RunsI.r ?_
  refine RegI.p 3 [(1, .int .i64 p1), (2, .pointer (some ⟨b2, 0, none⟩)), (9, .bool (p1 == 6))] ?_
  refine RegI.d ?_
  rcases of_cond h with ⟨hc12, h⟩ | ⟨hc12, h⟩
  ·skip
   refine RunsI.f 9 true hc12 ?_
   refine RunsI.b true 11 ?_
   refine RunsI.g 1 [.c 12, .c 13, .blk 0, .c 21] ?_
   refine RunsI.r ?_
   refine RegI.p 2 [(2, .pointer (some ⟨b2, 0, none⟩)), (13, .pointer (some ⟨b2, 0, none⟩))] ?_
   refine RegI.o (OpE.loadBox 14 2 3 b2 0 (.int .i64 p0_0_0) h8 (by kernel_rfl) (by kernel_rfl) rfl (by kernel_rfl) ?_)
   refine RegI.p 2 [(14, .int .i64 p0_0_0), (16, .pointer (some ⟨b2, 2, none⟩))] ?_
   refine RegI.o (OpE.loadBox 17 2 5 b2 2 (.int .u8 p0_0_2) h8 (by kernel_rfl) (by kernel_rfl) rfl (by kernel_rfl) ?_)
   obtain ⟨t17, hg16, h⟩ := of_bind h
   refine RegI.o (OpE.call 18 (by kernel_rfl) 49 #[.int .i64 p0_0_0, .int .u8 p0_0_2] (by kernel_rfl) ((text_Index_49_ok K _ w6  p0_0_0 p0_0_2 h8.old' (h8.get 1 rfl) hg16).mono ?_))
   rintro _ w13 ⟨rfl, hb14⟩
   refine ⟨_, rfl, ?_⟩
   have h15 := h8.call hb14
   refine RegI.p 1 [(4, .string t17)] ?_
   refine RegI.d ?_
   refine RunsI.t (.string t17) ?_
   obtain rfl := Option.some.inj h
   exact ⟨rfl, h15.below⟩
  ·skip
   refine RunsI.f 9 false hc12 ?_
   refine RunsI.b false 14 ?_
   refine RunsI.g 1 [.c 15, .c 16, .blk 0, .c 21] ?_
   refine RunsI.r ?_
   refine RegI.p 3 [(1, .int .i64 p1), (2, .pointer (some ⟨b2, 0, none⟩)), (22, .bool (p1 == 4))] ?_
   obtain ⟨j33, hJ34, h⟩ := of_let h
   have hj35 : ∀ (t30 : Bool) (w32 : World), j33 t30 = some r → Holds M0 w0 w32 [box b2 92 [.int .i64 p0_0_0, .int .u8 p0_0_1, .int .u8 p0_0_2, .int .u16 p0_0_3, .int .i64 p0_0_4, .int .i64 p0_0_5, .int .i64 p0_1, .int .i64 p0_2, .int .i64 p0_3, .int .i64 p0_4, .int .i64 p0_5], gl 5 (tab_5.flatMap en_5), gl 12 (tab_12.flatMap en_12)] → RegI F91 15 [.c 16, .blk 0, .c 21] 17 [(1, .int .i64 p1), (2, .pointer (some ⟨b2, 0, none⟩)), (19, .bool t30)] w32 (text_shown_reg_91.post M0 w0 r) := by
    intro t30 w32 h h31
    rw [hJ34] at h
    clear hJ34
    dsimp only at h
    refine RegI.d ?_
    rcases of_cond h with ⟨hc36, h⟩ | ⟨hc36, h⟩
    ·skip
     refine RunsI.f 19 true hc36 ?_
     refine RunsI.b true 17 ?_
     refine RunsI.g 1 [.c 18, .c 19, .blk 0, .c 21] ?_
     refine RunsI.any 9 (by kernel_rfl) (by kernel_rfl) (by kernel_rfl) (Kp ([] : List Nat) (World.drew w32)) ?_
     have h38 := h31.drew
     generalize World.drew w32 = w37 at h38 ⊢
     have hS39 := Kp.refl ([] : List Nat) w37
     refine AnyE.pure 0 36 (.pointer (some ⟨b2, 0, none⟩)) (by kernel_rfl) hS39 (fun _ => by kernel_rfl) ?_
     refine AnyE.pure 1 37 (.pointer (some ⟨b2, 0, none⟩)) (by kernel_rfl) hS39 (fun _ => by kernel_rfl) ?_
     refine AnyE.loadBox 2 38 0 3 b2 0 (.int .i64 p0_0_0) [] h38 rfl (by kernel_rfl) hS39 rfl rfl (by kernel_rfl) (by kernel_rfl) ?_
     obtain ⟨t42, hg41, h⟩ := of_bind h
     refine AnyE.call 3 39 (.string t42) 82 #[.int .i64 p0_0_0] (by kernel_rfl) hS39 (fun _ => by kernel_rfl) (fun w hk => text_index_82_ok K (fun _ => False) w p0_0_0 (fun _ hf => hf.elim) hg41) ?_
     refine AnyE.pure 4 40 (.int .i64 p1) (by kernel_rfl) hS39 (fun _ => by kernel_rfl) ?_
     obtain ⟨hc43, h⟩ := of_cond0 h
     refine AnyE.run 5 41 (.pointer (some ⟨5, 0 + (Int.toNat p1) * 1, none⟩)) (by kernel_rfl) hS39 (fun _ hk => run_idxArr (T := 122) (b := 5) (o := 0) (ix := p1) (len := 8) (s := 1) (by kernel_rfl) (by kernel_rfl) hc43) ?_
     refine AnyE.loadTab 6 42 1 9 en_5 tab_5 0 1 p1 (.string (rdD tab_5 p1)) [] (o := 0 + (Int.toNat p1) * 1 + 0) h38 rfl (by kernel_rfl) hS39 rfl rfl (fun _ => rfl) (by kernel_rfl) (by omega) hc43 (fun _ => by kernel_rfl) ?_
     obtain ⟨hc44, h⟩ := of_cond0 h
     refine AnyE.run 7 43 (.string (t42 ++ (rdD tab_5 p1))) (by kernel_rfl) hS39 (fun _ hk => run_cat (a := t42) (b := (rdD tab_5 p1)) (by kernel_rfl) hc44) ?_
     refine AnyE.pure 8 4 (.string (t42 ++ (rdD tab_5 p1))) (by kernel_rfl) hS39 (fun _ => by kernel_rfl) ?_
     refine AnyE.done (by kernel_rfl) (fun w45 hu46 => ?_)
     have h47 := h38.call hu46
     refine RunsI.l [4] [(4, .string (t42 ++ (rdD tab_5 p1)))] ?_
     refine RunsI.t (.string (t42 ++ (rdD tab_5 p1))) ?_
     obtain rfl := Option.some.inj h
     exact ⟨rfl, h47.below⟩
    ·skip
     refine RunsI.f 19 false hc36 ?_
     refine RunsI.b false 20 ?_
     refine RunsI.g 1 [.blk 0, .c 21] ?_
     refine RunsI.g 2 [.c 22, .c 23] ?_
     refine RunsI.r ?_
     refine RegI.p 1 [(44, .int .i64 p1)] ?_
     obtain ⟨hc49, h⟩ := of_cond0 h
     refine RegI.o (OpE.run 45 (by kernel_rfl) (run_idxArr (T := 122) (b := 5) (o := 0) (ix := p1) (len := 8) (s := 1) (by kernel_rfl) (by kernel_rfl) hc49) ?_)
     refine RegI.o (OpE.loadTab 46 1 9 en_5 tab_5 0 1 p1 (.string (rdD tab_5 p1)) (o := 0 + (Int.toNat p1) * 1 + 0) h31 (by kernel_rfl) rfl (fun _ => rfl) (by kernel_rfl) (by omega) hc49 (fun _ => by kernel_rfl) ?_)
     refine RegI.p 1 [(4, .string (rdD tab_5 p1))] ?_
     refine RegI.d ?_
     refine RunsI.t (.string (rdD tab_5 p1)) ?_
     obtain rfl := Option.some.inj h
     exact ⟨rfl, h31.below⟩
   clear hJ34
   rcases of_cond h with ⟨hc18, h⟩ | ⟨hc18, h⟩
   ·skip
    refine RegI.f 22 true hc18 ?_
    refine RegI.p 6 [(1, .int .i64 p1), (2, .pointer (some ⟨b2, 0, none⟩)), (26, .bool true), (28, .pointer (some ⟨b2, 0, none⟩))] ?_
    refine RegI.o (OpE.loadBox 29 2 3 b2 0 (.int .i64 p0_0_0) h8 (by kernel_rfl) (by kernel_rfl) rfl (by kernel_rfl) ?_)
    refine RegI.p 2 [(1, .int .i64 p1), (2, .pointer (some ⟨b2, 0, none⟩)), (26, .bool true), (29, .int .i64 p0_0_0), (31, .pointer (some ⟨b2, 1, none⟩))] ?_
    refine RegI.o (OpE.loadBox 32 2 5 b2 1 (.int .u8 p0_0_1) h8 (by kernel_rfl) (by kernel_rfl) rfl (by kernel_rfl) ?_)
    obtain ⟨t23, hg22, h⟩ := of_bind h
    refine RegI.o (OpE.call 33 (by kernel_rfl) 120 #[.int .i64 p0_0_0, .int .u8 p0_0_1] (by kernel_rfl) ((decode_Near_120_ok K _ w6  p0_0_0 p0_0_1 h8.old' hg22).mono ?_))
    rintro _ w19 ⟨rfl, hb20⟩
    refine ⟨_, rfl, ?_⟩
    have h21 := h8.call hb20
    refine RegI.p 3 [(1, .int .i64 p1), (2, .pointer (some ⟨b2, 0, none⟩)), (19, .bool (!t23))] ?_
    refine RegI.l [1, 2, 19] [(1, .int .i64 p1), (2, .pointer (some ⟨b2, 0, none⟩)), (19, .bool (!t23))] ?_
    exact hj35 (!t23) w19 h (h21.pick [2, 0, 1] (by decide))
   ·skip
    refine RegI.f 22 false hc18 ?_
    refine RegI.p 4 [(1, .int .i64 p1), (2, .pointer (some ⟨b2, 0, none⟩)), (26, .bool (p1 == 5))] ?_
    rcases of_cond h with ⟨hc24, h⟩ | ⟨hc24, h⟩
    ·skip
     refine RegI.f 26 true hc24 ?_
     refine RegI.p 2 [(1, .int .i64 p1), (2, .pointer (some ⟨b2, 0, none⟩)), (26, .bool true), (28, .pointer (some ⟨b2, 0, none⟩))] ?_
     refine RegI.o (OpE.loadBox 29 2 3 b2 0 (.int .i64 p0_0_0) h8 (by kernel_rfl) (by kernel_rfl) rfl (by kernel_rfl) ?_)
     refine RegI.p 2 [(1, .int .i64 p1), (2, .pointer (some ⟨b2, 0, none⟩)), (26, .bool true), (29, .int .i64 p0_0_0), (31, .pointer (some ⟨b2, 1, none⟩))] ?_
     refine RegI.o (OpE.loadBox 32 2 5 b2 1 (.int .u8 p0_0_1) h8 (by kernel_rfl) (by kernel_rfl) rfl (by kernel_rfl) ?_)
     obtain ⟨t29, hg28, h⟩ := of_bind h
     refine RegI.o (OpE.call 33 (by kernel_rfl) 120 #[.int .i64 p0_0_0, .int .u8 p0_0_1] (by kernel_rfl) ((decode_Near_120_ok K _ w6  p0_0_0 p0_0_1 h8.old' hg28).mono ?_))
     rintro _ w25 ⟨rfl, hb26⟩
     refine ⟨_, rfl, ?_⟩
     have h27 := h8.call hb26
     refine RegI.p 3 [(1, .int .i64 p1), (2, .pointer (some ⟨b2, 0, none⟩)), (19, .bool (!t29))] ?_
     refine RegI.l [1, 2, 19] [(1, .int .i64 p1), (2, .pointer (some ⟨b2, 0, none⟩)), (19, .bool (!t29))] ?_
     exact hj35 (!t29) w25 h (h27.pick [2, 0, 1] (by decide))
    ·skip
     refine RegI.f 26 false hc24 ?_
     refine RegI.p 10 [(1, .int .i64 p1), (2, .pointer (some ⟨b2, 0, none⟩)), (19, .bool false)] ?_
     refine RegI.l [1, 2, 19] [(1, .int .i64 p1), (2, .pointer (some ⟨b2, 0, none⟩)), (19, .bool false)] ?_
     exact hj35 false w6 h (h8.pick [2, 0, 1] (by decide))
end

/-! ### (charabanc/text.shown).n (function 92) -/
section
def text_shown_n_92.post (M0 : Nat → Prop) (w0 : World) (r : ByteArray) : Ending → World → Prop := fun e w => e = .returned (.string r) ∧ Below w0.heap.size w0 w
def text_shown_n_92.f (K : Nat) (p0_0_0 : Int) (p0_0_1 : Int) (p0_0_2 : Int) (p0_0_3 : Int) (p0_0_4 : Int) (p0_0_5 : Int) (p0_1 : Int) (p0_2 : Int) (p0_3 : Int) (p0_4 : Int) (p0_5 : Int) : Option ByteArray := (bits_Lo_66.f K p0_0_3).bind fun t10 => (text_Hex_48.f K (IntKind.wrap .i64 t10) 2).bind fun t15 => some t15
set_option maxRecDepth 100000 in
theorem text_shown_n_92_ok (K : Nat) (M0 : Nat → Prop) (w0 : World) (p0_0_0 : Int) (p0_0_1 : Int) (p0_0_2 : Int) (p0_0_3 : Int) (p0_0_4 : Int) (p0_0_5 : Int) (p0_1 : Int) (p0_2 : Int) (p0_3 : Int) (p0_4 : Int) (p0_5 : Int) (ho : ∀ b, M0 b → b < w0.heap.size) (hG12 : (gl 12 (tab_12.flatMap en_12)).ok w0 M0) (hG15 : (gl 15 (tab_15.flatMap en_15)).ok w0 M0) (hG16 : (gl 16 (tab_16.flatMap en_16)).ok w0 M0) {r : ByteArray} (h : text_shown_n_92.f K p0_0_0 p0_0_1 p0_0_2 p0_0_3 p0_0_4 p0_0_5 p0_1 p0_2 p0_3 p0_4 p0_5 = some r) :
  Calls Tryd.prog 92 #[.agg #[.int .i64 p0_0_0, .int .u8 p0_0_1, .int .u8 p0_0_2, .int .u16 p0_0_3, .int .i64 p0_0_4, .int .i64 p0_0_5, .int .i64 p0_1, .int .i64 p0_2, .int .i64 p0_3, .int .i64 p0_4, .int .i64 p0_5]] w0 (text_shown_n_92.post M0 w0 r) := by
 unfold text_shown_n_92.f at h
 have h0 : Holds M0 w0 w0 [] := Holds.start ho
 have h0g12 := h0.add (gl 12 (tab_12.flatMap en_12)) rfl ⟨hG12.1, fun hm => hG12.2.1 (hm.elim id (fun hm => absurd hm (by simp [mines, sl, gl]))), hG12.2.2⟩
 have h0g15 := h0g12.add (gl 15 (tab_15.flatMap en_15)) rfl ⟨hG15.1, fun hm => hG15.2.1 (hm.elim id (fun hm => absurd hm (by simp [mines, sl, gl]))), hG15.2.2⟩
 have h0g16 := h0g15.add (gl 16 (tab_16.flatMap en_16)) rfl ⟨hG16.1, fun hm => hG16.2.1 (hm.elim id (fun hm => absurd hm (by simp [mines, sl, gl]))), hG16.2.2⟩
 have h0 : Holds M0 w0 w0 [gl 12 (tab_12.flatMap en_12), gl 15 (tab_15.flatMap en_15), gl 16 (tab_16.flatMap en_16)] := h0g16
 refine calls_of F92 rfl [.agg #[.int .i64 p0_0_0, .int .u8 p0_0_1, .int .u8 p0_0_2, .int .u16 p0_0_3, .int .i64 p0_0_4, .int .i64 p0_0_5, .int .i64 p0_1, .int .i64 p0_2, .int .i64 p0_3, .int .i64 p0_4, .int .i64 p0_5]] (by kernel_rfl) ?_
 refine RunsI.g 1 [.c 1, .c 2] ?_
 refine RunsI.r ?_
 refine RegI.o (OpE.box 1 92 [.int .i64 p0_0_0, .int .u8 p0_0_1, .int .u8 p0_0_2, .int .u16 p0_0_3, .int .i64 p0_0_4, .int .i64 p0_0_5, .int .i64 p0_1, .int .i64 p0_2, .int .i64 p0_3, .int .i64 p0_4, .int .i64 p0_5] h0 (by kernel_rfl) (by kernel_rfl) ?_)
 intro w1 b2 h3 hb4 hn5
 refine RegI.p 1 [(1, .pointer (some ⟨b2, 0, none⟩))] ?_
 refine RegI.d ?_
 refine RunsI.g 1 [.c 3, .c 4] ?_
 refine RunsI.r ?_
 refine RegI.p 2 [(4, .pointer (some ⟨b2, 3, none⟩))] ?_
 refine RegI.o (OpE.loadBox 5 3 22 b2 3 (.int .u16 p0_0_3) h3 (by kernel_rfl) (by kernel_rfl) rfl (by kernel_rfl) ?_)
 obtain ⟨t10, hg9, h⟩ := of_bind h
 refine RegI.o (OpE.call 6 (by kernel_rfl) 66 #[.int .u16 p0_0_3] (by kernel_rfl) ((bits_Lo_66_ok K _ w1  p0_0_3 h3.old' hg9).mono ?_))
 rintro _ w6 ⟨rfl, hb7⟩
 refine ⟨_, rfl, ?_⟩
 have h8 := h3.call hb7
 refine RegI.p 1 [(7, .int .i64 (IntKind.wrap .i64 t10))] ?_
 obtain ⟨t15, hg14, h⟩ := of_bind h
 refine RegI.o (OpE.call 8 (by kernel_rfl) 48 #[.int .i64 (IntKind.wrap .i64 t10), .int .i64 2] (by kernel_rfl) ((text_Hex_48_ok K _ w6  (IntKind.wrap .i64 t10) 2 h8.old' (h8.get 0 rfl) (h8.get 1 rfl) (h8.get 2 rfl) hg14).mono ?_))
 rintro _ w11 ⟨rfl, hb12⟩
 refine ⟨_, rfl, ?_⟩
 have h13 := h8.call hb12
 refine RegI.p 1 [(2, .string t15)] ?_
 refine RegI.d ?_
 refine RunsI.t (.string t15) ?_
 obtain rfl := Option.some.inj h
 exact ⟨rfl, h13.below⟩
end

/-! ### (charabanc/text.shown).low (function 51) -/
section
def text_shown_low_51.post (M0 : Nat → Prop) (w0 : World) (r : ByteArray) : Ending → World → Prop := fun e w => e = .returned (.string r) ∧ Below w0.heap.size w0 w
def text_shown_low_51.f (K : Nat) (p0_0_0 : Int) (p0_0_1 : Int) (p0_0_2 : Int) (p0_0_3 : Int) (p0_0_4 : Int) (p0_0_5 : Int) (p0_1 : Int) (p0_2 : Int) (p0_3 : Int) (p0_4 : Int) (p0_5 : Int) : Option ByteArray := cond (p0_3 == 0) (cond (decide (p0_2 > 3)) (cond (inR (IntKind.wrap .i64 (p0_2 - 4)) 8) (cond (mayCat (⟨#[106, 114, 32]⟩ : ByteArray).size (rdD tab_0 (IntKind.wrap .i64 (p0_2 - 4))).size) (cond (mayCat ((⟨#[106, 114, 32]⟩ : ByteArray) ++ (rdD tab_0 (IntKind.wrap .i64 (p0_2 - 4)))).size (⟨#[44]⟩ : ByteArray).size) ((text_shown_to_86.f K p0_0_0 p0_0_1 p0_0_2 p0_0_3 p0_0_4 p0_0_5 p0_1 p0_2 p0_3 p0_4 p0_5).bind fun t16 => cond (mayCat (((⟨#[106, 114, 32]⟩ : ByteArray) ++ (rdD tab_0 (IntKind.wrap .i64 (p0_2 - 4)))) ++ (⟨#[44]⟩ : ByteArray)).size t16.size) (some ((((⟨#[106, 114, 32]⟩ : ByteArray) ++ (rdD tab_0 (IntKind.wrap .i64 (p0_2 - 4)))) ++ (⟨#[44]⟩ : ByteArray)) ++ t16)) none) none) none) none) ((text_shown_to_86.f K p0_0_0 p0_0_1 p0_0_2 p0_0_3 p0_0_4 p0_0_5 p0_1 p0_2 p0_3 p0_4 p0_5).bind fun t26 => cond (mayCat (⟨#[100, 106, 110, 122, 32]⟩ : ByteArray).size t26.size) ((text_shown_to_86.f K p0_0_0 p0_0_1 p0_0_2 p0_0_3 p0_0_4 p0_0_5 p0_1 p0_2 p0_3 p0_4 p0_5).bind fun t29 => cond (mayCat (⟨#[106, 114, 32]⟩ : ByteArray).size t29.size) (cond (inR p0_2 4) (some (rdD ([(⟨#[110, 111, 112]⟩ : ByteArray), (⟨#[101, 120, 32, 97, 102, 44, 97, 102, 39]⟩ : ByteArray), ((⟨#[100, 106, 110, 122, 32]⟩ : ByteArray) ++ t26), ((⟨#[106, 114, 32]⟩ : ByteArray) ++ t29)] : List ByteArray) p0_2)) none) none) none)) (cond (p0_3 == 1) (cond (p0_5 == 1) ((text_shown_hl_87.f K p0_0_0 p0_0_1 p0_0_2 p0_0_3 p0_0_4 p0_0_5 p0_1 p0_2 p0_3 p0_4 p0_5).bind fun t42 => cond (mayCat (⟨#[97, 100, 100, 32]⟩ : ByteArray).size t42.size) (cond (mayCat ((⟨#[97, 100, 100, 32]⟩ : ByteArray) ++ t42).size (⟨#[44]⟩ : ByteArray).size) ((text_shown_pair_88.f K p0_0_0 p0_0_1 p0_0_2 p0_0_3 p0_0_4 p0_0_5 p0_1 p0_2 p0_3 p0_4 p0_5 p0_4 false).bind fun t46 => cond (mayCat (((⟨#[97, 100, 100, 32]⟩ : ByteArray) ++ t42) ++ (⟨#[44]⟩ : ByteArray)).size t46.size) (some ((((⟨#[97, 100, 100, 32]⟩ : ByteArray) ++ t42) ++ (⟨#[44]⟩ : ByteArray)) ++ t46)) none) none) none) ((text_shown_pair_88.f K p0_0_0 p0_0_1 p0_0_2 p0_0_3 p0_0_4 p0_0_5 p0_1 p0_2 p0_3 p0_4 p0_5 p0_4 false).bind fun t56 => cond (mayCat (⟨#[108, 100, 32]⟩ : ByteArray).size t56.size) (cond (mayCat ((⟨#[108, 100, 32]⟩ : ByteArray) ++ t56).size (⟨#[44]⟩ : ByteArray).size) ((text_shown_nn_89.f K p0_0_0 p0_0_1 p0_0_2 p0_0_3 p0_0_4 p0_0_5 p0_1 p0_2 p0_3 p0_4 p0_5).bind fun t60 => cond (mayCat (((⟨#[108, 100, 32]⟩ : ByteArray) ++ t56) ++ (⟨#[44]⟩ : ByteArray)).size t60.size) (some ((((⟨#[108, 100, 32]⟩ : ByteArray) ++ t56) ++ (⟨#[44]⟩ : ByteArray)) ++ t60)) none) none) none)) (cond (p0_3 == 2) ((text_shown_through_90.f K p0_0_0 p0_0_1 p0_0_2 p0_0_3 p0_0_4 p0_0_5 p0_1 p0_2 p0_3 p0_4 p0_5).bind fun t70 => some t70) (cond (p0_3 == 3) (cond (inR p0_5 2) ((text_shown_pair_88.f K p0_0_0 p0_0_1 p0_0_2 p0_0_3 p0_0_4 p0_0_5 p0_1 p0_2 p0_3 p0_4 p0_5 p0_4 false).bind fun t78 => cond (mayCat (rdD ([(⟨#[105, 110, 99, 32]⟩ : ByteArray), (⟨#[100, 101, 99, 32]⟩ : ByteArray)] : List ByteArray) p0_5).size t78.size) (some ((rdD ([(⟨#[105, 110, 99, 32]⟩ : ByteArray), (⟨#[100, 101, 99, 32]⟩ : ByteArray)] : List ByteArray) p0_5) ++ t78)) none) none) (Let (fun (t84 : Bool) => cond t84 (cond (inR (IntKind.wrap .i64 (p0_3 - 4)) 2) ((text_shown_reg_91.f K p0_0_0 p0_0_1 p0_0_2 p0_0_3 p0_0_4 p0_0_5 p0_1 p0_2 p0_3 p0_4 p0_5 p0_2).bind fun t97 => cond (mayCat (rdD ([(⟨#[105, 110, 99, 32]⟩ : ByteArray), (⟨#[100, 101, 99, 32]⟩ : ByteArray)] : List ByteArray) (IntKind.wrap .i64 (p0_3 - 4))).size t97.size) (some ((rdD ([(⟨#[105, 110, 99, 32]⟩ : ByteArray), (⟨#[100, 101, 99, 32]⟩ : ByteArray)] : List ByteArray) (IntKind.wrap .i64 (p0_3 - 4))) ++ t97)) none) none) (cond (p0_3 == 6) ((text_shown_reg_91.f K p0_0_0 p0_0_1 p0_0_2 p0_0_3 p0_0_4 p0_0_5 p0_1 p0_2 p0_3 p0_4 p0_5 p0_2).bind fun t108 => cond (mayCat (⟨#[108, 100, 32]⟩ : ByteArray).size t108.size) (cond (mayCat ((⟨#[108, 100, 32]⟩ : ByteArray) ++ t108).size (⟨#[44]⟩ : ByteArray).size) ((text_shown_n_92.f K p0_0_0 p0_0_1 p0_0_2 p0_0_3 p0_0_4 p0_0_5 p0_1 p0_2 p0_3 p0_4 p0_5).bind fun t112 => cond (mayCat (((⟨#[108, 100, 32]⟩ : ByteArray) ++ t108) ++ (⟨#[44]⟩ : ByteArray)).size t112.size) (some ((((⟨#[108, 100, 32]⟩ : ByteArray) ++ t108) ++ (⟨#[44]⟩ : ByteArray)) ++ t112)) none) none) none) (cond (inR p0_2 8) (some (rdD tab_1 p0_2)) none))) (fun j87 => cond (p0_3 == 4) (j87 true) (j87 (p0_3 == 5)))))))
set_option maxRecDepth 100000 in
theorem text_shown_low_51_ok (K : Nat) (M0 : Nat → Prop) (w0 : World) (p0_0_0 : Int) (p0_0_1 : Int) (p0_0_2 : Int) (p0_0_3 : Int) (p0_0_4 : Int) (p0_0_5 : Int) (p0_1 : Int) (p0_2 : Int) (p0_3 : Int) (p0_4 : Int) (p0_5 : Int) (ho : ∀ b, M0 b → b < w0.heap.size) (hG0 : (gl 0 (tab_0.flatMap en_0)).ok w0 M0) (hG1 : (gl 1 (tab_1.flatMap en_1)).ok w0 M0) (hG5 : (gl 5 (tab_5.flatMap en_5)).ok w0 M0) (hG6 : (gl 6 (tab_6.flatMap en_6)).ok w0 M0) (hG12 : (gl 12 (tab_12.flatMap en_12)).ok w0 M0) (hG15 : (gl 15 (tab_15.flatMap en_15)).ok w0 M0) (hG16 : (gl 16 (tab_16.flatMap en_16)).ok w0 M0) {r : ByteArray} (h : text_shown_low_51.f K p0_0_0 p0_0_1 p0_0_2 p0_0_3 p0_0_4 p0_0_5 p0_1 p0_2 p0_3 p0_4 p0_5 = some r) :
  Calls Tryd.prog 51 #[.agg #[.int .i64 p0_0_0, .int .u8 p0_0_1, .int .u8 p0_0_2, .int .u16 p0_0_3, .int .i64 p0_0_4, .int .i64 p0_0_5, .int .i64 p0_1, .int .i64 p0_2, .int .i64 p0_3, .int .i64 p0_4, .int .i64 p0_5]] w0 (text_shown_low_51.post M0 w0 r) := by
 unfold text_shown_low_51.f at h
 have h0 : Holds M0 w0 w0 [] := Holds.start ho
 have h0g0 := h0.add (gl 0 (tab_0.flatMap en_0)) rfl ⟨hG0.1, fun hm => hG0.2.1 (hm.elim id (fun hm => absurd hm (by simp [mines, sl, gl]))), hG0.2.2⟩
 have h0g1 := h0g0.add (gl 1 (tab_1.flatMap en_1)) rfl ⟨hG1.1, fun hm => hG1.2.1 (hm.elim id (fun hm => absurd hm (by simp [mines, sl, gl]))), hG1.2.2⟩
 have h0g5 := h0g1.add (gl 5 (tab_5.flatMap en_5)) rfl ⟨hG5.1, fun hm => hG5.2.1 (hm.elim id (fun hm => absurd hm (by simp [mines, sl, gl]))), hG5.2.2⟩
 have h0g6 := h0g5.add (gl 6 (tab_6.flatMap en_6)) rfl ⟨hG6.1, fun hm => hG6.2.1 (hm.elim id (fun hm => absurd hm (by simp [mines, sl, gl]))), hG6.2.2⟩
 have h0g12 := h0g6.add (gl 12 (tab_12.flatMap en_12)) rfl ⟨hG12.1, fun hm => hG12.2.1 (hm.elim id (fun hm => absurd hm (by simp [mines, sl, gl]))), hG12.2.2⟩
 have h0g15 := h0g12.add (gl 15 (tab_15.flatMap en_15)) rfl ⟨hG15.1, fun hm => hG15.2.1 (hm.elim id (fun hm => absurd hm (by simp [mines, sl, gl]))), hG15.2.2⟩
 have h0g16 := h0g15.add (gl 16 (tab_16.flatMap en_16)) rfl ⟨hG16.1, fun hm => hG16.2.1 (hm.elim id (fun hm => absurd hm (by simp [mines, sl, gl]))), hG16.2.2⟩
 have h0 : Holds M0 w0 w0 [gl 0 (tab_0.flatMap en_0), gl 1 (tab_1.flatMap en_1), gl 5 (tab_5.flatMap en_5), gl 6 (tab_6.flatMap en_6), gl 12 (tab_12.flatMap en_12), gl 15 (tab_15.flatMap en_15), gl 16 (tab_16.flatMap en_16)] := h0g16
 refine calls_of F51 rfl [.agg #[.int .i64 p0_0_0, .int .u8 p0_0_1, .int .u8 p0_0_2, .int .u16 p0_0_3, .int .i64 p0_0_4, .int .i64 p0_0_5, .int .i64 p0_1, .int .i64 p0_2, .int .i64 p0_3, .int .i64 p0_4, .int .i64 p0_5]] (by kernel_rfl) ?_
 refine RunsI.g 1 [.c 1, .c 2] ?_
 refine RunsI.r ?_
 refine RegI.o (OpE.box 1 92 [.int .i64 p0_0_0, .int .u8 p0_0_1, .int .u8 p0_0_2, .int .u16 p0_0_3, .int .i64 p0_0_4, .int .i64 p0_0_5, .int .i64 p0_1, .int .i64 p0_2, .int .i64 p0_3, .int .i64 p0_4, .int .i64 p0_5] h0 (by kernel_rfl) (by kernel_rfl) ?_)
 intro w1 b2 h3 hb4 hn5
 refine RegI.p 1 [(1, .pointer (some ⟨b2, 0, none⟩))] ?_
 refine RegI.d ?_
 refine RunsI.g 2 [.c 4, .c 5, .c 63] ?_
 refine RunsI.r ?_
 refine RegI.p 1 [(1, .pointer (some ⟨b2, 0, none⟩)), (3, .pointer (some ⟨b2, 8, none⟩))] ?_
 refine RegI.o (OpE.loadBox 4 7 3 b2 8 (.int .i64 p0_3) h3 (by kernel_rfl) (by kernel_rfl) rfl (by kernel_rfl) ?_)
 refine RegI.d ?_
 refine RunsI.g 2 [.c 7, .c 8, .blk 0, .c 63] ?_
 refine RunsI.r ?_
 refine RegI.p 2 [(1, .pointer (some ⟨b2, 0, none⟩)), (4, .int .i64 p0_3), (5, .bool (p0_3 == 0))] ?_
 refine RegI.d ?_
 rcases of_cond h with ⟨hc6, h⟩ | ⟨hc6, h⟩
 ·skip
  refine RunsI.f 5 true hc6 ?_
  refine RunsI.b true 9 ?_
  refine RunsI.g 2 [.c 11, .c 12, .c 17, .blk 0, .c 63] ?_
  refine RunsI.r ?_
  refine RegI.p 1 [(1, .pointer (some ⟨b2, 0, none⟩)), (7, .pointer (some ⟨b2, 7, none⟩))] ?_
  refine RegI.o (OpE.loadBox 8 7 3 b2 7 (.int .i64 p0_2) h3 (by kernel_rfl) (by kernel_rfl) rfl (by kernel_rfl) ?_)
  refine RegI.p 1 [(1, .pointer (some ⟨b2, 0, none⟩)), (9, .bool (decide (p0_2 > 3)))] ?_
  refine RegI.d ?_
  rcases of_cond h with ⟨hc7, h⟩ | ⟨hc7, h⟩
  ·skip
   refine RunsI.f 9 true hc7 ?_
   refine RunsI.b true 13 ?_
   refine RunsI.g 1 [.c 14, .c 15, .c 17, .blk 0, .c 63] ?_
   refine RunsI.any 11 (by kernel_rfl) (by kernel_rfl) (by kernel_rfl) (Kp ([] : List Nat) (World.drew w1)) ?_
   have h9 := h3.drew
   generalize World.drew w1 = w8 at h9 ⊢
   have hS10 := Kp.refl ([] : List Nat) w8
   refine AnyE.pure 0 10 (.pointer (some ⟨b2, 7, none⟩)) (by kernel_rfl) hS10 (fun _ => by kernel_rfl) ?_
   refine AnyE.loadBox 1 11 7 3 b2 7 (.int .i64 p0_2) [] h9 rfl (by kernel_rfl) hS10 rfl rfl (by kernel_rfl) (by kernel_rfl) ?_
   refine AnyE.pure 2 12 (.int .i64 (IntKind.wrap .i64 (p0_2 - 4))) (by kernel_rfl) hS10 (fun _ => by kernel_rfl) ?_
   obtain ⟨hc12, h⟩ := of_cond0 h
   refine AnyE.run 3 13 (.pointer (some ⟨0, 0 + (Int.toNat (IntKind.wrap .i64 (p0_2 - 4))) * 1, none⟩)) (by kernel_rfl) hS10 (fun _ hk => run_idxArr (T := 122) (b := 0) (o := 0) (ix := (IntKind.wrap .i64 (p0_2 - 4))) (len := 8) (s := 1) (by kernel_rfl) (by kernel_rfl) hc12) ?_
   refine AnyE.loadTab 4 14 0 9 en_0 tab_0 0 1 (IntKind.wrap .i64 (p0_2 - 4)) (.string (rdD tab_0 (IntKind.wrap .i64 (p0_2 - 4)))) [] (o := 0 + (Int.toNat (IntKind.wrap .i64 (p0_2 - 4))) * 1 + 0) h9 rfl (by kernel_rfl) hS10 rfl rfl (fun _ => rfl) (by kernel_rfl) (by omega) hc12 (fun _ => by kernel_rfl) ?_
   obtain ⟨hc13, h⟩ := of_cond0 h
   refine AnyE.run 5 15 (.string ((⟨#[106, 114, 32]⟩ : ByteArray) ++ (rdD tab_0 (IntKind.wrap .i64 (p0_2 - 4))))) (by kernel_rfl) hS10 (fun _ hk => run_cat (a := (⟨#[106, 114, 32]⟩ : ByteArray)) (b := (rdD tab_0 (IntKind.wrap .i64 (p0_2 - 4)))) (by kernel_rfl) hc13) ?_
   obtain ⟨hc14, h⟩ := of_cond0 h
   refine AnyE.run 6 16 (.string (((⟨#[106, 114, 32]⟩ : ByteArray) ++ (rdD tab_0 (IntKind.wrap .i64 (p0_2 - 4)))) ++ (⟨#[44]⟩ : ByteArray))) (by kernel_rfl) hS10 (fun _ hk => run_cat (a := ((⟨#[106, 114, 32]⟩ : ByteArray) ++ (rdD tab_0 (IntKind.wrap .i64 (p0_2 - 4))))) (b := (⟨#[44]⟩ : ByteArray)) (by kernel_rfl) hc14) ?_
   refine AnyE.loadBox 7 17 7 92 b2 0 (.agg #[.int .i64 p0_0_0, .int .u8 p0_0_1, .int .u8 p0_0_2, .int .u16 p0_0_3, .int .i64 p0_0_4, .int .i64 p0_0_5, .int .i64 p0_1, .int .i64 p0_2, .int .i64 p0_3, .int .i64 p0_4, .int .i64 p0_5]) [] h9 rfl (by kernel_rfl) hS10 rfl rfl (by kernel_rfl) (by kernel_rfl) ?_
   obtain ⟨t16, hg15, h⟩ := of_bind h
   refine AnyE.call 8 18 (.string t16) 86 #[.agg #[.int .i64 p0_0_0, .int .u8 p0_0_1, .int .u8 p0_0_2, .int .u16 p0_0_3, .int .i64 p0_0_4, .int .i64 p0_0_5, .int .i64 p0_1, .int .i64 p0_2, .int .i64 p0_3, .int .i64 p0_4, .int .i64 p0_5]] (by kernel_rfl) hS10 (fun _ => by kernel_rfl) (fun w hk => text_shown_to_86_ok K (fun _ => False) w p0_0_0 p0_0_1 p0_0_2 p0_0_3 p0_0_4 p0_0_5 p0_1 p0_2 p0_3 p0_4 p0_5 (fun _ hf => hf.elim) ⟨(h9.atI [] rfl hk 4 rfl rfl).1, fun hf => hf.elim, (h9.atI [] rfl hk 4 rfl rfl).2.2⟩ hg15) ?_
   obtain ⟨hc17, h⟩ := of_cond0 h
   refine AnyE.run 9 19 (.string ((((⟨#[106, 114, 32]⟩ : ByteArray) ++ (rdD tab_0 (IntKind.wrap .i64 (p0_2 - 4)))) ++ (⟨#[44]⟩ : ByteArray)) ++ t16)) (by kernel_rfl) hS10 (fun _ hk => run_cat (a := (((⟨#[106, 114, 32]⟩ : ByteArray) ++ (rdD tab_0 (IntKind.wrap .i64 (p0_2 - 4)))) ++ (⟨#[44]⟩ : ByteArray))) (b := t16) (by kernel_rfl) hc17) ?_
   refine AnyE.pure 10 2 (.string ((((⟨#[106, 114, 32]⟩ : ByteArray) ++ (rdD tab_0 (IntKind.wrap .i64 (p0_2 - 4)))) ++ (⟨#[44]⟩ : ByteArray)) ++ t16)) (by kernel_rfl) hS10 (fun _ => by kernel_rfl) ?_
   refine AnyE.done (by kernel_rfl) (fun w18 hu19 => ?_)
   have h20 := h9.call hu19
   refine RunsI.l [2] [(2, .string ((((⟨#[106, 114, 32]⟩ : ByteArray) ++ (rdD tab_0 (IntKind.wrap .i64 (p0_2 - 4)))) ++ (⟨#[44]⟩ : ByteArray)) ++ t16))] ?_
   refine RunsI.t (.string ((((⟨#[106, 114, 32]⟩ : ByteArray) ++ (rdD tab_0 (IntKind.wrap .i64 (p0_2 - 4)))) ++ (⟨#[44]⟩ : ByteArray)) ++ t16)) ?_
   obtain rfl := Option.some.inj h
   exact ⟨rfl, h20.below⟩
  ·skip
   refine RunsI.f 9 false hc7 ?_
   refine RunsI.b false 16 ?_
   refine RunsI.g 1 [.c 17, .blk 0, .c 63] ?_
   refine RunsI.g 1 [.c 18, .c 19, .blk 0, .c 63] ?_
   refine RunsI.any 11 (by kernel_rfl) (by kernel_rfl) (by kernel_rfl) (Kp ([] : List Nat) (World.drew w1)) ?_
   have h22 := h3.drew
   generalize World.drew w1 = w21 at h22 ⊢
   have hS23 := Kp.refl ([] : List Nat) w21
   refine AnyE.loadBox 0 20 7 92 b2 0 (.agg #[.int .i64 p0_0_0, .int .u8 p0_0_1, .int .u8 p0_0_2, .int .u16 p0_0_3, .int .i64 p0_0_4, .int .i64 p0_0_5, .int .i64 p0_1, .int .i64 p0_2, .int .i64 p0_3, .int .i64 p0_4, .int .i64 p0_5]) [] h22 rfl (by kernel_rfl) hS23 rfl rfl (by kernel_rfl) (by kernel_rfl) ?_
   obtain ⟨t26, hg25, h⟩ := of_bind h
   refine AnyE.call 1 21 (.string t26) 86 #[.agg #[.int .i64 p0_0_0, .int .u8 p0_0_1, .int .u8 p0_0_2, .int .u16 p0_0_3, .int .i64 p0_0_4, .int .i64 p0_0_5, .int .i64 p0_1, .int .i64 p0_2, .int .i64 p0_3, .int .i64 p0_4, .int .i64 p0_5]] (by kernel_rfl) hS23 (fun _ => by kernel_rfl) (fun w hk => text_shown_to_86_ok K (fun _ => False) w p0_0_0 p0_0_1 p0_0_2 p0_0_3 p0_0_4 p0_0_5 p0_1 p0_2 p0_3 p0_4 p0_5 (fun _ hf => hf.elim) ⟨(h22.atI [] rfl hk 4 rfl rfl).1, fun hf => hf.elim, (h22.atI [] rfl hk 4 rfl rfl).2.2⟩ hg25) ?_
   obtain ⟨hc27, h⟩ := of_cond0 h
   refine AnyE.run 2 22 (.string ((⟨#[100, 106, 110, 122, 32]⟩ : ByteArray) ++ t26)) (by kernel_rfl) hS23 (fun _ hk => run_cat (a := (⟨#[100, 106, 110, 122, 32]⟩ : ByteArray)) (b := t26) (by kernel_rfl) hc27) ?_
   refine AnyE.loadBox 3 23 7 92 b2 0 (.agg #[.int .i64 p0_0_0, .int .u8 p0_0_1, .int .u8 p0_0_2, .int .u16 p0_0_3, .int .i64 p0_0_4, .int .i64 p0_0_5, .int .i64 p0_1, .int .i64 p0_2, .int .i64 p0_3, .int .i64 p0_4, .int .i64 p0_5]) [] h22 rfl (by kernel_rfl) hS23 rfl rfl (by kernel_rfl) (by kernel_rfl) ?_
   obtain ⟨t29, hg28, h⟩ := of_bind h
   refine AnyE.call 4 24 (.string t29) 86 #[.agg #[.int .i64 p0_0_0, .int .u8 p0_0_1, .int .u8 p0_0_2, .int .u16 p0_0_3, .int .i64 p0_0_4, .int .i64 p0_0_5, .int .i64 p0_1, .int .i64 p0_2, .int .i64 p0_3, .int .i64 p0_4, .int .i64 p0_5]] (by kernel_rfl) hS23 (fun _ => by kernel_rfl) (fun w hk => text_shown_to_86_ok K (fun _ => False) w p0_0_0 p0_0_1 p0_0_2 p0_0_3 p0_0_4 p0_0_5 p0_1 p0_2 p0_3 p0_4 p0_5 (fun _ hf => hf.elim) ⟨(h22.atI [] rfl hk 4 rfl rfl).1, fun hf => hf.elim, (h22.atI [] rfl hk 4 rfl rfl).2.2⟩ hg28) ?_
   obtain ⟨hc30, h⟩ := of_cond0 h
   refine AnyE.run 5 25 (.string ((⟨#[106, 114, 32]⟩ : ByteArray) ++ t29)) (by kernel_rfl) hS23 (fun _ hk => run_cat (a := (⟨#[106, 114, 32]⟩ : ByteArray)) (b := t29) (by kernel_rfl) hc30) ?_
   refine AnyE.pure 6 26 (.agg (List.flatMap (fun (x : ByteArray) => ([.string x] : List Value)) ([(⟨#[110, 111, 112]⟩ : ByteArray), (⟨#[101, 120, 32, 97, 102, 44, 97, 102, 39]⟩ : ByteArray), ((⟨#[100, 106, 110, 122, 32]⟩ : ByteArray) ++ t26), ((⟨#[106, 114, 32]⟩ : ByteArray) ++ t29)] : List ByteArray)).toArray) (by kernel_rfl) hS23 (fun _ => by kernel_rfl) ?_
   refine AnyE.pure 7 27 (.pointer (some ⟨b2, 7, none⟩)) (by kernel_rfl) hS23 (fun _ => by kernel_rfl) ?_
   refine AnyE.loadBox 8 28 7 3 b2 7 (.int .i64 p0_2) [] h22 rfl (by kernel_rfl) hS23 rfl rfl (by kernel_rfl) (by kernel_rfl) ?_
   obtain ⟨hc31, h⟩ := of_cond0 h
   refine AnyE.run 9 29 (.string (rdD ([(⟨#[110, 111, 112]⟩ : ByteArray), (⟨#[101, 120, 32, 97, 102, 44, 97, 102, 39]⟩ : ByteArray), ((⟨#[100, 106, 110, 122, 32]⟩ : ByteArray) ++ t26), ((⟨#[106, 114, 32]⟩ : ByteArray) ++ t29)] : List ByteArray) p0_2)) (by kernel_rfl) hS23 (fun _ hk => run_indexTab (T0 := 123) (en := (fun (x : ByteArray) => ([.string x] : List Value))) (tab := ([(⟨#[110, 111, 112]⟩ : ByteArray), (⟨#[101, 120, 32, 97, 102, 44, 97, 102, 39]⟩ : ByteArray), ((⟨#[100, 106, 110, 122, 32]⟩ : ByteArray) ++ t26), ((⟨#[106, 114, 32]⟩ : ByteArray) ++ t29)] : List ByteArray)) (len := 4) (sz := 1) (j := p0_2) (v := .string (rdD ([(⟨#[110, 111, 112]⟩ : ByteArray), (⟨#[101, 120, 32, 97, 102, 44, 97, 102, 39]⟩ : ByteArray), ((⟨#[100, 106, 110, 122, 32]⟩ : ByteArray) ++ t26), ((⟨#[106, 114, 32]⟩ : ByteArray) ++ t29)] : List ByteArray) p0_2)) (fun _ => rfl) (by kernel_rfl) (by kernel_rfl) rfl hc31 (fun _ => by kernel_rfl)) ?_
   refine AnyE.pure 10 2 (.string (rdD ([(⟨#[110, 111, 112]⟩ : ByteArray), (⟨#[101, 120, 32, 97, 102, 44, 97, 102, 39]⟩ : ByteArray), ((⟨#[100, 106, 110, 122, 32]⟩ : ByteArray) ++ t26), ((⟨#[106, 114, 32]⟩ : ByteArray) ++ t29)] : List ByteArray) p0_2)) (by kernel_rfl) hS23 (fun _ => by kernel_rfl) ?_
   refine AnyE.done (by kernel_rfl) (fun w32 hu33 => ?_)
   have h34 := h22.call hu33
   refine RunsI.l [2] [(2, .string (rdD ([(⟨#[110, 111, 112]⟩ : ByteArray), (⟨#[101, 120, 32, 97, 102, 44, 97, 102, 39]⟩ : ByteArray), ((⟨#[100, 106, 110, 122, 32]⟩ : ByteArray) ++ t26), ((⟨#[106, 114, 32]⟩ : ByteArray) ++ t29)] : List ByteArray) p0_2))] ?_
   refine RunsI.t (.string (rdD ([(⟨#[110, 111, 112]⟩ : ByteArray), (⟨#[101, 120, 32, 97, 102, 44, 97, 102, 39]⟩ : ByteArray), ((⟨#[100, 106, 110, 122, 32]⟩ : ByteArray) ++ t26), ((⟨#[106, 114, 32]⟩ : ByteArray) ++ t29)] : List ByteArray) p0_2)) ?_
   obtain rfl := Option.some.inj h
   exact ⟨rfl, h34.below⟩
 ·skip
  refine RunsI.f 5 false hc6 ?_
  refine RunsI.b false 20 ?_
  refine RunsI.g 1 [.c 21, .c 22, .blk 0, .c 63] ?_
  refine RunsI.r ?_
  refine RegI.p 2 [(1, .pointer (some ⟨b2, 0, none⟩)), (4, .int .i64 p0_3), (30, .bool (p0_3 == 1))] ?_
  refine RegI.d ?_
  rcases of_cond h with ⟨hc35, h⟩ | ⟨hc35, h⟩
  ·skip
   refine RunsI.f 30 true hc35 ?_
   refine RunsI.b true 23 ?_
   refine RunsI.g 2 [.c 25, .c 26, .c 31, .blk 0, .c 63] ?_
   refine RunsI.r ?_
   refine RegI.p 1 [(1, .pointer (some ⟨b2, 0, none⟩)), (32, .pointer (some ⟨b2, 10, none⟩))] ?_
   refine RegI.o (OpE.loadBox 33 7 3 b2 10 (.int .i64 p0_5) h3 (by kernel_rfl) (by kernel_rfl) rfl (by kernel_rfl) ?_)
   refine RegI.p 1 [(1, .pointer (some ⟨b2, 0, none⟩)), (34, .bool (p0_5 == 1))] ?_
   refine RegI.d ?_
   rcases of_cond h with ⟨hc36, h⟩ | ⟨hc36, h⟩
   ·skip
    refine RunsI.f 34 true hc36 ?_
    refine RunsI.b true 27 ?_
    refine RunsI.g 1 [.c 28, .c 29, .c 31, .blk 0, .c 63] ?_
    refine RunsI.any 10 (by kernel_rfl) (by kernel_rfl) (by kernel_rfl) (Kp ([] : List Nat) (World.drew w1)) ?_
    have h38 := h3.drew
    generalize World.drew w1 = w37 at h38 ⊢
    have hS39 := Kp.refl ([] : List Nat) w37
    refine AnyE.loadBox 0 35 7 92 b2 0 (.agg #[.int .i64 p0_0_0, .int .u8 p0_0_1, .int .u8 p0_0_2, .int .u16 p0_0_3, .int .i64 p0_0_4, .int .i64 p0_0_5, .int .i64 p0_1, .int .i64 p0_2, .int .i64 p0_3, .int .i64 p0_4, .int .i64 p0_5]) [] h38 rfl (by kernel_rfl) hS39 rfl rfl (by kernel_rfl) (by kernel_rfl) ?_
    obtain ⟨t42, hg41, h⟩ := of_bind h
    refine AnyE.call 1 36 (.string t42) 87 #[.agg #[.int .i64 p0_0_0, .int .u8 p0_0_1, .int .u8 p0_0_2, .int .u16 p0_0_3, .int .i64 p0_0_4, .int .i64 p0_0_5, .int .i64 p0_1, .int .i64 p0_2, .int .i64 p0_3, .int .i64 p0_4, .int .i64 p0_5]] (by kernel_rfl) hS39 (fun _ => by kernel_rfl) (fun w hk => text_shown_hl_87_ok K (fun _ => False) w p0_0_0 p0_0_1 p0_0_2 p0_0_3 p0_0_4 p0_0_5 p0_1 p0_2 p0_3 p0_4 p0_5 (fun _ hf => hf.elim) ⟨(h38.atI [] rfl hk 3 rfl rfl).1, fun hf => hf.elim, (h38.atI [] rfl hk 3 rfl rfl).2.2⟩ hg41) ?_
    obtain ⟨hc43, h⟩ := of_cond0 h
    refine AnyE.run 2 37 (.string ((⟨#[97, 100, 100, 32]⟩ : ByteArray) ++ t42)) (by kernel_rfl) hS39 (fun _ hk => run_cat (a := (⟨#[97, 100, 100, 32]⟩ : ByteArray)) (b := t42) (by kernel_rfl) hc43) ?_
    obtain ⟨hc44, h⟩ := of_cond0 h
    refine AnyE.run 3 38 (.string (((⟨#[97, 100, 100, 32]⟩ : ByteArray) ++ t42) ++ (⟨#[44]⟩ : ByteArray))) (by kernel_rfl) hS39 (fun _ hk => run_cat (a := ((⟨#[97, 100, 100, 32]⟩ : ByteArray) ++ t42)) (b := (⟨#[44]⟩ : ByteArray)) (by kernel_rfl) hc44) ?_
    refine AnyE.loadBox 4 39 7 92 b2 0 (.agg #[.int .i64 p0_0_0, .int .u8 p0_0_1, .int .u8 p0_0_2, .int .u16 p0_0_3, .int .i64 p0_0_4, .int .i64 p0_0_5, .int .i64 p0_1, .int .i64 p0_2, .int .i64 p0_3, .int .i64 p0_4, .int .i64 p0_5]) [] h38 rfl (by kernel_rfl) hS39 rfl rfl (by kernel_rfl) (by kernel_rfl) ?_
    refine AnyE.pure 5 40 (.pointer (some ⟨b2, 9, none⟩)) (by kernel_rfl) hS39 (fun _ => by kernel_rfl) ?_
    refine AnyE.loadBox 6 41 7 3 b2 9 (.int .i64 p0_4) [] h38 rfl (by kernel_rfl) hS39 rfl rfl (by kernel_rfl) (by kernel_rfl) ?_
    obtain ⟨t46, hg45, h⟩ := of_bind h
    refine AnyE.call 7 42 (.string t46) 88 #[.agg #[.int .i64 p0_0_0, .int .u8 p0_0_1, .int .u8 p0_0_2, .int .u16 p0_0_3, .int .i64 p0_0_4, .int .i64 p0_0_5, .int .i64 p0_1, .int .i64 p0_2, .int .i64 p0_3, .int .i64 p0_4, .int .i64 p0_5], .int .i64 p0_4, .bool false] (by kernel_rfl) hS39 (fun _ => by kernel_rfl) (fun w hk => text_shown_pair_88_ok K (fun _ => False) w p0_0_0 p0_0_1 p0_0_2 p0_0_3 p0_0_4 p0_0_5 p0_1 p0_2 p0_3 p0_4 p0_5 p0_4 false (fun _ hf => hf.elim) ⟨(h38.atI [] rfl hk 3 rfl rfl).1, fun hf => hf.elim, (h38.atI [] rfl hk 3 rfl rfl).2.2⟩ hg45) ?_
    obtain ⟨hc47, h⟩ := of_cond0 h
    refine AnyE.run 8 43 (.string ((((⟨#[97, 100, 100, 32]⟩ : ByteArray) ++ t42) ++ (⟨#[44]⟩ : ByteArray)) ++ t46)) (by kernel_rfl) hS39 (fun _ hk => run_cat (a := (((⟨#[97, 100, 100, 32]⟩ : ByteArray) ++ t42) ++ (⟨#[44]⟩ : ByteArray))) (b := t46) (by kernel_rfl) hc47) ?_
    refine AnyE.pure 9 2 (.string ((((⟨#[97, 100, 100, 32]⟩ : ByteArray) ++ t42) ++ (⟨#[44]⟩ : ByteArray)) ++ t46)) (by kernel_rfl) hS39 (fun _ => by kernel_rfl) ?_
    refine AnyE.done (by kernel_rfl) (fun w48 hu49 => ?_)
    have h50 := h38.call hu49
    refine RunsI.l [2] [(2, .string ((((⟨#[97, 100, 100, 32]⟩ : ByteArray) ++ t42) ++ (⟨#[44]⟩ : ByteArray)) ++ t46))] ?_
    refine RunsI.t (.string ((((⟨#[97, 100, 100, 32]⟩ : ByteArray) ++ t42) ++ (⟨#[44]⟩ : ByteArray)) ++ t46)) ?_
    obtain rfl := Option.some.inj h
    exact ⟨rfl, h50.below⟩
   ·skip
    refine RunsI.f 34 false hc36 ?_
    refine RunsI.b false 30 ?_
    refine RunsI.g 1 [.c 31, .blk 0, .c 63] ?_
    refine RunsI.g 1 [.c 32, .c 33, .blk 0, .c 63] ?_
    refine RunsI.any 10 (by kernel_rfl) (by kernel_rfl) (by kernel_rfl) (Kp ([] : List Nat) (World.drew w1)) ?_
    have h52 := h3.drew
    generalize World.drew w1 = w51 at h52 ⊢
    have hS53 := Kp.refl ([] : List Nat) w51
    refine AnyE.loadBox 0 44 7 92 b2 0 (.agg #[.int .i64 p0_0_0, .int .u8 p0_0_1, .int .u8 p0_0_2, .int .u16 p0_0_3, .int .i64 p0_0_4, .int .i64 p0_0_5, .int .i64 p0_1, .int .i64 p0_2, .int .i64 p0_3, .int .i64 p0_4, .int .i64 p0_5]) [] h52 rfl (by kernel_rfl) hS53 rfl rfl (by kernel_rfl) (by kernel_rfl) ?_
    refine AnyE.pure 1 45 (.pointer (some ⟨b2, 9, none⟩)) (by kernel_rfl) hS53 (fun _ => by kernel_rfl) ?_
    refine AnyE.loadBox 2 46 7 3 b2 9 (.int .i64 p0_4) [] h52 rfl (by kernel_rfl) hS53 rfl rfl (by kernel_rfl) (by kernel_rfl) ?_
    obtain ⟨t56, hg55, h⟩ := of_bind h
    refine AnyE.call 3 47 (.string t56) 88 #[.agg #[.int .i64 p0_0_0, .int .u8 p0_0_1, .int .u8 p0_0_2, .int .u16 p0_0_3, .int .i64 p0_0_4, .int .i64 p0_0_5, .int .i64 p0_1, .int .i64 p0_2, .int .i64 p0_3, .int .i64 p0_4, .int .i64 p0_5], .int .i64 p0_4, .bool false] (by kernel_rfl) hS53 (fun _ => by kernel_rfl) (fun w hk => text_shown_pair_88_ok K (fun _ => False) w p0_0_0 p0_0_1 p0_0_2 p0_0_3 p0_0_4 p0_0_5 p0_1 p0_2 p0_3 p0_4 p0_5 p0_4 false (fun _ hf => hf.elim) ⟨(h52.atI [] rfl hk 3 rfl rfl).1, fun hf => hf.elim, (h52.atI [] rfl hk 3 rfl rfl).2.2⟩ hg55) ?_
    obtain ⟨hc57, h⟩ := of_cond0 h
    refine AnyE.run 4 48 (.string ((⟨#[108, 100, 32]⟩ : ByteArray) ++ t56)) (by kernel_rfl) hS53 (fun _ hk => run_cat (a := (⟨#[108, 100, 32]⟩ : ByteArray)) (b := t56) (by kernel_rfl) hc57) ?_
    obtain ⟨hc58, h⟩ := of_cond0 h
    refine AnyE.run 5 49 (.string (((⟨#[108, 100, 32]⟩ : ByteArray) ++ t56) ++ (⟨#[44]⟩ : ByteArray))) (by kernel_rfl) hS53 (fun _ hk => run_cat (a := ((⟨#[108, 100, 32]⟩ : ByteArray) ++ t56)) (b := (⟨#[44]⟩ : ByteArray)) (by kernel_rfl) hc58) ?_
    refine AnyE.loadBox 6 50 7 92 b2 0 (.agg #[.int .i64 p0_0_0, .int .u8 p0_0_1, .int .u8 p0_0_2, .int .u16 p0_0_3, .int .i64 p0_0_4, .int .i64 p0_0_5, .int .i64 p0_1, .int .i64 p0_2, .int .i64 p0_3, .int .i64 p0_4, .int .i64 p0_5]) [] h52 rfl (by kernel_rfl) hS53 rfl rfl (by kernel_rfl) (by kernel_rfl) ?_
    obtain ⟨t60, hg59, h⟩ := of_bind h
    refine AnyE.call 7 51 (.string t60) 89 #[.agg #[.int .i64 p0_0_0, .int .u8 p0_0_1, .int .u8 p0_0_2, .int .u16 p0_0_3, .int .i64 p0_0_4, .int .i64 p0_0_5, .int .i64 p0_1, .int .i64 p0_2, .int .i64 p0_3, .int .i64 p0_4, .int .i64 p0_5]] (by kernel_rfl) hS53 (fun _ => by kernel_rfl) (fun w hk => text_shown_nn_89_ok K (fun _ => False) w p0_0_0 p0_0_1 p0_0_2 p0_0_3 p0_0_4 p0_0_5 p0_1 p0_2 p0_3 p0_4 p0_5 (fun _ hf => hf.elim) ⟨(h52.atI [] rfl hk 4 rfl rfl).1, fun hf => hf.elim, (h52.atI [] rfl hk 4 rfl rfl).2.2⟩ ⟨(h52.atI [] rfl hk 5 rfl rfl).1, fun hf => hf.elim, (h52.atI [] rfl hk 5 rfl rfl).2.2⟩ ⟨(h52.atI [] rfl hk 6 rfl rfl).1, fun hf => hf.elim, (h52.atI [] rfl hk 6 rfl rfl).2.2⟩ hg59) ?_
    obtain ⟨hc61, h⟩ := of_cond0 h
    refine AnyE.run 8 52 (.string ((((⟨#[108, 100, 32]⟩ : ByteArray) ++ t56) ++ (⟨#[44]⟩ : ByteArray)) ++ t60)) (by kernel_rfl) hS53 (fun _ hk => run_cat (a := (((⟨#[108, 100, 32]⟩ : ByteArray) ++ t56) ++ (⟨#[44]⟩ : ByteArray))) (b := t60) (by kernel_rfl) hc61) ?_
    refine AnyE.pure 9 2 (.string ((((⟨#[108, 100, 32]⟩ : ByteArray) ++ t56) ++ (⟨#[44]⟩ : ByteArray)) ++ t60)) (by kernel_rfl) hS53 (fun _ => by kernel_rfl) ?_
    refine AnyE.done (by kernel_rfl) (fun w62 hu63 => ?_)
    have h64 := h52.call hu63
    refine RunsI.l [2] [(2, .string ((((⟨#[108, 100, 32]⟩ : ByteArray) ++ t56) ++ (⟨#[44]⟩ : ByteArray)) ++ t60))] ?_
    refine RunsI.t (.string ((((⟨#[108, 100, 32]⟩ : ByteArray) ++ t56) ++ (⟨#[44]⟩ : ByteArray)) ++ t60)) ?_
    obtain rfl := Option.some.inj h
    exact ⟨rfl, h64.below⟩
  ·skip
   refine RunsI.f 30 false hc35 ?_
   refine RunsI.b false 34 ?_
   refine RunsI.g 1 [.c 35, .c 36, .blk 0, .c 63] ?_
   refine RunsI.r ?_
   refine RegI.p 2 [(1, .pointer (some ⟨b2, 0, none⟩)), (4, .int .i64 p0_3), (53, .bool (p0_3 == 2))] ?_
   refine RegI.d ?_
   rcases of_cond h with ⟨hc65, h⟩ | ⟨hc65, h⟩
   ·skip
    refine RunsI.f 53 true hc65 ?_
    refine RunsI.b true 37 ?_
    refine RunsI.g 1 [.c 38, .c 39, .blk 0, .c 63] ?_
    refine RunsI.r ?_
    refine RegI.o (OpE.loadBox 55 7 92 b2 0 (.agg #[.int .i64 p0_0_0, .int .u8 p0_0_1, .int .u8 p0_0_2, .int .u16 p0_0_3, .int .i64 p0_0_4, .int .i64 p0_0_5, .int .i64 p0_1, .int .i64 p0_2, .int .i64 p0_3, .int .i64 p0_4, .int .i64 p0_5]) h3 (by kernel_rfl) (by kernel_rfl) rfl (by kernel_rfl) ?_)
    obtain ⟨t70, hg69, h⟩ := of_bind h
    refine RegI.o (OpE.call 56 (by kernel_rfl) 90 #[.agg #[.int .i64 p0_0_0, .int .u8 p0_0_1, .int .u8 p0_0_2, .int .u16 p0_0_3, .int .i64 p0_0_4, .int .i64 p0_0_5, .int .i64 p0_1, .int .i64 p0_2, .int .i64 p0_3, .int .i64 p0_4, .int .i64 p0_5]] (by kernel_rfl) ((text_shown_through_90_ok K _ w1  p0_0_0 p0_0_1 p0_0_2 p0_0_3 p0_0_4 p0_0_5 p0_1 p0_2 p0_3 p0_4 p0_5 h3.old' (h3.get 3 rfl) (h3.get 4 rfl) (h3.get 5 rfl) (h3.get 6 rfl) hg69).mono ?_))
    rintro _ w66 ⟨rfl, hb67⟩
    refine ⟨_, rfl, ?_⟩
    have h68 := h3.call hb67
    refine RegI.p 1 [(2, .string t70)] ?_
    refine RegI.d ?_
    refine RunsI.t (.string t70) ?_
    obtain rfl := Option.some.inj h
    exact ⟨rfl, h68.below⟩
   ·skip
    refine RunsI.f 53 false hc65 ?_
    refine RunsI.b false 40 ?_
    refine RunsI.g 1 [.c 41, .c 42, .blk 0, .c 63] ?_
    refine RunsI.r ?_
    refine RegI.p 2 [(1, .pointer (some ⟨b2, 0, none⟩)), (4, .int .i64 p0_3), (57, .bool (p0_3 == 3))] ?_
    refine RegI.d ?_
    rcases of_cond h with ⟨hc71, h⟩ | ⟨hc71, h⟩
    ·skip
     refine RunsI.f 57 true hc71 ?_
     refine RunsI.b true 43 ?_
     refine RunsI.g 1 [.c 44, .c 45, .blk 0, .c 63] ?_
     refine RunsI.any 10 (by kernel_rfl) (by kernel_rfl) (by kernel_rfl) (Kp ([] : List Nat) (World.drew w1)) ?_
     have h73 := h3.drew
     generalize World.drew w1 = w72 at h73 ⊢
     have hS74 := Kp.refl ([] : List Nat) w72
     refine AnyE.pure 0 59 (.agg #[.string (⟨#[105, 110, 99, 32]⟩ : ByteArray), .string (⟨#[100, 101, 99, 32]⟩ : ByteArray)]) (by kernel_rfl) hS74 (fun _ => by kernel_rfl) ?_
     refine AnyE.pure 1 60 (.pointer (some ⟨b2, 10, none⟩)) (by kernel_rfl) hS74 (fun _ => by kernel_rfl) ?_
     refine AnyE.loadBox 2 61 7 3 b2 10 (.int .i64 p0_5) [] h73 rfl (by kernel_rfl) hS74 rfl rfl (by kernel_rfl) (by kernel_rfl) ?_
     obtain ⟨hc76, h⟩ := of_cond0 h
     refine AnyE.run 3 62 (.string (rdD ([(⟨#[105, 110, 99, 32]⟩ : ByteArray), (⟨#[100, 101, 99, 32]⟩ : ByteArray)] : List ByteArray) p0_5)) (by kernel_rfl) hS74 (fun _ hk => run_indexTab (T0 := 125) (en := (fun (x : ByteArray) => ([.string x] : List Value))) (tab := ([(⟨#[105, 110, 99, 32]⟩ : ByteArray), (⟨#[100, 101, 99, 32]⟩ : ByteArray)] : List ByteArray)) (len := 2) (sz := 1) (j := p0_5) (v := .string (rdD ([(⟨#[105, 110, 99, 32]⟩ : ByteArray), (⟨#[100, 101, 99, 32]⟩ : ByteArray)] : List ByteArray) p0_5)) (fun _ => rfl) (by kernel_rfl) (by kernel_rfl) rfl hc76 (fun _ => by kernel_rfl)) ?_
     refine AnyE.loadBox 4 63 7 92 b2 0 (.agg #[.int .i64 p0_0_0, .int .u8 p0_0_1, .int .u8 p0_0_2, .int .u16 p0_0_3, .int .i64 p0_0_4, .int .i64 p0_0_5, .int .i64 p0_1, .int .i64 p0_2, .int .i64 p0_3, .int .i64 p0_4, .int .i64 p0_5]) [] h73 rfl (by kernel_rfl) hS74 rfl rfl (by kernel_rfl) (by kernel_rfl) ?_
     refine AnyE.pure 5 64 (.pointer (some ⟨b2, 9, none⟩)) (by kernel_rfl) hS74 (fun _ => by kernel_rfl) ?_
     refine AnyE.loadBox 6 65 7 3 b2 9 (.int .i64 p0_4) [] h73 rfl (by kernel_rfl) hS74 rfl rfl (by kernel_rfl) (by kernel_rfl) ?_
     obtain ⟨t78, hg77, h⟩ := of_bind h
     refine AnyE.call 7 66 (.string t78) 88 #[.agg #[.int .i64 p0_0_0, .int .u8 p0_0_1, .int .u8 p0_0_2, .int .u16 p0_0_3, .int .i64 p0_0_4, .int .i64 p0_0_5, .int .i64 p0_1, .int .i64 p0_2, .int .i64 p0_3, .int .i64 p0_4, .int .i64 p0_5], .int .i64 p0_4, .bool false] (by kernel_rfl) hS74 (fun _ => by kernel_rfl) (fun w hk => text_shown_pair_88_ok K (fun _ => False) w p0_0_0 p0_0_1 p0_0_2 p0_0_3 p0_0_4 p0_0_5 p0_1 p0_2 p0_3 p0_4 p0_5 p0_4 false (fun _ hf => hf.elim) ⟨(h73.atI [] rfl hk 3 rfl rfl).1, fun hf => hf.elim, (h73.atI [] rfl hk 3 rfl rfl).2.2⟩ hg77) ?_
     obtain ⟨hc79, h⟩ := of_cond0 h
     refine AnyE.run 8 67 (.string ((rdD ([(⟨#[105, 110, 99, 32]⟩ : ByteArray), (⟨#[100, 101, 99, 32]⟩ : ByteArray)] : List ByteArray) p0_5) ++ t78)) (by kernel_rfl) hS74 (fun _ hk => run_cat (a := (rdD ([(⟨#[105, 110, 99, 32]⟩ : ByteArray), (⟨#[100, 101, 99, 32]⟩ : ByteArray)] : List ByteArray) p0_5)) (b := t78) (by kernel_rfl) hc79) ?_
     refine AnyE.pure 9 2 (.string ((rdD ([(⟨#[105, 110, 99, 32]⟩ : ByteArray), (⟨#[100, 101, 99, 32]⟩ : ByteArray)] : List ByteArray) p0_5) ++ t78)) (by kernel_rfl) hS74 (fun _ => by kernel_rfl) ?_
     refine AnyE.done (by kernel_rfl) (fun w80 hu81 => ?_)
     have h82 := h73.call hu81
     refine RunsI.l [2] [(2, .string ((rdD ([(⟨#[105, 110, 99, 32]⟩ : ByteArray), (⟨#[100, 101, 99, 32]⟩ : ByteArray)] : List ByteArray) p0_5) ++ t78))] ?_
     refine RunsI.t (.string ((rdD ([(⟨#[105, 110, 99, 32]⟩ : ByteArray), (⟨#[100, 101, 99, 32]⟩ : ByteArray)] : List ByteArray) p0_5) ++ t78)) ?_
     obtain rfl := Option.some.inj h
     exact ⟨rfl, h82.below⟩
    ·skip
     refine RunsI.f 57 false hc71 ?_
     refine RunsI.b false 46 ?_
     refine RunsI.g 2 [.c 48, .c 49, .c 52, .blk 0, .c 63] ?_
     refine RunsI.r ?_
     refine RegI.p 2 [(1, .pointer (some ⟨b2, 0, none⟩)), (4, .int .i64 p0_3), (68, .bool (p0_3 == 4))] ?_
     refine RegI.d ?_
     obtain ⟨j87, hJ88, h⟩ := of_let h
     have hj89 : ∀ (t84 : Bool) (w86 : World), j87 t84 = some r → Holds M0 w0 w86 [box b2 92 [.int .i64 p0_0_0, .int .u8 p0_0_1, .int .u8 p0_0_2, .int .u16 p0_0_3, .int .i64 p0_0_4, .int .i64 p0_0_5, .int .i64 p0_1, .int .i64 p0_2, .int .i64 p0_3, .int .i64 p0_4, .int .i64 p0_5], gl 0 (tab_0.flatMap en_0), gl 1 (tab_1.flatMap en_1), gl 5 (tab_5.flatMap en_5), gl 6 (tab_6.flatMap en_6), gl 12 (tab_12.flatMap en_12), gl 15 (tab_15.flatMap en_15), gl 16 (tab_16.flatMap en_16)] → RunsI F51 [.c 52, .blk 0, .c 63] [(1, .pointer (some ⟨b2, 0, none⟩)), (4, .int .i64 p0_3), (68, .bool t84)] w86 (text_shown_low_51.post M0 w0 r) := by
      intro t84 w86 h h85
      rw [hJ88] at h
      clear hJ88
      dsimp only at h
      rcases of_cond h with ⟨hc90, h⟩ | ⟨hc90, h⟩
      ·skip
       refine RunsI.f 68 true hc90 ?_
       refine RunsI.b true 53 ?_
       refine RunsI.g 1 [.c 54, .c 55, .blk 0, .c 63] ?_
       refine RunsI.any 11 (by kernel_rfl) (by kernel_rfl) (by kernel_rfl) (Kp ([] : List Nat) (World.drew w86)) ?_
       have h92 := h85.drew
       generalize World.drew w86 = w91 at h92 ⊢
       have hS93 := Kp.refl ([] : List Nat) w91
       refine AnyE.pure 0 71 (.agg #[.string (⟨#[105, 110, 99, 32]⟩ : ByteArray), .string (⟨#[100, 101, 99, 32]⟩ : ByteArray)]) (by kernel_rfl) hS93 (fun _ => by kernel_rfl) ?_
       refine AnyE.pure 1 72 (.pointer (some ⟨b2, 8, none⟩)) (by kernel_rfl) hS93 (fun _ => by kernel_rfl) ?_
       refine AnyE.loadBox 2 73 0 3 b2 8 (.int .i64 p0_3) [] h92 rfl (by kernel_rfl) hS93 rfl rfl (by kernel_rfl) (by kernel_rfl) ?_
       refine AnyE.pure 3 74 (.int .i64 (IntKind.wrap .i64 (p0_3 - 4))) (by kernel_rfl) hS93 (fun _ => by kernel_rfl) ?_
       obtain ⟨hc95, h⟩ := of_cond0 h
       refine AnyE.run 4 75 (.string (rdD ([(⟨#[105, 110, 99, 32]⟩ : ByteArray), (⟨#[100, 101, 99, 32]⟩ : ByteArray)] : List ByteArray) (IntKind.wrap .i64 (p0_3 - 4)))) (by kernel_rfl) hS93 (fun _ hk => run_indexTab (T0 := 125) (en := (fun (x : ByteArray) => ([.string x] : List Value))) (tab := ([(⟨#[105, 110, 99, 32]⟩ : ByteArray), (⟨#[100, 101, 99, 32]⟩ : ByteArray)] : List ByteArray)) (len := 2) (sz := 1) (j := (IntKind.wrap .i64 (p0_3 - 4))) (v := .string (rdD ([(⟨#[105, 110, 99, 32]⟩ : ByteArray), (⟨#[100, 101, 99, 32]⟩ : ByteArray)] : List ByteArray) (IntKind.wrap .i64 (p0_3 - 4)))) (fun _ => rfl) (by kernel_rfl) (by kernel_rfl) rfl hc95 (fun _ => by kernel_rfl)) ?_
       refine AnyE.loadBox 5 76 0 92 b2 0 (.agg #[.int .i64 p0_0_0, .int .u8 p0_0_1, .int .u8 p0_0_2, .int .u16 p0_0_3, .int .i64 p0_0_4, .int .i64 p0_0_5, .int .i64 p0_1, .int .i64 p0_2, .int .i64 p0_3, .int .i64 p0_4, .int .i64 p0_5]) [] h92 rfl (by kernel_rfl) hS93 rfl rfl (by kernel_rfl) (by kernel_rfl) ?_
       refine AnyE.pure 6 77 (.pointer (some ⟨b2, 7, none⟩)) (by kernel_rfl) hS93 (fun _ => by kernel_rfl) ?_
       refine AnyE.loadBox 7 78 0 3 b2 7 (.int .i64 p0_2) [] h92 rfl (by kernel_rfl) hS93 rfl rfl (by kernel_rfl) (by kernel_rfl) ?_
       obtain ⟨t97, hg96, h⟩ := of_bind h
       refine AnyE.call 8 79 (.string t97) 91 #[.agg #[.int .i64 p0_0_0, .int .u8 p0_0_1, .int .u8 p0_0_2, .int .u16 p0_0_3, .int .i64 p0_0_4, .int .i64 p0_0_5, .int .i64 p0_1, .int .i64 p0_2, .int .i64 p0_3, .int .i64 p0_4, .int .i64 p0_5], .int .i64 p0_2] (by kernel_rfl) hS93 (fun _ => by kernel_rfl) (fun w hk => text_shown_reg_91_ok K (fun _ => False) w p0_0_0 p0_0_1 p0_0_2 p0_0_3 p0_0_4 p0_0_5 p0_1 p0_2 p0_3 p0_4 p0_5 p0_2 (fun _ hf => hf.elim) ⟨(h92.atI [] rfl hk 3 rfl rfl).1, fun hf => hf.elim, (h92.atI [] rfl hk 3 rfl rfl).2.2⟩ ⟨(h92.atI [] rfl hk 5 rfl rfl).1, fun hf => hf.elim, (h92.atI [] rfl hk 5 rfl rfl).2.2⟩ hg96) ?_
       obtain ⟨hc98, h⟩ := of_cond0 h
       refine AnyE.run 9 80 (.string ((rdD ([(⟨#[105, 110, 99, 32]⟩ : ByteArray), (⟨#[100, 101, 99, 32]⟩ : ByteArray)] : List ByteArray) (IntKind.wrap .i64 (p0_3 - 4))) ++ t97)) (by kernel_rfl) hS93 (fun _ hk => run_cat (a := (rdD ([(⟨#[105, 110, 99, 32]⟩ : ByteArray), (⟨#[100, 101, 99, 32]⟩ : ByteArray)] : List ByteArray) (IntKind.wrap .i64 (p0_3 - 4)))) (b := t97) (by kernel_rfl) hc98) ?_
       refine AnyE.pure 10 2 (.string ((rdD ([(⟨#[105, 110, 99, 32]⟩ : ByteArray), (⟨#[100, 101, 99, 32]⟩ : ByteArray)] : List ByteArray) (IntKind.wrap .i64 (p0_3 - 4))) ++ t97)) (by kernel_rfl) hS93 (fun _ => by kernel_rfl) ?_
       refine AnyE.done (by kernel_rfl) (fun w99 hu100 => ?_)
       have h101 := h92.call hu100
       refine RunsI.l [2] [(2, .string ((rdD ([(⟨#[105, 110, 99, 32]⟩ : ByteArray), (⟨#[100, 101, 99, 32]⟩ : ByteArray)] : List ByteArray) (IntKind.wrap .i64 (p0_3 - 4))) ++ t97))] ?_
       refine RunsI.t (.string ((rdD ([(⟨#[105, 110, 99, 32]⟩ : ByteArray), (⟨#[100, 101, 99, 32]⟩ : ByteArray)] : List ByteArray) (IntKind.wrap .i64 (p0_3 - 4))) ++ t97)) ?_
       obtain rfl := Option.some.inj h
       exact ⟨rfl, h101.below⟩
      ·skip
       refine RunsI.f 68 false hc90 ?_
       refine RunsI.b false 56 ?_
       refine RunsI.g 1 [.c 57, .c 58, .blk 0, .c 63] ?_
       refine RunsI.r ?_
       refine RegI.p 2 [(1, .pointer (some ⟨b2, 0, none⟩)), (81, .bool (p0_3 == 6))] ?_
       refine RegI.d ?_
       rcases of_cond h with ⟨hc102, h⟩ | ⟨hc102, h⟩
       ·skip
        refine RunsI.f 81 true hc102 ?_
        refine RunsI.b true 59 ?_
        refine RunsI.g 1 [.c 60, .c 61, .blk 0, .c 63] ?_
        refine RunsI.any 10 (by kernel_rfl) (by kernel_rfl) (by kernel_rfl) (Kp ([] : List Nat) (World.drew w86)) ?_
        have h104 := h85.drew
        generalize World.drew w86 = w103 at h104 ⊢
        have hS105 := Kp.refl ([] : List Nat) w103
        refine AnyE.loadBox 0 83 0 92 b2 0 (.agg #[.int .i64 p0_0_0, .int .u8 p0_0_1, .int .u8 p0_0_2, .int .u16 p0_0_3, .int .i64 p0_0_4, .int .i64 p0_0_5, .int .i64 p0_1, .int .i64 p0_2, .int .i64 p0_3, .int .i64 p0_4, .int .i64 p0_5]) [] h104 rfl (by kernel_rfl) hS105 rfl rfl (by kernel_rfl) (by kernel_rfl) ?_
        refine AnyE.pure 1 84 (.pointer (some ⟨b2, 7, none⟩)) (by kernel_rfl) hS105 (fun _ => by kernel_rfl) ?_
        refine AnyE.loadBox 2 85 0 3 b2 7 (.int .i64 p0_2) [] h104 rfl (by kernel_rfl) hS105 rfl rfl (by kernel_rfl) (by kernel_rfl) ?_
        obtain ⟨t108, hg107, h⟩ := of_bind h
        refine AnyE.call 3 86 (.string t108) 91 #[.agg #[.int .i64 p0_0_0, .int .u8 p0_0_1, .int .u8 p0_0_2, .int .u16 p0_0_3, .int .i64 p0_0_4, .int .i64 p0_0_5, .int .i64 p0_1, .int .i64 p0_2, .int .i64 p0_3, .int .i64 p0_4, .int .i64 p0_5], .int .i64 p0_2] (by kernel_rfl) hS105 (fun _ => by kernel_rfl) (fun w hk => text_shown_reg_91_ok K (fun _ => False) w p0_0_0 p0_0_1 p0_0_2 p0_0_3 p0_0_4 p0_0_5 p0_1 p0_2 p0_3 p0_4 p0_5 p0_2 (fun _ hf => hf.elim) ⟨(h104.atI [] rfl hk 3 rfl rfl).1, fun hf => hf.elim, (h104.atI [] rfl hk 3 rfl rfl).2.2⟩ ⟨(h104.atI [] rfl hk 5 rfl rfl).1, fun hf => hf.elim, (h104.atI [] rfl hk 5 rfl rfl).2.2⟩ hg107) ?_
        obtain ⟨hc109, h⟩ := of_cond0 h
        refine AnyE.run 4 87 (.string ((⟨#[108, 100, 32]⟩ : ByteArray) ++ t108)) (by kernel_rfl) hS105 (fun _ hk => run_cat (a := (⟨#[108, 100, 32]⟩ : ByteArray)) (b := t108) (by kernel_rfl) hc109) ?_
        obtain ⟨hc110, h⟩ := of_cond0 h
        refine AnyE.run 5 88 (.string (((⟨#[108, 100, 32]⟩ : ByteArray) ++ t108) ++ (⟨#[44]⟩ : ByteArray))) (by kernel_rfl) hS105 (fun _ hk => run_cat (a := ((⟨#[108, 100, 32]⟩ : ByteArray) ++ t108)) (b := (⟨#[44]⟩ : ByteArray)) (by kernel_rfl) hc110) ?_
        refine AnyE.loadBox 6 89 0 92 b2 0 (.agg #[.int .i64 p0_0_0, .int .u8 p0_0_1, .int .u8 p0_0_2, .int .u16 p0_0_3, .int .i64 p0_0_4, .int .i64 p0_0_5, .int .i64 p0_1, .int .i64 p0_2, .int .i64 p0_3, .int .i64 p0_4, .int .i64 p0_5]) [] h104 rfl (by kernel_rfl) hS105 rfl rfl (by kernel_rfl) (by kernel_rfl) ?_
        obtain ⟨t112, hg111, h⟩ := of_bind h
        refine AnyE.call 7 90 (.string t112) 92 #[.agg #[.int .i64 p0_0_0, .int .u8 p0_0_1, .int .u8 p0_0_2, .int .u16 p0_0_3, .int .i64 p0_0_4, .int .i64 p0_0_5, .int .i64 p0_1, .int .i64 p0_2, .int .i64 p0_3, .int .i64 p0_4, .int .i64 p0_5]] (by kernel_rfl) hS105 (fun _ => by kernel_rfl) (fun w hk => text_shown_n_92_ok K (fun _ => False) w p0_0_0 p0_0_1 p0_0_2 p0_0_3 p0_0_4 p0_0_5 p0_1 p0_2 p0_3 p0_4 p0_5 (fun _ hf => hf.elim) ⟨(h104.atI [] rfl hk 5 rfl rfl).1, fun hf => hf.elim, (h104.atI [] rfl hk 5 rfl rfl).2.2⟩ ⟨(h104.atI [] rfl hk 6 rfl rfl).1, fun hf => hf.elim, (h104.atI [] rfl hk 6 rfl rfl).2.2⟩ ⟨(h104.atI [] rfl hk 7 rfl rfl).1, fun hf => hf.elim, (h104.atI [] rfl hk 7 rfl rfl).2.2⟩ hg111) ?_
        obtain ⟨hc113, h⟩ := of_cond0 h
        refine AnyE.run 8 91 (.string ((((⟨#[108, 100, 32]⟩ : ByteArray) ++ t108) ++ (⟨#[44]⟩ : ByteArray)) ++ t112)) (by kernel_rfl) hS105 (fun _ hk => run_cat (a := (((⟨#[108, 100, 32]⟩ : ByteArray) ++ t108) ++ (⟨#[44]⟩ : ByteArray))) (b := t112) (by kernel_rfl) hc113) ?_
        refine AnyE.pure 9 2 (.string ((((⟨#[108, 100, 32]⟩ : ByteArray) ++ t108) ++ (⟨#[44]⟩ : ByteArray)) ++ t112)) (by kernel_rfl) hS105 (fun _ => by kernel_rfl) ?_
        refine AnyE.done (by kernel_rfl) (fun w114 hu115 => ?_)
        have h116 := h104.call hu115
        refine RunsI.l [2] [(2, .string ((((⟨#[108, 100, 32]⟩ : ByteArray) ++ t108) ++ (⟨#[44]⟩ : ByteArray)) ++ t112))] ?_
        refine RunsI.t (.string ((((⟨#[108, 100, 32]⟩ : ByteArray) ++ t108) ++ (⟨#[44]⟩ : ByteArray)) ++ t112)) ?_
        obtain rfl := Option.some.inj h
        exact ⟨rfl, h116.below⟩
       ·skip
        refine RunsI.f 81 false hc102 ?_
        refine RunsI.b false 62 ?_
        refine RunsI.g 1 [.blk 0, .c 63] ?_
        refine RunsI.g 2 [.c 64, .c 65] ?_
        refine RunsI.r ?_
        refine RegI.p 1 [(92, .pointer (some ⟨b2, 7, none⟩))] ?_
        refine RegI.o (OpE.loadBox 93 0 3 b2 7 (.int .i64 p0_2) h85 (by kernel_rfl) (by kernel_rfl) rfl (by kernel_rfl) ?_)
        obtain ⟨hc117, h⟩ := of_cond0 h
        refine RegI.o (OpE.run 94 (by kernel_rfl) (run_idxArr (T := 122) (b := 1) (o := 0) (ix := p0_2) (len := 8) (s := 1) (by kernel_rfl) (by kernel_rfl) hc117) ?_)
        refine RegI.o (OpE.loadTab 95 2 9 en_1 tab_1 0 1 p0_2 (.string (rdD tab_1 p0_2)) (o := 0 + (Int.toNat p0_2) * 1 + 0) h85 (by kernel_rfl) rfl (fun _ => rfl) (by kernel_rfl) (by omega) hc117 (fun _ => by kernel_rfl) ?_)
        refine RegI.p 1 [(2, .string (rdD tab_1 p0_2))] ?_
        refine RegI.d ?_
        refine RunsI.t (.string (rdD tab_1 p0_2)) ?_
        obtain rfl := Option.some.inj h
        exact ⟨rfl, h85.below⟩
     clear hJ88
     rcases of_cond h with ⟨hc83, h⟩ | ⟨hc83, h⟩
     ·skip
      refine RunsI.f 68 true hc83 ?_
      refine RunsI.b true 50 ?_
      refine RunsI.g 1 [.c 52, .blk 0, .c 63] ?_
      refine RunsI.l [1, 4, 68] [(1, .pointer (some ⟨b2, 0, none⟩)), (4, .int .i64 p0_3), (68, .bool true)] ?_
      exact hj89 true w1 h (h3.pick [7, 0, 1, 2, 3, 4, 5, 6] (by decide))
     ·skip
      refine RunsI.f 68 false hc83 ?_
      refine RunsI.b false 51 ?_
      refine RunsI.r ?_
      refine RegI.p 2 [(1, .pointer (some ⟨b2, 0, none⟩)), (4, .int .i64 p0_3), (68, .bool (p0_3 == 5))] ?_
      refine RegI.d ?_
      refine RunsI.l [1, 4, 68] [(1, .pointer (some ⟨b2, 0, none⟩)), (4, .int .i64 p0_3), (68, .bool (p0_3 == 5))] ?_
      exact hj89 (p0_3 == 5) w1 h (h3.pick [7, 0, 1, 2, 3, 4, 5, 6] (by decide))
end

/-! ### (charabanc/text.shown).moves (function 52) -/
section
def text_shown_moves_52.post (M0 : Nat → Prop) (w0 : World) (r : ByteArray) : Ending → World → Prop := fun e w => e = .returned (.string r) ∧ Below w0.heap.size w0 w
def text_shown_moves_52.f (K : Nat) (p0_0_0 : Int) (p0_0_1 : Int) (p0_0_2 : Int) (p0_0_3 : Int) (p0_0_4 : Int) (p0_0_5 : Int) (p0_1 : Int) (p0_2 : Int) (p0_3 : Int) (p0_4 : Int) (p0_5 : Int) : Option ByteArray := Let (fun (t7 : Bool) => cond t7 (some (⟨#[104, 97, 108, 116]⟩ : ByteArray)) ((text_shown_reg_91.f K p0_0_0 p0_0_1 p0_0_2 p0_0_3 p0_0_4 p0_0_5 p0_1 p0_2 p0_3 p0_4 p0_5 p0_2).bind fun t19 => cond (mayCat (⟨#[108, 100, 32]⟩ : ByteArray).size t19.size) (cond (mayCat ((⟨#[108, 100, 32]⟩ : ByteArray) ++ t19).size (⟨#[44]⟩ : ByteArray).size) ((text_shown_reg_91.f K p0_0_0 p0_0_1 p0_0_2 p0_0_3 p0_0_4 p0_0_5 p0_1 p0_2 p0_3 p0_4 p0_5 p0_3).bind fun t23 => cond (mayCat (((⟨#[108, 100, 32]⟩ : ByteArray) ++ t19) ++ (⟨#[44]⟩ : ByteArray)).size t23.size) (some ((((⟨#[108, 100, 32]⟩ : ByteArray) ++ t19) ++ (⟨#[44]⟩ : ByteArray)) ++ t23)) none) none) none)) (fun j10 => cond (p0_2 == 6) (j10 (p0_3 == 6)) (j10 false))
set_option maxRecDepth 100000 in
theorem text_shown_moves_52_ok (K : Nat) (M0 : Nat → Prop) (w0 : World) (p0_0_0 : Int) (p0_0_1 : Int) (p0_0_2 : Int) (p0_0_3 : Int) (p0_0_4 : Int) (p0_0_5 : Int) (p0_1 : Int) (p0_2 : Int) (p0_3 : Int) (p0_4 : Int) (p0_5 : Int) (ho : ∀ b, M0 b → b < w0.heap.size) (hG5 : (gl 5 (tab_5.flatMap en_5)).ok w0 M0) (hG12 : (gl 12 (tab_12.flatMap en_12)).ok w0 M0) {r : ByteArray} (h : text_shown_moves_52.f K p0_0_0 p0_0_1 p0_0_2 p0_0_3 p0_0_4 p0_0_5 p0_1 p0_2 p0_3 p0_4 p0_5 = some r) :
  Calls Tryd.prog 52 #[.agg #[.int .i64 p0_0_0, .int .u8 p0_0_1, .int .u8 p0_0_2, .int .u16 p0_0_3, .int .i64 p0_0_4, .int .i64 p0_0_5, .int .i64 p0_1, .int .i64 p0_2, .int .i64 p0_3, .int .i64 p0_4, .int .i64 p0_5]] w0 (text_shown_moves_52.post M0 w0 r) := by
 unfold text_shown_moves_52.f at h
 have h0 : Holds M0 w0 w0 [] := Holds.start ho
 have h0g5 := h0.add (gl 5 (tab_5.flatMap en_5)) rfl ⟨hG5.1, fun hm => hG5.2.1 (hm.elim id (fun hm => absurd hm (by simp [mines, sl, gl]))), hG5.2.2⟩
 have h0g12 := h0g5.add (gl 12 (tab_12.flatMap en_12)) rfl ⟨hG12.1, fun hm => hG12.2.1 (hm.elim id (fun hm => absurd hm (by simp [mines, sl, gl]))), hG12.2.2⟩
 have h0 : Holds M0 w0 w0 [gl 5 (tab_5.flatMap en_5), gl 12 (tab_12.flatMap en_12)] := h0g12
 refine calls_of F52 rfl [.agg #[.int .i64 p0_0_0, .int .u8 p0_0_1, .int .u8 p0_0_2, .int .u16 p0_0_3, .int .i64 p0_0_4, .int .i64 p0_0_5, .int .i64 p0_1, .int .i64 p0_2, .int .i64 p0_3, .int .i64 p0_4, .int .i64 p0_5]] (by kernel_rfl) ?_
 refine RunsI.g 1 [.c 1, .c 2] ?_
 refine RunsI.r ?_
 refine RegI.o (OpE.box 1 92 [.int .i64 p0_0_0, .int .u8 p0_0_1, .int .u8 p0_0_2, .int .u16 p0_0_3, .int .i64 p0_0_4, .int .i64 p0_0_5, .int .i64 p0_1, .int .i64 p0_2, .int .i64 p0_3, .int .i64 p0_4, .int .i64 p0_5] h0 (by kernel_rfl) (by kernel_rfl) ?_)
 intro w1 b2 h3 hb4 hn5
 refine RegI.p 1 [(1, .pointer (some ⟨b2, 0, none⟩))] ?_
 refine RegI.d ?_
 refine RunsI.g 2 [.c 4, .c 5, .c 10] ?_
 refine RunsI.r ?_
 refine RegI.p 1 [(1, .pointer (some ⟨b2, 0, none⟩)), (3, .pointer (some ⟨b2, 7, none⟩))] ?_
 refine RegI.o (OpE.loadBox 4 2 3 b2 7 (.int .i64 p0_2) h3 (by kernel_rfl) (by kernel_rfl) rfl (by kernel_rfl) ?_)
 refine RegI.p 2 [(1, .pointer (some ⟨b2, 0, none⟩)), (6, .bool (p0_2 == 6))] ?_
 obtain ⟨j10, hJ11, h⟩ := of_let h
 have hj12 : ∀ (t7 : Bool) (w9 : World), j10 t7 = some r → Holds M0 w0 w9 [box b2 92 [.int .i64 p0_0_0, .int .u8 p0_0_1, .int .u8 p0_0_2, .int .u16 p0_0_3, .int .i64 p0_0_4, .int .i64 p0_0_5, .int .i64 p0_1, .int .i64 p0_2, .int .i64 p0_3, .int .i64 p0_4, .int .i64 p0_5], gl 5 (tab_5.flatMap en_5), gl 12 (tab_12.flatMap en_12)] → RegI F52 4 [.c 5, .c 10] 8 [(1, .pointer (some ⟨b2, 0, none⟩)), (10, .bool t7)] w9 (text_shown_moves_52.post M0 w0 r) := by
  intro t7 w9 h h8
  rw [hJ11] at h
  clear hJ11
  dsimp only at h
  refine RegI.d ?_
  rcases of_cond h with ⟨hc13, h⟩ | ⟨hc13, h⟩
  ·skip
   refine RunsI.f 10 true hc13 ?_
   refine RunsI.b true 6 ?_
   refine RunsI.g 1 [.c 7, .c 8, .c 10] ?_
   refine RunsI.r ?_
   refine RegI.p 1 [(2, .string (⟨#[104, 97, 108, 116]⟩ : ByteArray))] ?_
   refine RegI.d ?_
   refine RunsI.t (.string (⟨#[104, 97, 108, 116]⟩ : ByteArray)) ?_
   obtain rfl := Option.some.inj h
   exact ⟨rfl, h8.below⟩
  ·skip
   refine RunsI.f 10 false hc13 ?_
   refine RunsI.b false 9 ?_
   refine RunsI.g 1 [.c 10] ?_
   refine RunsI.g 1 [.c 11, .c 12] ?_
   refine RunsI.any 12 (by kernel_rfl) (by kernel_rfl) (by kernel_rfl) (Kp ([] : List Nat) (World.drew w9)) ?_
   have h15 := h8.drew
   generalize World.drew w9 = w14 at h15 ⊢
   have hS16 := Kp.refl ([] : List Nat) w14
   refine AnyE.loadBox 0 11 0 92 b2 0 (.agg #[.int .i64 p0_0_0, .int .u8 p0_0_1, .int .u8 p0_0_2, .int .u16 p0_0_3, .int .i64 p0_0_4, .int .i64 p0_0_5, .int .i64 p0_1, .int .i64 p0_2, .int .i64 p0_3, .int .i64 p0_4, .int .i64 p0_5]) [] h15 rfl (by kernel_rfl) hS16 rfl rfl (by kernel_rfl) (by kernel_rfl) ?_
   refine AnyE.pure 1 12 (.pointer (some ⟨b2, 7, none⟩)) (by kernel_rfl) hS16 (fun _ => by kernel_rfl) ?_
   refine AnyE.loadBox 2 13 0 3 b2 7 (.int .i64 p0_2) [] h15 rfl (by kernel_rfl) hS16 rfl rfl (by kernel_rfl) (by kernel_rfl) ?_
   obtain ⟨t19, hg18, h⟩ := of_bind h
   refine AnyE.call 3 14 (.string t19) 91 #[.agg #[.int .i64 p0_0_0, .int .u8 p0_0_1, .int .u8 p0_0_2, .int .u16 p0_0_3, .int .i64 p0_0_4, .int .i64 p0_0_5, .int .i64 p0_1, .int .i64 p0_2, .int .i64 p0_3, .int .i64 p0_4, .int .i64 p0_5], .int .i64 p0_2] (by kernel_rfl) hS16 (fun _ => by kernel_rfl) (fun w hk => text_shown_reg_91_ok K (fun _ => False) w p0_0_0 p0_0_1 p0_0_2 p0_0_3 p0_0_4 p0_0_5 p0_1 p0_2 p0_3 p0_4 p0_5 p0_2 (fun _ hf => hf.elim) ⟨(h15.atI [] rfl hk 1 rfl rfl).1, fun hf => hf.elim, (h15.atI [] rfl hk 1 rfl rfl).2.2⟩ ⟨(h15.atI [] rfl hk 2 rfl rfl).1, fun hf => hf.elim, (h15.atI [] rfl hk 2 rfl rfl).2.2⟩ hg18) ?_
   obtain ⟨hc20, h⟩ := of_cond0 h
   refine AnyE.run 4 15 (.string ((⟨#[108, 100, 32]⟩ : ByteArray) ++ t19)) (by kernel_rfl) hS16 (fun _ hk => run_cat (a := (⟨#[108, 100, 32]⟩ : ByteArray)) (b := t19) (by kernel_rfl) hc20) ?_
   obtain ⟨hc21, h⟩ := of_cond0 h
   refine AnyE.run 5 16 (.string (((⟨#[108, 100, 32]⟩ : ByteArray) ++ t19) ++ (⟨#[44]⟩ : ByteArray))) (by kernel_rfl) hS16 (fun _ hk => run_cat (a := ((⟨#[108, 100, 32]⟩ : ByteArray) ++ t19)) (b := (⟨#[44]⟩ : ByteArray)) (by kernel_rfl) hc21) ?_
   refine AnyE.loadBox 6 17 0 92 b2 0 (.agg #[.int .i64 p0_0_0, .int .u8 p0_0_1, .int .u8 p0_0_2, .int .u16 p0_0_3, .int .i64 p0_0_4, .int .i64 p0_0_5, .int .i64 p0_1, .int .i64 p0_2, .int .i64 p0_3, .int .i64 p0_4, .int .i64 p0_5]) [] h15 rfl (by kernel_rfl) hS16 rfl rfl (by kernel_rfl) (by kernel_rfl) ?_
   refine AnyE.pure 7 18 (.pointer (some ⟨b2, 8, none⟩)) (by kernel_rfl) hS16 (fun _ => by kernel_rfl) ?_
   refine AnyE.loadBox 8 19 0 3 b2 8 (.int .i64 p0_3) [] h15 rfl (by kernel_rfl) hS16 rfl rfl (by kernel_rfl) (by kernel_rfl) ?_
   obtain ⟨t23, hg22, h⟩ := of_bind h
   refine AnyE.call 9 20 (.string t23) 91 #[.agg #[.int .i64 p0_0_0, .int .u8 p0_0_1, .int .u8 p0_0_2, .int .u16 p0_0_3, .int .i64 p0_0_4, .int .i64 p0_0_5, .int .i64 p0_1, .int .i64 p0_2, .int .i64 p0_3, .int .i64 p0_4, .int .i64 p0_5], .int .i64 p0_3] (by kernel_rfl) hS16 (fun _ => by kernel_rfl) (fun w hk => text_shown_reg_91_ok K (fun _ => False) w p0_0_0 p0_0_1 p0_0_2 p0_0_3 p0_0_4 p0_0_5 p0_1 p0_2 p0_3 p0_4 p0_5 p0_3 (fun _ hf => hf.elim) ⟨(h15.atI [] rfl hk 1 rfl rfl).1, fun hf => hf.elim, (h15.atI [] rfl hk 1 rfl rfl).2.2⟩ ⟨(h15.atI [] rfl hk 2 rfl rfl).1, fun hf => hf.elim, (h15.atI [] rfl hk 2 rfl rfl).2.2⟩ hg22) ?_
   obtain ⟨hc24, h⟩ := of_cond0 h
   refine AnyE.run 10 21 (.string ((((⟨#[108, 100, 32]⟩ : ByteArray) ++ t19) ++ (⟨#[44]⟩ : ByteArray)) ++ t23)) (by kernel_rfl) hS16 (fun _ hk => run_cat (a := (((⟨#[108, 100, 32]⟩ : ByteArray) ++ t19) ++ (⟨#[44]⟩ : ByteArray))) (b := t23) (by kernel_rfl) hc24) ?_
   refine AnyE.pure 11 2 (.string ((((⟨#[108, 100, 32]⟩ : ByteArray) ++ t19) ++ (⟨#[44]⟩ : ByteArray)) ++ t23)) (by kernel_rfl) hS16 (fun _ => by kernel_rfl) ?_
   refine AnyE.done (by kernel_rfl) (fun w25 hu26 => ?_)
   have h27 := h15.call hu26
   refine RunsI.l [2] [(2, .string ((((⟨#[108, 100, 32]⟩ : ByteArray) ++ t19) ++ (⟨#[44]⟩ : ByteArray)) ++ t23))] ?_
   refine RunsI.t (.string ((((⟨#[108, 100, 32]⟩ : ByteArray) ++ t19) ++ (⟨#[44]⟩ : ByteArray)) ++ t23)) ?_
   obtain rfl := Option.some.inj h
   exact ⟨rfl, h27.below⟩
 clear hJ11
 rcases of_cond h with ⟨hc6, h⟩ | ⟨hc6, h⟩
 ·skip
  refine RegI.f 6 true hc6 ?_
  refine RegI.p 1 [(1, .pointer (some ⟨b2, 0, none⟩)), (6, .bool true), (7, .pointer (some ⟨b2, 8, none⟩))] ?_
  refine RegI.o (OpE.loadBox 8 2 3 b2 8 (.int .i64 p0_3) h3 (by kernel_rfl) (by kernel_rfl) rfl (by kernel_rfl) ?_)
  refine RegI.p 2 [(1, .pointer (some ⟨b2, 0, none⟩)), (10, .bool (p0_3 == 6))] ?_
  refine RegI.l [1, 10] [(1, .pointer (some ⟨b2, 0, none⟩)), (10, .bool (p0_3 == 6))] ?_
  exact hj12 (p0_3 == 6) w1 h (h3.pick [2, 0, 1] (by decide))
 ·skip
  refine RegI.f 6 false hc6 ?_
  refine RegI.p 4 [(1, .pointer (some ⟨b2, 0, none⟩)), (10, .bool false)] ?_
  refine RegI.l [1, 10] [(1, .pointer (some ⟨b2, 0, none⟩)), (10, .bool false)] ?_
  exact hj12 false w1 h (h3.pick [2, 0, 1] (by decide))
end

/-! ### (charabanc/text.shown).sums (function 53) -/
section
def text_shown_sums_53.post (M0 : Nat → Prop) (w0 : World) (r : ByteArray) : Ending → World → Prop := fun e w => e = .returned (.string r) ∧ Below w0.heap.size w0 w
def text_shown_sums_53.f (K : Nat) (p0_0_0 : Int) (p0_0_1 : Int) (p0_0_2 : Int) (p0_0_3 : Int) (p0_0_4 : Int) (p0_0_5 : Int) (p0_1 : Int) (p0_2 : Int) (p0_3 : Int) (p0_4 : Int) (p0_5 : Int) : Option ByteArray := cond (inR p0_2 8) ((text_shown_reg_91.f K p0_0_0 p0_0_1 p0_0_2 p0_0_3 p0_0_4 p0_0_5 p0_1 p0_2 p0_3 p0_4 p0_5 p0_3).bind fun t12 => cond (mayCat (rdD tab_2 p0_2).size t12.size) (some ((rdD tab_2 p0_2) ++ t12)) none) none
set_option maxRecDepth 100000 in
theorem text_shown_sums_53_ok (K : Nat) (M0 : Nat → Prop) (w0 : World) (p0_0_0 : Int) (p0_0_1 : Int) (p0_0_2 : Int) (p0_0_3 : Int) (p0_0_4 : Int) (p0_0_5 : Int) (p0_1 : Int) (p0_2 : Int) (p0_3 : Int) (p0_4 : Int) (p0_5 : Int) (ho : ∀ b, M0 b → b < w0.heap.size) (hG2 : (gl 2 (tab_2.flatMap en_2)).ok w0 M0) (hG5 : (gl 5 (tab_5.flatMap en_5)).ok w0 M0) (hG12 : (gl 12 (tab_12.flatMap en_12)).ok w0 M0) {r : ByteArray} (h : text_shown_sums_53.f K p0_0_0 p0_0_1 p0_0_2 p0_0_3 p0_0_4 p0_0_5 p0_1 p0_2 p0_3 p0_4 p0_5 = some r) :
  Calls Tryd.prog 53 #[.agg #[.int .i64 p0_0_0, .int .u8 p0_0_1, .int .u8 p0_0_2, .int .u16 p0_0_3, .int .i64 p0_0_4, .int .i64 p0_0_5, .int .i64 p0_1, .int .i64 p0_2, .int .i64 p0_3, .int .i64 p0_4, .int .i64 p0_5]] w0 (text_shown_sums_53.post M0 w0 r) := by
 unfold text_shown_sums_53.f at h
 have h0 : Holds M0 w0 w0 [] := Holds.start ho
 have h0g2 := h0.add (gl 2 (tab_2.flatMap en_2)) rfl ⟨hG2.1, fun hm => hG2.2.1 (hm.elim id (fun hm => absurd hm (by simp [mines, sl, gl]))), hG2.2.2⟩
 have h0g5 := h0g2.add (gl 5 (tab_5.flatMap en_5)) rfl ⟨hG5.1, fun hm => hG5.2.1 (hm.elim id (fun hm => absurd hm (by simp [mines, sl, gl]))), hG5.2.2⟩
 have h0g12 := h0g5.add (gl 12 (tab_12.flatMap en_12)) rfl ⟨hG12.1, fun hm => hG12.2.1 (hm.elim id (fun hm => absurd hm (by simp [mines, sl, gl]))), hG12.2.2⟩
 have h0 : Holds M0 w0 w0 [gl 2 (tab_2.flatMap en_2), gl 5 (tab_5.flatMap en_5), gl 12 (tab_12.flatMap en_12)] := h0g12
 refine calls_of F53 rfl [.agg #[.int .i64 p0_0_0, .int .u8 p0_0_1, .int .u8 p0_0_2, .int .u16 p0_0_3, .int .i64 p0_0_4, .int .i64 p0_0_5, .int .i64 p0_1, .int .i64 p0_2, .int .i64 p0_3, .int .i64 p0_4, .int .i64 p0_5]] (by kernel_rfl) ?_
 refine RunsI.g 1 [.c 1, .c 2] ?_
 refine RunsI.r ?_
 refine RegI.o (OpE.box 1 92 [.int .i64 p0_0_0, .int .u8 p0_0_1, .int .u8 p0_0_2, .int .u16 p0_0_3, .int .i64 p0_0_4, .int .i64 p0_0_5, .int .i64 p0_1, .int .i64 p0_2, .int .i64 p0_3, .int .i64 p0_4, .int .i64 p0_5] h0 (by kernel_rfl) (by kernel_rfl) ?_)
 intro w1 b2 h3 hb4 hn5
 refine RegI.p 1 [(1, .pointer (some ⟨b2, 0, none⟩))] ?_
 refine RegI.d ?_
 refine RunsI.g 1 [.c 3, .c 4] ?_
 refine RunsI.any 10 (by kernel_rfl) (by kernel_rfl) (by kernel_rfl) (Kp ([] : List Nat) (World.drew w1)) ?_
 have h7 := h3.drew
 generalize World.drew w1 = w6 at h7 ⊢
 have hS8 := Kp.refl ([] : List Nat) w6
 refine AnyE.pure 0 3 (.pointer (some ⟨b2, 7, none⟩)) (by kernel_rfl) hS8 (fun _ => by kernel_rfl) ?_
 refine AnyE.loadBox 1 4 3 3 b2 7 (.int .i64 p0_2) [] h7 rfl (by kernel_rfl) hS8 rfl rfl (by kernel_rfl) (by kernel_rfl) ?_
 obtain ⟨hc10, h⟩ := of_cond0 h
 refine AnyE.run 2 5 (.pointer (some ⟨2, 0 + (Int.toNat p0_2) * 1, none⟩)) (by kernel_rfl) hS8 (fun _ hk => run_idxArr (T := 122) (b := 2) (o := 0) (ix := p0_2) (len := 8) (s := 1) (by kernel_rfl) (by kernel_rfl) hc10) ?_
 refine AnyE.loadTab 3 6 0 9 en_2 tab_2 0 1 p0_2 (.string (rdD tab_2 p0_2)) [] (o := 0 + (Int.toNat p0_2) * 1 + 0) h7 rfl (by kernel_rfl) hS8 rfl rfl (fun _ => rfl) (by kernel_rfl) (by omega) hc10 (fun _ => by kernel_rfl) ?_
 refine AnyE.loadBox 4 7 3 92 b2 0 (.agg #[.int .i64 p0_0_0, .int .u8 p0_0_1, .int .u8 p0_0_2, .int .u16 p0_0_3, .int .i64 p0_0_4, .int .i64 p0_0_5, .int .i64 p0_1, .int .i64 p0_2, .int .i64 p0_3, .int .i64 p0_4, .int .i64 p0_5]) [] h7 rfl (by kernel_rfl) hS8 rfl rfl (by kernel_rfl) (by kernel_rfl) ?_
 refine AnyE.pure 5 8 (.pointer (some ⟨b2, 8, none⟩)) (by kernel_rfl) hS8 (fun _ => by kernel_rfl) ?_
 refine AnyE.loadBox 6 9 3 3 b2 8 (.int .i64 p0_3) [] h7 rfl (by kernel_rfl) hS8 rfl rfl (by kernel_rfl) (by kernel_rfl) ?_
 obtain ⟨t12, hg11, h⟩ := of_bind h
 refine AnyE.call 7 10 (.string t12) 91 #[.agg #[.int .i64 p0_0_0, .int .u8 p0_0_1, .int .u8 p0_0_2, .int .u16 p0_0_3, .int .i64 p0_0_4, .int .i64 p0_0_5, .int .i64 p0_1, .int .i64 p0_2, .int .i64 p0_3, .int .i64 p0_4, .int .i64 p0_5], .int .i64 p0_3] (by kernel_rfl) hS8 (fun _ => by kernel_rfl) (fun w hk => text_shown_reg_91_ok K (fun _ => False) w p0_0_0 p0_0_1 p0_0_2 p0_0_3 p0_0_4 p0_0_5 p0_1 p0_2 p0_3 p0_4 p0_5 p0_3 (fun _ hf => hf.elim) ⟨(h7.atI [] rfl hk 1 rfl rfl).1, fun hf => hf.elim, (h7.atI [] rfl hk 1 rfl rfl).2.2⟩ ⟨(h7.atI [] rfl hk 2 rfl rfl).1, fun hf => hf.elim, (h7.atI [] rfl hk 2 rfl rfl).2.2⟩ hg11) ?_
 obtain ⟨hc13, h⟩ := of_cond0 h
 refine AnyE.run 8 11 (.string ((rdD tab_2 p0_2) ++ t12)) (by kernel_rfl) hS8 (fun _ hk => run_cat (a := (rdD tab_2 p0_2)) (b := t12) (by kernel_rfl) hc13) ?_
 refine AnyE.pure 9 2 (.string ((rdD tab_2 p0_2) ++ t12)) (by kernel_rfl) hS8 (fun _ => by kernel_rfl) ?_
 refine AnyE.done (by kernel_rfl) (fun w14 hu15 => ?_)
 have h16 := h7.call hu15
 refine RunsI.l [2] [(2, .string ((rdD tab_2 p0_2) ++ t12))] ?_
 refine RunsI.t (.string ((rdD tab_2 p0_2) ++ t12)) ?_
 obtain rfl := Option.some.inj h
 exact ⟨rfl, h16.below⟩
end
end Go.Proofs.YtilgjfckgkkfmaaDoor.Tex
