/- Functions of the program as plain Lean functions, each with the proof that the call comes to it; written by wip/eng.py. -/
import Derived.Test.YtbcepghanbkncaaGreatDoorEngShort2
import Derived.Test.YtbcepghanbkncaaGreatDoorProg
import Derived.Test.YtbcepghanbkncaaGreatDoorEngLib
import Derived.Test.YtbcepghanbkncaaGreatDoorEngLast
import Derived.Test.YtbcepghanbkncaaGreatDoorEngBld
import Derived.Test.YtbcepghanbkncaaGreatDoorEngMid
import Derived.Test.YtbcepghanbkncaaGreatDoorEngSort
import Derived.Test.YtbcepghanbkncaaGreatDoorShelf
set_option linter.unusedVariables false
set_option linter.unusedSimpArgs false
set_option maxHeartbeats 4000000
namespace Go.Proofs.YtbcepghanbkncaaGreatDoor.LiT
open Go.RowKit Go.Eng
set_option maxRecDepth 100000
noncomputable section
def B7 := bd Tryz.f7
def F7 := fn 7 Tryz.f7 B7 64 Tryz.func7
def B8 := bd Tryz.f8
def F8 := fn 8 Tryz.f8 B8 87 Tryz.func8
def B9 := bd Tryz.f9
def F9 := fn 9 Tryz.f9 B9 102 Tryz.func9
def B10 := bd Tryz.f10
def F10 := fn 10 Tryz.f10 B10 35 Tryz.func10
def B11 := bd Tryz.f11
def F11 := fn 11 Tryz.f11 B11 26 Tryz.func11
def B12 := bd Tryz.f12
def F12 := fn 12 Tryz.f12 B12 86 Tryz.func12
def B13 := bd Tryz.f13
def F13 := fn 13 Tryz.f13 B13 16 Tryz.func13
def B14 := bd Tryz.f14
def F14 := fn 14 Tryz.f14 B14 40 Tryz.func14
def B15 := bd Tryz.f15
def F15 := fn 15 Tryz.f15 B15 48 Tryz.func15
def B16 := bd Tryz.f16
def F16 := fn 16 Tryz.f16 B16 26 Tryz.func16
def B20 := bd Tryz.f20
def F20 := fn 20 Tryz.f20 B20 55 Tryz.func20
def B22 := bd Tryz.f22
def F22 := fn 22 Tryz.f22 B22 28 Tryz.func22
def B23 := bd Tryz.f23
def F23 := fn 23 Tryz.f23 B23 33 Tryz.func23
def B24 := bd Tryz.f24
def F24 := fn 24 Tryz.f24 B24 24 Tryz.func24
def B25 := bd Tryz.f25
def F25 := fn 25 Tryz.f25 B25 6 Tryz.func25
def B26 := bd Tryz.f26
def F26 := fn 26 Tryz.f26 B26 5 Tryz.func26
def B27 := bd Tryz.f27
def F27 := fn 27 Tryz.f27 B27 23 Tryz.func27
def B28 := bd Tryz.f28
def F28 := fn 28 Tryz.f28 B28 10 Tryz.func28
def B29 := bd Tryz.f29
def F29 := fn 29 Tryz.f29 B29 8 Tryz.func29
def B30 := bd Tryz.f30
def F30 := fn 30 Tryz.f30 B30 9 Tryz.func30
def B31 := bd Tryz.f31
def F31 := fn 31 Tryz.f31 B31 4 Tryz.func31
def B32 := bd Tryz.f32
def F32 := fn 32 Tryz.f32 B32 6 Tryz.func32
def B33 := bd Tryz.f33
def F33 := fn 33 Tryz.f33 B33 28 Tryz.func33
def B34 := bd Tryz.f34
def F34 := fn 34 Tryz.f34 B34 10 Tryz.func34
def B35 := bd Tryz.f35
def F35 := fn 35 Tryz.f35 B35 19 Tryz.func35
def B37 := bd Tryz.f37
def F37 := fn 37 Tryz.f37 B37 31 Tryz.func37
def B38 := bd Tryz.f38
def F38 := fn 38 Tryz.f38 B38 9 Tryz.func38
def B39 := bd Tryz.f39
def F39 := fn 39 Tryz.f39 B39 25 Tryz.func39
def B40 := bd Tryz.f40
def F40 := fn 40 Tryz.f40 B40 6 Tryz.func40
def B44 := bd Tryz.f44
def F44 := fn 44 Tryz.f44 B44 36 Tryz.func44
def B46 := bd Tryz.f46
def F46 := fn 46 Tryz.f46 B46 53 Tryz.func46
def B47 := bd Tryz.f47
def F47 := fn 47 Tryz.f47 B47 26 Tryz.func47
def B48 := bd Tryz.f48
def F48 := fn 48 Tryz.f48 B48 20 Tryz.func48
def B49 := bd Tryz.f49
def F49 := fn 49 Tryz.f49 B49 29 Tryz.func49
def B50 := bd Tryz.f50
def F50 := fn 50 Tryz.f50 B50 5 Tryz.func50
def B51 := bd Tryz.f51
def F51 := fn 51 Tryz.f51 B51 11 Tryz.func51
def B52 := bd Tryz.f52
def F52 := fn 52 Tryz.f52 B52 14 Tryz.func52
def B53 := bd Tryz.f53
def F53 := fn 53 Tryz.f53 B53 129 Tryz.func53
def B54 := bd Tryz.f54
def F54 := fn 54 Tryz.f54 B54 19 Tryz.func54
def B55 := bd Tryz.f55
def F55 := fn 55 Tryz.f55 B55 8 Tryz.func55
def B56 := bd Tryz.f56
def F56 := fn 56 Tryz.f56 B56 14 Tryz.func56
def B62 := bd Tryz.f62
def F62 := fn 62 Tryz.f62 B62 8 Tryz.func62
def B63 := bd Tryz.f63
def F63 := fn 63 Tryz.f63 B63 37 Tryz.func63
def B64 := bd Tryz.f64
def F64 := fn 64 Tryz.f64 B64 21 Tryz.func64
def B66 := bd Tryz.f66
def F66 := fn 66 Tryz.f66 B66 10 Tryz.func66
def B67 := bd Tryz.f67
def F67 := fn 67 Tryz.f67 B67 17 Tryz.func67
def B75 := bd Tryz.f75
def F75 := fn 75 Tryz.f75 B75 27 Tryz.func75
def B77 := bd Tryz.f77
def F77 := fn 77 Tryz.f77 B77 98 Tryz.func77
def B78 := bd Tryz.f78
def F78 := fn 78 Tryz.f78 B78 13 Tryz.func78
def B79 := bd Tryz.f79
def F79 := fn 79 Tryz.f79 B79 134 Tryz.func79
def B80 := bd Tryz.f80
def F80 := fn 80 Tryz.f80 B80 8 Tryz.func80
def B81 := bd Tryz.f81
def F81 := fn 81 Tryz.f81 B81 13 Tryz.func81
def B82 := bd Tryz.f82
def F82 := fn 82 Tryz.f82 B82 31 Tryz.func82
def B83 := bd Tryz.f83
def F83 := fn 83 Tryz.f83 B83 49 Tryz.func83
def B84 := bd Tryz.f84
def F84 := fn 84 Tryz.f84 B84 45 Tryz.func84
def B86 := bd Tryz.f86
def F86 := fn 86 Tryz.f86 B86 16 Tryz.func86
def B92 := bd Tryz.f92
def F92 := fn 92 Tryz.f92 B92 54 Tryz.func92
def B93 := bd Tryz.f93
def F93 := fn 93 Tryz.f93 B93 21 Tryz.func93
def B94 := bd Tryz.f94
def F94 := fn 94 Tryz.f94 B94 96 Tryz.func94
def B95 := bd Tryz.f95
def F95 := fn 95 Tryz.f95 B95 22 Tryz.func95
def B96 := bd Tryz.f96
def F96 := fn 96 Tryz.f96 B96 12 Tryz.func96
def B97 := bd Tryz.f97
def F97 := fn 97 Tryz.f97 B97 107 Tryz.func97
def B98 := bd Tryz.f98
def F98 := fn 98 Tryz.f98 B98 120 Tryz.func98
def B99 := bd Tryz.f99
def F99 := fn 99 Tryz.f99 B99 54 Tryz.func99
def B100 := bd Tryz.f100
def F100 := fn 100 Tryz.f100 B100 13 Tryz.func100
def B101 := bd Tryz.f101
def F101 := fn 101 Tryz.f101 B101 19 Tryz.func101
def B102 := bd Tryz.f102
def F102 := fn 102 Tryz.f102 B102 25 Tryz.func102
def B103 := bd Tryz.f103
def F103 := fn 103 Tryz.f103 B103 30 Tryz.func103
def B119 := bd Tryz.f119
def F119 := fn 119 Tryz.f119 B119 4 Tryz.func119
def B120 := bd Tryz.f120
def F120 := fn 120 Tryz.f120 B120 24 Tryz.func120
def B121 := bd Tryz.f121
def F121 := fn 121 Tryz.f121 B121 31 Tryz.func121
def B122 := bd Tryz.f122
def F122 := fn 122 Tryz.f122 B122 63 Tryz.func122
def B123 := bd Tryz.f123
def F123 := fn 123 Tryz.f123 B123 20 Tryz.func123
def B124 := bd Tryz.f124
def F124 := fn 124 Tryz.f124 B124 44 Tryz.func124
def B125 := bd Tryz.f125
def F125 := fn 125 Tryz.f125 B125 49 Tryz.func125
def B126 := bd Tryz.f126
def F126 := fn 126 Tryz.f126 B126 56 Tryz.func126
def B127 := bd Tryz.f127
def F127 := fn 127 Tryz.f127 B127 65 Tryz.func127
def B128 := bd Tryz.f128
def F128 := fn 128 Tryz.f128 B128 57 Tryz.func128
def B129 := bd Tryz.f129
def F129 := fn 129 Tryz.f129 B129 32 Tryz.func129
def B130 := bd Tryz.f130
def F130 := fn 130 Tryz.f130 B130 133 Tryz.func130
def B131 := bd Tryz.f131
def F131 := fn 131 Tryz.f131 B131 17 Tryz.func131
def B132 := bd Tryz.f132
def F132 := fn 132 Tryz.f132 B132 84 Tryz.func132
def B133 := bd Tryz.f133
def F133 := fn 133 Tryz.f133 B133 168 Tryz.func133
def B134 := bd Tryz.f134
def F134 := fn 134 Tryz.f134 B134 19 Tryz.func134
def B135 := bd Tryz.f135
def F135 := fn 135 Tryz.f135 B135 25 Tryz.func135
def B136 := bd Tryz.f136
def F136 := fn 136 Tryz.f136 B136 37 Tryz.func136
def B137 := bd Tryz.f137
def F137 := fn 137 Tryz.f137 B137 57 Tryz.func137
def B139 := bd Tryz.f139
def F139 := fn 139 Tryz.f139 B139 21 Tryz.func139
def B141 := bd Tryz.f141
def F141 := fn 141 Tryz.f141 B141 15 Tryz.func141
def B144 := bd Tryz.f144
def F144 := fn 144 Tryz.f144 B144 102 Tryz.func144
def B145 := bd Tryz.f145
def F145 := fn 145 Tryz.f145 B145 11 Tryz.func145
def B146 := bd Tryz.f146
def F146 := fn 146 Tryz.f146 B146 5 Tryz.func146
def B147 := bd Tryz.f147
def F147 := fn 147 Tryz.f147 B147 29 Tryz.func147
def B148 := bd Tryz.f148
def F148 := fn 148 Tryz.f148 B148 8 Tryz.func148
def B149 := bd Tryz.f149
def F149 := fn 149 Tryz.f149 B149 29 Tryz.func149
def B150 := bd Tryz.f150
def F150 := fn 150 Tryz.f150 B150 47 Tryz.func150
def B151 := bd Tryz.f151
def F151 := fn 151 Tryz.f151 B151 9 Tryz.func151
def B152 := bd Tryz.f152
def F152 := fn 152 Tryz.f152 B152 13 Tryz.func152
def B154 := bd Tryz.f154
def F154 := fn 154 Tryz.f154 B154 117 Tryz.func154
def B159 := bd Tryz.f159
def F159 := fn 159 Tryz.f159 B159 13 Tryz.func159
def B160 := bd Tryz.f160
def F160 := fn 160 Tryz.f160 B160 11 Tryz.func160
def B161 := bd Tryz.f161
def F161 := fn 161 Tryz.f161 B161 63 Tryz.func161
def B162 := bd Tryz.f162
def F162 := fn 162 Tryz.f162 B162 76 Tryz.func162
def B163 := bd Tryz.f163
def F163 := fn 163 Tryz.f163 B163 7 Tryz.func163
def B164 := bd Tryz.f164
def F164 := fn 164 Tryz.f164 B164 33 Tryz.func164
def B166 := bd Tryz.f166
def F166 := fn 166 Tryz.f166 B166 36 Tryz.func166
def B167 := bd Tryz.f167
def F167 := fn 167 Tryz.f167 B167 6 Tryz.func167
def B168 := bd Tryz.f168
def F168 := fn 168 Tryz.f168 B168 6 Tryz.func168
def B169 := bd Tryz.f169
def F169 := fn 169 Tryz.f169 B169 4 Tryz.func169
def B170 := bd Tryz.f170
def F170 := fn 170 Tryz.f170 B170 8 Tryz.func170
def B171 := bd Tryz.f171
def F171 := fn 171 Tryz.f171 B171 8 Tryz.func171
def B172 := bd Tryz.f172
def F172 := fn 172 Tryz.f172 B172 10 Tryz.func172
def B173 := bd Tryz.f173
def F173 := fn 173 Tryz.f173 B173 13 Tryz.func173
def B174 := bd Tryz.f174
def F174 := fn 174 Tryz.f174 B174 9 Tryz.func174
def B177 := bd Tryz.f177
def F177 := fn 177 Tryz.f177 B177 28 Tryz.func177
def B179 := bd Tryz.f179
def F179 := fn 179 Tryz.f179 B179 14 Tryz.func179
end
def tab_1 : List ByteArray := [(⟨#[110, 122]⟩ : ByteArray), (⟨#[122]⟩ : ByteArray), (⟨#[110, 99]⟩ : ByteArray), (⟨#[99]⟩ : ByteArray), (⟨#[112, 111]⟩ : ByteArray), (⟨#[112, 101]⟩ : ByteArray), (⟨#[112]⟩ : ByteArray), (⟨#[109]⟩ : ByteArray)]
def en_1 : ByteArray → List Value := fun x => [.string x]
abbrev G1 := gl 1 (tab_1.flatMap en_1)
def tab_2 : List ByteArray := [(⟨#[114, 108, 99, 97]⟩ : ByteArray), (⟨#[114, 114, 99, 97]⟩ : ByteArray), (⟨#[114, 108, 97]⟩ : ByteArray), (⟨#[114, 114, 97]⟩ : ByteArray), (⟨#[100, 97, 97]⟩ : ByteArray), (⟨#[99, 112, 108]⟩ : ByteArray), (⟨#[115, 99, 102]⟩ : ByteArray), (⟨#[99, 99, 102]⟩ : ByteArray)]
def en_2 : ByteArray → List Value := fun x => [.string x]
abbrev G2 := gl 2 (tab_2.flatMap en_2)
def tab_3 : List ByteArray := [(⟨#[97, 100, 100, 32, 97, 44]⟩ : ByteArray), (⟨#[97, 100, 99, 32, 97, 44]⟩ : ByteArray), (⟨#[115, 117, 98, 32]⟩ : ByteArray), (⟨#[115, 98, 99, 32, 97, 44]⟩ : ByteArray), (⟨#[97, 110, 100, 32]⟩ : ByteArray), (⟨#[120, 111, 114, 32]⟩ : ByteArray), (⟨#[111, 114, 32]⟩ : ByteArray), (⟨#[99, 112, 32]⟩ : ByteArray)]
def en_3 : ByteArray → List Value := fun x => [.string x]
abbrev G3 := gl 3 (tab_3.flatMap en_3)
def tab_4 : List ByteArray := [(⟨#[105]⟩ : ByteArray), (⟨#[100]⟩ : ByteArray), (⟨#[105, 114]⟩ : ByteArray), (⟨#[100, 114]⟩ : ByteArray)]
def en_4 : ByteArray → List Value := fun x => [.string x]
abbrev G4 := gl 4 (tab_4.flatMap en_4)
def tab_5 : List ByteArray := [(⟨#[108, 100]⟩ : ByteArray), (⟨#[99, 112]⟩ : ByteArray), (⟨#[105, 110]⟩ : ByteArray), (⟨#[111, 116]⟩ : ByteArray)]
def en_5 : ByteArray → List Value := fun x => [.string x]
abbrev G5 := gl 5 (tab_5.flatMap en_5)
def tab_6 : List ByteArray := [(⟨#[98]⟩ : ByteArray), (⟨#[99]⟩ : ByteArray), (⟨#[100]⟩ : ByteArray), (⟨#[101]⟩ : ByteArray), (⟨#[104]⟩ : ByteArray), (⟨#[108]⟩ : ByteArray), (⟨#[40, 104, 108, 41]⟩ : ByteArray), (⟨#[97]⟩ : ByteArray)]
def en_6 : ByteArray → List Value := fun x => [.string x]
abbrev G6 := gl 6 (tab_6.flatMap en_6)
def tab_7 : List ByteArray := [(⟨#[98, 99]⟩ : ByteArray), (⟨#[100, 101]⟩ : ByteArray), (⟨#[104, 108]⟩ : ByteArray), (⟨#[115, 112]⟩ : ByteArray), (⟨#[97, 102]⟩ : ByteArray)]
def en_7 : ByteArray → List Value := fun x => [.string x]
abbrev G7 := gl 7 (tab_7.flatMap en_7)
def tab_8 : List ByteArray := [(⟨#[105, 109, 32, 48]⟩ : ByteArray), (⟨#[105, 109, 32, 48]⟩ : ByteArray), (⟨#[105, 109, 32, 49]⟩ : ByteArray), (⟨#[105, 109, 32, 50]⟩ : ByteArray)]
def en_8 : ByteArray → List Value := fun x => [.string x]
abbrev G8 := gl 8 (tab_8.flatMap en_8)
def tab_9 : List ByteArray := [(⟨#[108, 100, 32, 105, 44, 97]⟩ : ByteArray), (⟨#[108, 100, 32, 114, 44, 97]⟩ : ByteArray), (⟨#[108, 100, 32, 97, 44, 105]⟩ : ByteArray), (⟨#[108, 100, 32, 97, 44, 114]⟩ : ByteArray), (⟨#[114, 114, 100]⟩ : ByteArray), (⟨#[114, 108, 100]⟩ : ByteArray), (⟨#[110, 111, 112, 42]⟩ : ByteArray), (⟨#[110, 111, 112, 42]⟩ : ByteArray)]
def en_9 : ByteArray → List Value := fun x => [.string x]
abbrev G9 := gl 9 (tab_9.flatMap en_9)
def tab_10 : List ByteArray := [(⟨#[114, 108, 99, 32]⟩ : ByteArray), (⟨#[114, 114, 99, 32]⟩ : ByteArray), (⟨#[114, 108, 32]⟩ : ByteArray), (⟨#[114, 114, 32]⟩ : ByteArray), (⟨#[115, 108, 97, 32]⟩ : ByteArray), (⟨#[115, 114, 97, 32]⟩ : ByteArray), (⟨#[115, 108, 108, 32]⟩ : ByteArray), (⟨#[115, 114, 108, 32]⟩ : ByteArray)]
def en_10 : ByteArray → List Value := fun x => [.string x]
abbrev G10 := gl 10 (tab_10.flatMap en_10)
def tab_11 : List ByteArray := [(⟨#[]⟩ : ByteArray), (⟨#[98, 105, 116, 32]⟩ : ByteArray), (⟨#[114, 101, 115, 32]⟩ : ByteArray), (⟨#[115, 101, 116, 32]⟩ : ByteArray)]
def en_11 : ByteArray → List Value := fun x => [.string x]
abbrev G11 := gl 11 (tab_11.flatMap en_11)
def tab_12 : List Int := [1, 10, 100, 1000, 10000, 100000, 1000000, 10000000, 100000000, 1000000000, 10000000000, 100000000000, 1000000000000, 10000000000000, 100000000000000, 1000000000000000, 10000000000000000, 100000000000000000, 1000000000000000000, 10000000000000000000]
def en_12 : Int → List Value := fun x => [.int .u64 x]
abbrev G12 := gl 12 (tab_12.flatMap en_12)
def tab_13 : List Int := (List.range 256).map fun c => ((Go.Lib.firstT c : Nat) : Int)
def en_13 : Int → List Value := fun x => [.int .u8 x]
abbrev G13 := gl 13 (tab_13.flatMap en_13)
def tab_14 : List (Int × Int) := [(128, 191), (160, 191), (128, 159), (144, 191), (128, 143), (0, 0), (0, 0), (0, 0), (0, 0), (0, 0), (0, 0), (0, 0), (0, 0), (0, 0), (0, 0), (0, 0)]
def en_14 : (Int × Int) → List Value := fun x => [.int .u8 x.1, .int .u8 x.2]
abbrev G14 := gl 14 (tab_14.flatMap en_14)
def tab_15 : List Int := [0, 1, 28, 2, 29, 14, 24, 3, 30, 22, 20, 15, 25, 17, 4, 8, 31, 27, 13, 23, 21, 19, 16, 7, 26, 12, 18, 6, 11, 5, 10, 9]
def en_15 : Int → List Value := fun x => [.int .u8 x]
abbrev G15 := gl 15 (tab_15.flatMap en_15)
def tab_16 : List Int := [0, 1, 56, 2, 57, 49, 28, 3, 61, 58, 42, 50, 38, 29, 17, 4, 62, 47, 59, 36, 45, 43, 51, 22, 53, 39, 33, 30, 24, 18, 12, 5, 63, 55, 48, 27, 60, 41, 37, 16, 46, 35, 44, 21, 52, 32, 23, 11, 54, 26, 40, 15, 34, 20, 31, 10, 25, 14, 19, 9, 13, 8, 7, 6]
def en_16 : Int → List Value := fun x => [.int .u8 x]
abbrev G16 := gl 16 (tab_16.flatMap en_16)

section
def decode_Fields_24.post (M0 : Nat → Prop) (w0 : World) (r : Int × Int × Int × Int × Int) : Ending → World → Prop := fun e w => e = .returned (.tuple #[.int .i64 r.1, .int .i64 r.2.1, .int .i64 r.2.2.1, .int .i64 r.2.2.2.1, .int .i64 r.2.2.2.2]) ∧ Below w0.heap.size w0 w
def decode_Fields_24.f (K : Nat) (p0 : Int) : Option (Int × Int × Int × Int × Int) := some ((IntKind.wrap .i64 (Int.fdiv p0 (2 ^ 6))), (IntKind.wrap .i64 (band .u8 (Int.fdiv p0 (2 ^ 3)) 7)), (IntKind.wrap .i64 (band .u8 p0 7)), (Int.fdiv (IntKind.wrap .i64 (band .u8 (Int.fdiv p0 (2 ^ 3)) 7)) (2 ^ 1)), (band .i64 (IntKind.wrap .i64 (band .u8 (Int.fdiv p0 (2 ^ 3)) 7)) 1))
theorem decode_Fields_24_ok (K : Nat) (M0 : Nat → Prop) (w0 : World) (p0 : Int) (ho : ∀ b, M0 b → b < w0.heap.size) {r : Int × Int × Int × Int × Int} (h : decode_Fields_24.f K p0 = some r) :
  Calls Tryz.prog 24 #[iB p0] w0 (decode_Fields_24.post M0 w0 r) := by
 unfold decode_Fields_24.f at h
 have h0 : Holds M0 w0 w0 [] := Holds.start ho
 refine calls_of F24 rfl [iB p0] (by kernel_rfl) (Xq 1 1 [.c 2] 5 [(0, iB p0)] (Yq 1 3 [.c 4] 13 [(2, iA (wA (Int.fdiv p0 (2 ^ 6)))), (3, iA (wA (band .u8 (Int.fdiv p0 (2 ^ 3)) 7))), (4, iA (wA (band .u8 p0 7)))] (Zy 1 5 [.c 6] 12 [2, 3, 4, 5, 6] [(5, iA (Int.fdiv (wA (band .u8 (Int.fdiv p0 (2 ^ 3)) 7)) (2 ^ 1))), (6, iA (band .i64 (wA (band .u8 (Int.fdiv p0 (2 ^ 3)) 7)) 1))] (Ye ?_))))
 obtain rfl := sI h
 exact Xt (.tuple #[iA (wA (Int.fdiv p0 (2 ^ 6))), iA (wA (band .u8 (Int.fdiv p0 (2 ^ 3)) 7)), iA (wA (band .u8 p0 7)), iA (Int.fdiv (wA (band .u8 (Int.fdiv p0 (2 ^ 3)) 7)) (2 ^ 1)), iA (band .i64 (wA (band .u8 (Int.fdiv p0 (2 ^ 3)) 7)) 1)]) ⟨rfl, h0.below⟩
end

section
abbrev bits_Signed_25.post := pI
def bits_Signed_25.f (K : Nat) (p0 : Int) : Option Int := some (IntKind.wrap .i64 (IntKind.wrap .i8 p0))
theorem bits_Signed_25_ok (K : Nat) (M0 : Nat → Prop) (w0 : World) (p0 : Int) (ho : ∀ b, M0 b → b < w0.heap.size) {r : Int} (h : bits_Signed_25.f K p0 = some r) :
  Calls Tryz.prog 25 #[iB p0] w0 (bits_Signed_25.post M0 w0 r) := by
 unfold bits_Signed_25.f at h
 have h0 : Holds M0 w0 w0 [] := Holds.start ho
 refine calls_of F25 rfl [iB p0] (by kernel_rfl) (Xq 1 1 [.c 2] 1 [(0, iB p0)] (Yq 1 3 [.c 4] 4 [(2, iA (wA (IntKind.wrap .i8 p0)))] (Ye ?_)))
 obtain rfl := sI h
 exact Xt (iA (wA (IntKind.wrap .i8 p0))) ⟨rfl, h0.below⟩
end

section
def bits_Lo_26.post (M0 : Nat → Prop) (w0 : World) (r : Int) : Ending → World → Prop := fun e w => e = .returned (.int .u8 r) ∧ Below w0.heap.size w0 w
def bits_Lo_26.f (K : Nat) (p0 : Int) : Option Int := some (IntKind.wrap .u8 p0)
theorem bits_Lo_26_ok (K : Nat) (M0 : Nat → Prop) (w0 : World) (p0 : Int) (ho : ∀ b, M0 b → b < w0.heap.size) {r : Int} (h : bits_Lo_26.f K p0 = some r) :
  Calls Tryz.prog 26 #[iC p0] w0 (bits_Lo_26.post M0 w0 r) := by
 unfold bits_Lo_26.f at h
 have h0 : Holds M0 w0 w0 [] := Holds.start ho
 refine calls_of F26 rfl [iC p0] (by kernel_rfl) (Xq 1 1 [.c 2] 1 [(0, iC p0)] (Yq 1 3 [.c 4] 3 [(2, iB (wB p0))] (Ye ?_)))
 obtain rfl := sI h
 exact Xt (iB (wB p0)) ⟨rfl, h0.below⟩
end

section
def listing_Target_8.post (M0 : Nat → Prop) (w0 : World) (r : Int × Bool) : Ending → World → Prop := fun e w => e = .returned (.tuple #[.int .u16 r.1, .bool r.2]) ∧ Below w0.heap.size w0 w
def listing_Target_8.f (K : Nat) (p0_0 : Int) (p0_1 : Int) (p0_2 : Int) (p0_3 : Int) (p0_4 : Int) (p0_5 : Int) (p1 : Int) : Option (Int × Bool) := Let (fun (t8 : Bool) => cond t8 (some (0, false)) ((decode_Fields_24.f K p0_1).bind fun yt19 => Let (fun (t26 : Bool) => cond t26 ((bits_Lo_26.f K p0_3).bind fun t38 => (bits_Signed_25.f K t38).bind fun t40 => some ((IntKind.wrap .u16 ((IntKind.wrap .u16 (p1 + (IntKind.wrap .u16 p0_4))) + (IntKind.wrap .u16 t40))), true)) (cond (yt19.1 != 3) (some (0, false)) (Let (fun (t63 : Bool) => cond t63 (some (p0_3, true)) (cond (yt19.2.2.1 == 7) (some ((IntKind.wrap .u16 (IntKind.wrap .i64 (8 * yt19.2.1))), true)) (some (0, false)))) (fun j66 => cond (yt19.2.2.1 == 2) (j66 true) (cond (yt19.2.2.1 == 4) (j66 true) (Let (fun (t48 : Bool) => cond t48 (j66 true) (Let (fun (t57 : Bool) => j66 t57) (fun j60 => cond (yt19.2.2.1 == 5) (cond (yt19.2.2.2.2 == 1) (j60 (yt19.2.2.2.1 == 0)) (j60 false)) (j60 false)))) (fun j51 => cond (yt19.2.2.1 == 3) (j51 (yt19.2.1 == 0)) (j51 false)))))))) (fun j29 => cond (yt19.1 == 0) (cond (yt19.2.2.1 == 0) (j29 (decide (yt19.2.1 > 1))) (j29 false)) (j29 false)))) (fun j11 => cond (p0_0 != 0) (cond (p0_0 != 3) (j11 (p0_0 != 4)) (j11 false)) (j11 false))
theorem listing_Target_8_ok (K : Nat) (M0 : Nat → Prop) (w0 : World) (a0 : Int) (a1 : Int) (a2 : Int) (a3 : Int) (a4 : Int) (a5 : Int) (p1 : Int) (ho : ∀ b, M0 b → b < w0.heap.size) {r : Int × Bool} (h : listing_Target_8.f K a0 a1 a2 a3 a4 a5 p1 = some r) :
  Calls Tryz.prog 8 #[.agg #[iA a0, iB a1, iB a2, iC a3, iA a4, iA a5], iC p1] w0 (listing_Target_8.post M0 w0 r) := by
 unfold listing_Target_8.f at h
 have h0 : Holds M0 w0 w0 [] := Holds.start ho
 refine calls_of F8 rfl [.agg #[iA a0, iB a1, iB a2, iC a3, iA a4, iA a5], iC p1] (by kernel_rfl) (Xg 1 [.c 1, .c 2] (Xr (Yx 2 25 [iA a0, iB a1, iB a2, iC a3, iA a4, iA a5] h0 ?_)))
 intro w1 b2 h3 hb4 hn5
 refine Yp 2 [(1, iC p1), (2, pt b2)] (Zy 2 4 [.c 5, .c 10] 1 [1, 2, 11] [(11, pt b2)] (Ya 12 0 3 b2 0 (iA a0) h3 rfl (Zp 2 [1, 2, 14] [(14, tB (a0 != 0))] ?_)))
 obtain ⟨j11, hJ12, h⟩ := of_let h
 have hj13 : ∀ (t8 : Bool) (w10 : World), j11 t8 = some r → Holds M0 w0 w10 [box b2 25 [iA a0, iB a1, iB a2, iC a3, iA a4, iA a5]] → RegI F8 4 [.c 5, .c 10] 13 [(1, iC p1), (2, pt b2), (23, tB t8)] w10 (listing_Target_8.post M0 w0 r) := by
  intro t8 w10 h h9
  rw [hJ12] at h
  clear hJ12
  dsimp only at h
  refine Ye (Vc 23 6 9 h (fun hc14 h => ?_) fun hc14 h => ?_)
  ·refine Xd 1 7 [.c 8, .c 10] 2 [(4, iC 0), (5, tB false)] ?_
   obtain rfl := sI h
   exact Xt (.tuple #[iC 0, tB false]) ⟨rfl, h9.below⟩
  ·refine Xg 1 [.c 10] (Xq 1 11 [.c 12] 1 [(1, iC p1), (2, pt b2), (25, pu b2 1)] (Ya 26 0 5 b2 1 (iB a1) h9 rfl ?_))
   obtain ⟨⟨t19, t20, t21, t22, t23⟩, hg18, h⟩ := of_bind h
   dsimp only at h
   refine Yc 27 24 #[iB a1] ((decode_Fields_24_ok K _ w10  a1 h9.old' hg18).mono ?_)
   rintro _ w15 ⟨rfl, hb16⟩
   refine ⟨_, rfl, ?_⟩
   have h17 := h9.call hb16
   refine Zp 11 [1, 2, 6, 7, 8, 9, 10] [(6, iA t19), (7, iA t20), (8, iA t21), (9, iA t22), (10, iA t23)] (Zy 3 15 [.c 16, .blk 0, .c 49] 3 [1, 2, 6, 7, 8, 9, 10, 36] [(36, tB (t19 == 0))] ?_)
   obtain ⟨j29, hJ30, h⟩ := of_let h
   have hj31 : ∀ (t26 : Bool) (w28 : World), j29 t26 = some r → Holds M0 w0 w28 [box b2 25 [iA a0, iB a1, iB a2, iC a3, iA a4, iA a5]] → RegI F8 15 [.c 16, .blk 0, .c 49] 11 [(1, iC p1), (2, pt b2), (6, iA t19), (7, iA t20), (8, iA t21), (9, iA t22), (10, iA t23), (33, tB t26)] w28 (listing_Target_8.post M0 w0 r) := by
    intro t26 w28 h h27
    rw [hJ30] at h
    clear hJ30
    dsimp only at h
    refine Ye (Vc 33 17 20 h (fun hc32 h => ?_) fun hc32 h => ?_)
    ·refine Xg 1 [.c 18, .c 19, .blk 0, .c 49] (RunsI.any 13 (by kernel_rfl) (by kernel_rfl) (by kernel_rfl) (Kp ([] : List Nat) (World.drew w28)) ?_)
     have h34 := h27.drew
     generalize World.drew w28 = w33 at h34 ⊢
     have hS35 := Kp.refl ([] : List Nat) w33
     refine Wu 0 44 (iC p1) hS35 (Wu 1 45 (pu b2 4) hS35 (Wa 2 46 0 3 b2 4 (iA a4) [] h34 rfl hS35 rfl (Wu 3 47 (iC (wC a4)) hS35 (Wu 4 48 (iC (wC (p1 + (wC a4)))) hS35 (Wu 5 49 (pu b2 3) hS35 (Wa 6 50 0 23 b2 3 (iC a3) [] h34 rfl hS35 rfl ?_))))))
     obtain ⟨t38, hg37, h⟩ := of_bind h
     refine Wc 7 51 (iB t38) 26 #[iC a3] hS35 (fun w hk => bits_Lo_26_ok K (fun _ => False) w a3 nF hg37) ?_
     obtain ⟨t40, hg39, h⟩ := of_bind h
     refine Wc 8 52 (iA t40) 25 #[iB t38] hS35 (fun w hk => bits_Signed_25_ok K (fun _ => False) w t38 nF hg39) (Wu 9 53 (iC (wC t40)) hS35 (Wu 10 54 (iC (wC ((wC (p1 + (wC a4))) + (wC t40)))) hS35 (Wu 11 4 (iC (wC ((wC (p1 + (wC a4))) + (wC t40)))) hS35 (Wu 12 5 (tB true) hS35 (AnyE.done (by kernel_rfl) (fun w41 hu42 => ?_))))))
     have h43 := h34.call hu42
     refine Vl [(4, iC (wC ((wC (p1 + (wC a4))) + (wC t40)))), (5, tB true)] ?_
     obtain rfl := sI h
     exact Xt (.tuple #[iC (wC ((wC (p1 + (wC a4))) + (wC t40))), tB true]) ⟨rfl, h43.below⟩
    ·refine Xd 1 21 [.c 22, .blk 0, .c 49] 3 [(2, pt b2), (7, iA t20), (8, iA t21), (9, iA t22), (10, iA t23), (55, tB (t19 != 3))] (Vc 55 23 24 h (fun hc44 h => ?_) fun hc44 h => ?_)
     ·refine Xg 1 [.blk 0, .c 49] (Xd 2 50 [.c 51] 2 [(4, iC 0), (5, tB false)] ?_)
      obtain rfl := sI h
      exact Xt (.tuple #[iC 0, tB false]) ⟨rfl, h27.below⟩
     ·refine Xd 2 26 [.c 27, .c 38, .blk 0, .c 49] 3 [(2, pt b2), (7, iA t20), (8, iA t21), (9, iA t22), (10, iA t23), (58, tB (t21 == 2))] ?_
      obtain ⟨j66, hJ67, h⟩ := of_let h
      have hj68 : ∀ (t63 : Bool) (w65 : World), j66 t63 = some r → Holds M0 w0 w65 [box b2 25 [iA a0, iB a1, iB a2, iC a3, iA a4, iA a5]] → RunsI F8 [.c 38, .blk 0, .c 49] [(2, pt b2), (7, iA t20), (8, iA t21), (58, tB t63)] w65 (listing_Target_8.post M0 w0 r) := by
       intro t63 w65 h h64
       rw [hJ67] at h
       clear hJ67
       dsimp only at h
       refine Vc 58 39 42 h (fun hc69 h => ?_) fun hc69 h => ?_
       ·refine Xq 1 40 [.c 41, .blk 0, .c 49] 1 [(79, pu b2 3)] (Ya 80 0 23 b2 3 (iC a3) h64 rfl (Yd 2 [(4, iC a3), (5, tB true)] ?_))
        obtain rfl := sI h
        exact Xt (.tuple #[iC a3, tB true]) ⟨rfl, h64.below⟩
       ·refine Xd 1 43 [.c 44, .blk 0, .c 49] 3 [(7, iA t20), (81, tB (t21 == 7))] (Vc 81 45 48 h (fun hc70 h => ?_) fun hc70 h => ?_)
        ·refine Xd 1 46 [.c 47, .blk 0, .c 49] 5 [(4, iC (wC (wA (8 * t20)))), (5, tB true)] ?_
         obtain rfl := sI h
         exact Xt (.tuple #[iC (wC (wA (8 * t20))), tB true]) ⟨rfl, h64.below⟩
        ·refine Xg 1 [.blk 0, .c 49] (Xd 2 50 [.c 51] 2 [(4, iC 0), (5, tB false)] ?_)
         obtain rfl := sI h
         exact Xt (.tuple #[iC 0, tB false]) ⟨rfl, h64.below⟩
      clear hJ67
      refine Vc 58 28 29 h (fun hc45 h => ?_) fun hc45 h => ?_
      ·refine Xg 1 [.c 38, .blk 0, .c 49] (Vl [(2, pt b2), (7, iA t20), (8, iA t21), (58, tB true)] ?_)
       exact hj68 true w28 h (h27.pk [0])
      ·refine Xd 1 30 [.c 31, .c 38, .blk 0, .c 49] 3 [(2, pt b2), (7, iA t20), (8, iA t21), (9, iA t22), (10, iA t23), (58, tB (t21 == 4))] (Vc 58 32 33 h (fun hc46 h => ?_) fun hc46 h => ?_)
       ·refine Xg 1 [.c 38, .blk 0, .c 49] (Vl [(2, pt b2), (7, iA t20), (8, iA t21), (58, tB true)] ?_)
        exact hj68 true w28 h (h27.pk [0])
       ·refine Xq 1 34 [.c 35, .c 38, .blk 0, .c 49] 3 [(2, pt b2), (7, iA t20), (8, iA t21), (9, iA t22), (10, iA t23), (65, tB (t21 == 3))] ?_
        obtain ⟨j51, hJ52, h⟩ := of_let h
        have hj53 : ∀ (t48 : Bool) (w50 : World), j51 t48 = some r → Holds M0 w0 w50 [box b2 25 [iA a0, iB a1, iB a2, iC a3, iA a4, iA a5]] → RegI F8 34 [.c 35, .c 38, .blk 0, .c 49] 7 [(2, pt b2), (7, iA t20), (8, iA t21), (9, iA t22), (10, iA t23), (58, tB t48)] w50 (listing_Target_8.post M0 w0 r) := by
         intro t48 w50 h h49
         rw [hJ52] at h
         clear hJ52
         dsimp only at h
         refine Ye (Vc 58 36 37 h (fun hc54 h => ?_) fun hc54 h => ?_)
         ·refine Xg 1 [.c 38, .blk 0, .c 49] (Vl [(2, pt b2), (7, iA t20), (8, iA t21), (58, tB true)] ?_)
          exact hj68 true w50 h (h49.pk [0])
         ·refine Xr (Yp 3 [(2, pt b2), (7, iA t20), (8, iA t21), (9, iA t22), (10, iA t23), (71, tB (t21 == 5))] ?_)
          obtain ⟨j60, hJ61, h⟩ := of_let h
          have hj62 : ∀ (t57 : Bool) (w59 : World), j60 t57 = some r → Holds M0 w0 w59 [box b2 25 [iA a0, iB a1, iB a2, iC a3, iA a4, iA a5]] → RegI F8 37 [.c 38, .blk 0, .c 49] 11 [(2, pt b2), (7, iA t20), (8, iA t21), (58, tB t57)] w59 (listing_Target_8.post M0 w0 r) := by
           intro t57 w59 h h58
           rw [hJ61] at h
           clear hJ61
           dsimp only at h
           refine Ye (Vl [(2, pt b2), (7, iA t20), (8, iA t21), (58, tB t57)] ?_)
           exact hj68 t57 w59 h (h58.pk [0])
          clear hJ61
          rcases oc h with ⟨hc55, h⟩ | ⟨hc55, h⟩
          ·refine Yf 71 true hc55 (Zp 4 [2, 7, 8, 9, 75] [(75, tB (t23 == 1))] ?_)
           rcases oc h with ⟨hc56, h⟩ | ⟨hc56, h⟩
           ·refine Yf 75 true hc56 (Zp 4 [2, 7, 8, 58] [(58, tB (t22 == 0))] (Ul [(2, pt b2), (7, iA t20), (8, iA t21), (58, tB (t22 == 0))] ?_))
            exact hj62 (t22 == 0) w50 h (h49.pk [0])
           ·refine Yf 75 false hc56 (Zp 4 [2, 7, 8, 58] [(58, tB false)] (Ul [(2, pt b2), (7, iA t20), (8, iA t21), (58, tB false)] ?_))
            exact hj62 false w50 h (h49.pk [0])
          ·refine Yf 71 false hc55 (Zp 8 [2, 7, 8, 58] [(58, tB false)] (Ul [(2, pt b2), (7, iA t20), (8, iA t21), (58, tB false)] ?_))
           exact hj62 false w50 h (h49.pk [0])
        clear hJ52
        rcases oc h with ⟨hc47, h⟩ | ⟨hc47, h⟩
        ·refine Yf 65 true hc47 (Zp 4 [2, 7, 8, 9, 10, 58] [(58, tB (t20 == 0))] (Ul [(2, pt b2), (7, iA t20), (8, iA t21), (9, iA t22), (10, iA t23), (58, tB (t20 == 0))] ?_))
         exact hj53 (t20 == 0) w28 h (h27.pk [0])
        ·refine Yf 65 false hc47 (Zp 4 [2, 7, 8, 9, 10, 58] [(58, tB false)] (Ul [(2, pt b2), (7, iA t20), (8, iA t21), (9, iA t22), (10, iA t23), (58, tB false)] ?_))
         exact hj53 false w28 h (h27.pk [0])
   clear hJ30
   rcases oc h with ⟨hc24, h⟩ | ⟨hc24, h⟩
   ·refine Yf 36 true hc24 (Zp 4 [1, 2, 6, 7, 8, 9, 10, 40] [(40, tB (t21 == 0))] ?_)
    rcases oc h with ⟨hc25, h⟩ | ⟨hc25, h⟩
    ·refine Yf 40 true hc25 (Zp 4 [1, 2, 6, 7, 8, 9, 10, 33] [(33, tB (decide (t20 > 1)))] (Ul [(1, iC p1), (2, pt b2), (6, iA t19), (7, iA t20), (8, iA t21), (9, iA t22), (10, iA t23), (33, tB (decide (t20 > 1)))] ?_))
     exact hj31 (decide (t20 > 1)) w15 h (h17.pk [0])
    ·refine Yf 40 false hc25 (Zp 4 [1, 2, 6, 7, 8, 9, 10, 33] [(33, tB false)] (Ul [(1, iC p1), (2, pt b2), (6, iA t19), (7, iA t20), (8, iA t21), (9, iA t22), (10, iA t23), (33, tB false)] ?_))
     exact hj31 false w15 h (h17.pk [0])
   ·refine Yf 36 false hc24 (Zp 8 [1, 2, 6, 7, 8, 9, 10, 33] [(33, tB false)] (Ul [(1, iC p1), (2, pt b2), (6, iA t19), (7, iA t20), (8, iA t21), (9, iA t22), (10, iA t23), (33, tB false)] ?_))
    exact hj31 false w15 h (h17.pk [0])
 clear hJ12
 rcases oc h with ⟨hc6, h⟩ | ⟨hc6, h⟩
 ·refine Yf 14 true hc6 (Zp 1 [1, 2, 14, 15] [(15, pt b2)] (Ya 16 0 3 b2 0 (iA a0) h3 rfl (Zp 3 [1, 2, 19] [(19, tB (a0 != 3))] ?_)))
  rcases oc h with ⟨hc7, h⟩ | ⟨hc7, h⟩
  ·refine Yf 19 true hc7 (Zp 1 [1, 2, 19, 20] [(20, pt b2)] (Ya 21 0 3 b2 0 (iA a0) h3 rfl (Zp 2 [1, 2, 23] [(23, tB (a0 != 4))] (Ul [(1, iC p1), (2, pt b2), (23, tB (a0 != 4))] ?_))))
   exact hj13 (a0 != 4) w1 h (h3.pk [0])
  ·refine Yf 19 false hc7 (Zp 4 [1, 2, 23] [(23, tB false)] (Ul [(1, iC p1), (2, pt b2), (23, tB false)] ?_))
   exact hj13 false w1 h (h3.pk [0])
 ·refine Yf 14 false hc6 (Zp 9 [1, 2, 23] [(23, tB false)] (Ul [(1, iC p1), (2, pt b2), (23, tB false)] ?_))
  exact hj13 false w1 h (h3.pk [0])
end

section
def listing_one_next_34.post (M0 : Nat → Prop) (w0 : World) (r : Int) : Ending → World → Prop := fun e w => e = .returned (.int .u16 r) ∧ Below w0.heap.size w0 w
def listing_one_next_34.f (K : Nat) (p0_0 : Int) (p0_1 : List Int) (p0_2_0 : Int) (p0_2_1 : Int) (p0_2_2 : Int) (p0_2_3 : Int) (p0_2_4 : Int) (p0_2_5 : Int) (p0_3 : Bool) : Option Int := some (IntKind.wrap .u16 (p0_0 + (IntKind.wrap .u16 (p0_1.length : Int))))
theorem listing_one_next_34_ok (K : Nat) (M0 : Nat → Prop) (w0 : World) (pA0_1 : Option Addr) (pc0_1 : Nat) (a0 : Int) (a1 : List Int) (a6 : Int) (a7 : Int) (a8 : Int) (a9 : Int) (d0 : Int) (d1 : Int) (a3 : Bool) (ho : ∀ b, M0 b → b < w0.heap.size) (hs0_1 : Sl rB w0 M0 (sV pA0_1 a1 pc0_1) a1) {r : Int} (h : listing_one_next_34.f K a0 a1 a6 a7 a8 a9 d0 d1 a3 = some r) :
  Calls Tryz.prog 34 #[.agg #[iC a0, sV pA0_1 a1 pc0_1, iA a6, iB a7, iB a8, iC a9, iA d0, iA d1, tB a3]] w0 (listing_one_next_34.post M0 w0 r) := by
 unfold listing_one_next_34.f at h
 have h0 : Holds M0 w0 w0 [] := Holds.start ho
 have h00_1 := h0.aS hs0_1
 have h0 : Holds M0 w0 w0 [sl rB (sV pA0_1 a1 pc0_1) a1] := h00_1
 refine calls_of F34 rfl [.agg #[iC a0, sV pA0_1 a1 pc0_1, iA a6, iB a7, iB a8, iC a9, iA d0, iA d1, tB a3]] (by kernel_rfl) (Xg 1 [.c 1, .c 2] (Xr (Yx 1 53 [iC a0, sV pA0_1 a1 pc0_1, iA a6, iB a7, iB a8, iC a9, iA d0, iA d1, tB a3] h0 ?_)))
 intro w1 b2 h3 hb4 hn5
 refine Yp 1 [(1, pt b2)] (Zy 1 3 [.c 4] 1 [1, 3] [(3, pt b2)] (Ya 4 1 23 b2 0 (iC a0) h3 rfl (Yp 1 [(4, iC a0), (5, pu b2 1)] (Ya 6 1 39 b2 1 (sV pA0_1 a1 pc0_1) h3 rfl (Yd 4 [(2, iC (wC (a0 + (wC (a1.length : Int)))))] ?_)))))
 obtain rfl := sI h
 exact Xt (iC (wC (a0 + (wC (a1.length : Int))))) ⟨rfl, h3.below⟩
end

section
def cells_Dump_39.post (M0 : Nat → Prop) (w0 : World) (r : (List Int)) : Ending → World → Prop := fun e w => ∃ (A1 : Option Addr) (c1 : Nat), e = .returned (.slice A1 r.length c1) ∧ Holds M0 w0 w [own (Rp.int .u8) 5 (.slice A1 r.length c1) r]
def cells_Dump_39.l0 (K : Nat) (p0 : List (Int × Int)) (p1 : Int) (p2 : Int) : Nat → (List (Int × Int)) → Int → Option (List (Int × Int))
 | 0, _, _ => none
 | k + 1, t7, t8 => cond (decide (t8 < (p0.length : Int))) (cond (inR t8 p0.length) (Let (fun (t31 : (List (Int × Int))) => cells_Dump_39.l0 K p0 p1 p2 k t31 (IntKind.wrap .i64 (t8 + 1))) (fun j34 => cond (((rdD p0 t8).2) == 0) (j34 (delK t7 ((rdD p0 t8).1))) (j34 (insK t7 ((rdD p0 t8).1) ((rdD p0 t8).2))))) none) (some t7)
theorem cells_Dump_39.l0_ok (K : Nat) (M0 : Nat → Prop) (w0 : World) (pA0 : Option Addr) (pc0 : Nat) (p0 : List (Int × Int)) (p1 : Int) (p2 : Int) (b6 : Nat) (R : Ending → World → Prop) (x : (List (Int × Int))) (hk0 : ∀ (t37 : List (Int × Int)) (w1 : World), x = t37 → Holds M0 w0 w1 [mp (ekI .u16) (fun (x : Int) => iB x) b6 t37] → RunsI F64 [.c 21] [(3, .map (some b6))] w1 R) :
  ∀ (k : Nat) (t7 : List (Int × Int)) (t8 : Int) (w : World), cells_Dump_39.l0 K p0 p1 p2 k t7 t8 = some x → Holds M0 w0 w [mp (ekI .u16) (fun (x : Int) => iB x) b6 t7, sl (Rp.pair rC rB) (sV pA0 p0 pc0) p0] → RunsI F64 [.c 9, .lp 9, .blk 0, .c 21] [(3, .map (some b6)), (7, sV pA0 p0 pc0), (8, iA (p0.length : Int)), (9, iA t8)] w R := by
 intro k
 induction k with
 | zero => intro t7 t8 w h hH; exact absurd h (by simp [cells_Dump_39.l0])
 | succ k ih =>
  intro t7 t8 w h hH
  rw [cells_Dump_39.l0.eq_2] at h
  refine Xd 1 10 [.c 11, .lp 9, .blk 0, .c 21] 1 [(3, .map (some b6)), (7, sV pA0 p0 pc0), (8, iA (p0.length : Int)), (9, iA t8), (10, tB (decide (t8 < (p0.length : Int))))] (Xg 1 [.c 12, .c 15, .lp 9, .blk 0, .c 21] (Vc 10 13 14 h (fun hc9 h => ?_) fun hc9 h => ?_))
  ·refine Xg 1 [.c 15, .lp 9, .blk 0, .c 21] (Xg 3 [.c 18, .c 19, .blk 1, .c 20, .lp 9, .blk 0, .c 21] (Xr ?_))
   have ⟨hc10, h⟩ := oz h
   refine Yo (OpE.idxSl 11 1 22 t8 hH (by kernel_rfl) rfl (by kernel_rfl) (by kernel_rfl) hc10 ?_)
   intro b11 o12 cs13 hk14 h15
   obtain ⟨_, _, rfl, rfl, rfl⟩ := hk14
   refine Yz 12 2 69 b11 o12 0 (.agg #[iC ((rdD p0 t8).1), iB ((rdD p0 t8).2)]) h15 rfl (Yx 5 69 [iC 0, iB 0] h15 ?_)
   intro w16 b17 h18 hb19 hn20
   refine Yb 3 69 b17 0 (.agg #[iC ((rdD p0 t8).1), iB ((rdD p0 t8).2)]) [iC ((rdD p0 t8).1), iB ((rdD p0 t8).2)] h18 rfl ?_
   intro w21 h22 hk23
   refine Ye (Xr (Yp 2 [(3, .map (some b6)), (5, pt b17), (7, sV pA0 p0 pc0), (8, iA (p0.length : Int)), (9, iA t8), (13, .map (some b6)), (14, pt b17)] (Ya 15 3 23 b17 0 (iC ((rdD p0 t8).1)) h22 rfl (Zp 1 [3, 7, 8, 9, 13, 15, 16] [(15, iC ((rdD p0 t8).1)), (16, pu b17 1)] (Ya 17 3 5 b17 1 (iB ((rdD p0 t8).2)) h22 rfl (RegI.enter 18 [3, 7, 8, 9] [(3, .map (some b6)), (7, sV pA0 p0 pc0), (8, iA (p0.length : Int)), (9, iA t8)] (by kernel_rfl) (by kernel_rfl) (by kernel_rfl) (by kernel_rfl) F100 100 rfl [.map (some b6), iC ((rdD p0 t8).1), iB ((rdD p0 t8).2)] (by kernel_rfl) (by kernel_rfl) ?_))))))
   obtain ⟨j34, hJ35, h⟩ := of_let h
   have hj36 : ∀ (t31 : List (Int × Int)) (w33 : World), j34 t31 = some x → Holds M0 w0 w33 [mp (ekI .u16) (fun (x : Int) => iB x) b6 t31, sl (Rp.pair rC rB) (sV pA0 p0 pc0) p0] → RegI F64 19 [.blk 1, .c 20, .lp 9, .blk 0, .c 21] 6 [(3, .map (some b6)), (7, sV pA0 p0 pc0), (8, iA (p0.length : Int)), (9, iA t8)] w33 R := by
    intro t31 w33 h h32
    rw [hJ35] at h
    clear hJ35
    dsimp only at h
    refine Yq 1 20 [.lp 9, .blk 0, .c 21] 2 [(3, .map (some b6)), (7, sV pA0 p0 pc0), (8, iA (p0.length : Int)), (9, iA (wA (t8 + 1)))] (Ye (Xg 1 [.c 9, .lp 9, .blk 0, .c 21] (Vl [(3, .map (some b6)), (7, sV pA0 p0 pc0), (8, iA (p0.length : Int)), (9, iA (wA (t8 + 1)))] ?_)))
    exact ih t31 (wA (t8 + 1)) w33 h (h32.pk [0, 1])
   clear hJ35
   refine Xd 2 2 [.c 3, .c 8] 2 [(0, .map (some b6)), (1, iC ((rdD p0 t8).1)), (2, iB ((rdD p0 t8).2)), (7, tB (((rdD p0 t8).2) == 0))] (Vc 7 4 7 h (fun hc24 h => ?_) fun hc24 h => ?_)
   ·refine Xq 1 5 [.c 6, .c 8] 2 [(8, .map (some b6)), (9, iC ((rdD p0 t8).1))] (Yo (OpE.mapDel (ek := (ekI .u16)) (ev := (fun (x : Int) => iB x)) 0 99 23 5 [23] ((rdD p0 t8).1) h22 (by kernel_rfl) rfl (by kernel_rfl) rfl (by kernel_rfl) (KeyOk.int .u16 (by kernel_rfl)) (delK t7 ((rdD p0 t8).1)) rfl ?_))
    intro w25 h26 hk27
    refine Ye (Xt (.tuple #[]) (cont_mk (Ul [(3, .map (some b6)), (7, sV pA0 p0 pc0), (8, iA (p0.length : Int)), (9, iA t8)] ?_)))
    exact hj36 (delK t7 ((rdD p0 t8).1)) w25 h (h26.pk [0, 1])
   ·refine Xq 1 8 [] 3 [(10, .map (some b6)), (11, iC ((rdD p0 t8).1)), (12, iB ((rdD p0 t8).2))] (Yo (OpE.mapSet (ek := (ekI .u16)) (ev := (fun (x : Int) => iB x)) 0 99 23 5 ((rdD p0 t8).1) ((rdD p0 t8).2) h22 (by kernel_rfl) rfl (by kernel_rfl) rfl rfl (by kernel_rfl) (KeyOk.int .u16 (by kernel_rfl)) (insK t7 ((rdD p0 t8).1) ((rdD p0 t8).2)) rfl ?_))
    intro w28 h29 hk30
    refine Ye (Xt (.tuple #[]) (cont_mk (Ul [(3, .map (some b6)), (7, sV pA0 p0 pc0), (8, iA (p0.length : Int)), (9, iA t8)] ?_)))
    exact hj36 (insK t7 ((rdD p0 t8).1) ((rdD p0 t8).2)) w28 h (h29.pk [0, 1])
  ·refine Xg 1 [.c 21] (Vl [(3, .map (some b6))] ?_)
   exact hk0 t7 w (sI h).symm (hH.pk [0])
def cells_Dump_39.l1 (K : Nat) (p0 : List (Int × Int)) (p1 : Int) (p2 : Int) (t46 : List (Int × Int)) : Nat → Int → (List Int) → Int → Option (List Int)
 | 0, _, _, _ => none
 | k + 1, t44, t49, t50 => cond (decide (t50 < (if 4096 < p2 then 4096 else p2))) (cond (mayBe (t49.length + ([((findK t46 t44).getD 0)] : List Int).length) 1) (cells_Dump_39.l1 K p0 p1 p2 t46 k (IntKind.wrap .u16 (t44 + 1)) (t49 ++ ([((findK t46 t44).getD 0)] : List Int)) (IntKind.wrap .i64 (t50 + 1))) none) (some t49)
theorem cells_Dump_39.l1_ok (K : Nat) (M0 : Nat → Prop) (w0 : World) (pA0 : Option Addr) (pc0 : Nat) (p0 : List (Int × Int)) (p1 : Int) (p2 : Int) (t46 : List (Int × Int)) (b45 : Nat) (R : Ending → World → Prop) (x : (List Int)) (hk0 : ∀ (t65 : List Int) (A63 : Option Addr) (c64 : Nat) (w1 : World), x = t65 → Holds M0 w0 w1 [own rB 5 (sV A63 t65 c64) t65] → RunsI F39 [.c 23] [(8, sV A63 t65 c64)] w1 R) :
  ∀ (k : Nat) (t44 : Int) (t49 : List Int) (t50 : Int) (A47 : Option Addr) (c48 : Nat) (w : World), cells_Dump_39.l1 K p0 p1 p2 t46 k t44 t49 t50 = some x → Holds M0 w0 w [mp (ekI .u16) (fun (x : Int) => iB x) b45 t46, own rB 5 (sV A47 t49 c48) t49] → RunsI F39 [.c 11, .lp 11, .blk 0, .c 23] [(1, iC t44), (7, .map (some b45)), (8, sV A47 t49 c48), (12, iA (if 4096 < p2 then 4096 else p2)), (13, iA t50)] w R := by
 intro k
 induction k with
 | zero => intro t44 t49 t50 A47 c48 w h hH; exact absurd h (by simp [cells_Dump_39.l1])
 | succ k ih =>
  intro t44 t49 t50 A47 c48 w h hH
  rw [cells_Dump_39.l1.eq_2] at h
  refine Xd 1 12 [.c 13, .lp 11, .blk 0, .c 23] 1 [(1, iC t44), (7, .map (some b45)), (8, sV A47 t49 c48), (12, iA (if 4096 < p2 then 4096 else p2)), (13, iA t50), (14, tB (decide (t50 < (if 4096 < p2 then 4096 else p2))))] (Xg 1 [.c 14, .c 17, .lp 11, .blk 0, .c 23] (Vc 14 15 16 h (fun hc51 h => ?_) fun hc51 h => ?_))
  ·refine Xg 1 [.c 17, .lp 11, .blk 0, .c 23] (Xq 3 20 [.c 21, .blk 1, .c 22, .lp 11, .blk 0, .c 23] 3 [(1, iC t44), (7, .map (some b45)), (12, iA (if 4096 < p2 then 4096 else p2)), (13, iA t50), (15, sV A47 t49 c48), (16, .map (some b45)), (17, iC t44)] (Yo (OpE.lookup (ek := (ekI .u16)) (ev := (fun (x : Int) => iB x)) (zv := iB 0) 18 0 99 23 5 t44 (iB ((findK t46 t44).getD 0)) false hH (by kernel_rfl) rfl (by kernel_rfl) rfl (by kernel_rfl) (KeyOk.int .u16 (by kernel_rfl)) (fun _ => by kernel_rfl) (look_sym _ _ _ false) (Yo (OpE.lit 19 5 [iB ((findK t46 t44).getD 0)] 1 hH (by kernel_rfl) (by kernel_rfl) ?_)))))
   intro w52 b53 h54 hb55 hn56
   have ⟨hc57, h⟩ := oz h
   refine Yo (OpE.appendBox 20 1 2 39 5 1 ([((findK t46 t44).getD 0)] : List Int) 0 h54 (by kernel_rfl) (by kernel_rfl) (by kernel_rfl) rfl rfl rfl (cells_int _ _ _ _) hc57 ?_)
   intro w58 A59 c60 h61 hk62
   refine Yd 1 [(1, iC t44), (7, .map (some b45)), (8, .slice A59 ((t49 ++ ([((findK t46 t44).getD 0)] : List Int)).length) c60), (12, iA (if 4096 < p2 then 4096 else p2)), (13, iA t50)] (Xr (Zp 3 [1, 7, 8, 12, 13] [(1, iC (wC (t44 + 1)))] (Zy 1 22 [.lp 11, .blk 0, .c 23] 2 [1, 7, 8, 12, 13] [(13, iA (wA (t50 + 1)))] (Ye (Xg 1 [.c 11, .lp 11, .blk 0, .c 23] (Vl [(1, iC (wC (t44 + 1))), (7, .map (some b45)), (8, .slice A59 ((t49 ++ ([((findK t46 t44).getD 0)] : List Int)).length) c60), (12, iA (if 4096 < p2 then 4096 else p2)), (13, iA (wA (t50 + 1)))] ?_))))))
   exact ih (wC (t44 + 1)) (t49 ++ ([((findK t46 t44).getD 0)] : List Int)) (wA (t50 + 1)) A59 c60 w58 h (h61.pk [0, 1])
  ·refine Xg 1 [.c 23] (Vl [(8, sV A47 t49 c48)] ?_)
   exact hk0 t49 A47 c48 w (sI h).symm (hH.pk [1])
def cells_Dump_39.f (K : Nat) (p0 : List (Int × Int)) (p1 : Int) (p2 : Int) : Option (List Int) := (cells_Dump_39.l0 K p0 p1 p2 K ([] : List (Int × Int)) 0).bind (fun t40 => (cells_Dump_39.l1 K p0 p1 p2 t40 K p1 ([] : List Int) 0).bind (fun t70 => some t70))
theorem cells_Dump_39_ok (K : Nat) (M0 : Nat → Prop) (w0 : World) (pA0 : Option Addr) (pc0 : Nat) (p0 : List (Int × Int)) (p1 : Int) (p2 : Int) (ho : ∀ b, M0 b → b < w0.heap.size) (hs0 : Sl (Rp.pair rC rB) w0 M0 (sV pA0 p0 pc0) p0) {r : (List Int)} (h : cells_Dump_39.f K p0 p1 p2 = some r) :
  Calls Tryz.prog 39 #[sV pA0 p0 pc0, iC p1, iA p2] w0 (cells_Dump_39.post M0 w0 r) := by
 unfold cells_Dump_39.f at h
 have h0 : Holds M0 w0 w0 [] := Holds.start ho
 have h00 := h0.aS hs0
 have h0 : Holds M0 w0 w0 [sl (Rp.pair rC rB) (sV pA0 p0 pc0) p0] := h00
 refine calls_of F39 rfl [sV pA0 p0 pc0, iC p1, iA p2] (by kernel_rfl) (Xq 1 1 [.c 2] 1 [(0, sV pA0 p0 pc0), (1, iC p1), (2, iA p2)] (Zy 1 3 [.c 4] 1 [1, 2, 9] [(9, sV pA0 p0 pc0)] (RegI.enter 10 [1, 2] [(1, iC p1), (2, iA p2)] (by kernel_rfl) (by kernel_rfl) (by kernel_rfl) (by kernel_rfl) F64 64 rfl [sV pA0 p0 pc0] (by kernel_rfl) (by kernel_rfl) (Xd 1 1 [.c 2] 1 [(0, sV pA0 p0 pc0)] (Xg 1 [.c 3, .c 4] (Xr (Yo (OpE.makeMap 6 (ekI .u16) (fun (x : Int) => iB x) h0 (by kernel_rfl) (by kernel_rfl) ?_))))))))
 intro w1 b2 h3 hb4 hn5
 refine Zp 1 [0, 3] [(3, .map (some b2))] (Zy 2 6 [.c 7, .c 21] 3 [3, 7, 8, 9] [(7, sV pA0 p0 pc0), (8, iA (p0.length : Int)), (9, iA 0)] (Ye (Xg 2 [.c 9, .lp 9, .blk 0, .c 21] ?_)))
 obtain ⟨x38, hx39, h⟩ := of_bind h
 refine Vl [(3, .map (some b2)), (7, sV pA0 p0 pc0), (8, iA (p0.length : Int)), (9, iA 0)] (cells_Dump_39.l0_ok K M0 w0 pA0 pc0 p0 p1 p2 b2 _ x38 ?_ K ([] : List (Int × Int)) 0 w1 hx39 (h3.pk [1, 0]))
 ·intro t40 w42 hq73 h41
  (try rw [hq73] at h)
  refine Xd 1 22 [.c 23] 2 [(2, .map (some b2))] (Xt (.map (some b2)) (cont_mk (Yp 1 [(1, iC p1), (2, iA p2), (7, .map (some b2))] (Zy 1 5 [.c 6] 1 [1, 2, 7, 8] [(8, n0)] (Zy 2 8 [.c 9, .c 23] 3 [1, 7, 8, 12, 13] [(12, iA (if 4096 < p2 then 4096 else p2)), (13, iA 0)] (Ye (Xg 2 [.c 11, .lp 11, .blk 0, .c 23] ?_)))))))
  obtain ⟨x66, hx67, h⟩ := of_bind h
  have h43 := h41.addOwnNil rB 5
  refine Vl [(1, iC p1), (7, .map (some b2)), (8, .slice none (([] : List Int).length) 0), (12, iA (if 4096 < p2 then 4096 else p2)), (13, iA 0)] (cells_Dump_39.l1_ok K M0 w0 pA0 pc0 p0 p1 p2 t40 b2 _ x66 ?_ K p1 ([] : List Int) 0 none 0 w42 hx67 (h43.pk [0, 1]))
  ·intro t70 A68 c69 w72 hq74 h71
   (try rw [hq74] at h)
   refine Xd 1 24 [.c 25] 2 [(6, sV A68 t70 c69)] (Xt (sV A68 t70 c69) ?_)
   obtain rfl := sI h
   exact ⟨A68, c69, rfl, h71.pk [0]⟩
end

section
abbrev decode_Near_122.post := pB
def decode_Near_122.f (K : Nat) (p0 : Int) (p1 : Int) : Option Bool := Let (fun (t2 : Bool) => cond t2 (some true) (Let (fun (t10 : Bool) => cond t10 (some false) ((decode_Fields_24.f K p1).bind fun yt21 => cond (yt21.1 == 0) (cond (yt21.2.1 == 6) (cond (decide (yt21.2.2.1 ≥ 4)) (cond (decide (yt21.2.2.1 ≤ 6)) (some true) (cond (yt21.1 == 1) (cond ((yt21.2.1 == 6) != (yt21.2.2.1 == 6)) (some true) (cond (yt21.1 == 2) (some (yt21.2.2.1 == 6)) (some false))) (cond (yt21.1 == 2) (some (yt21.2.2.1 == 6)) (some false)))) (cond (yt21.1 == 1) (cond ((yt21.2.1 == 6) != (yt21.2.2.1 == 6)) (some true) (cond (yt21.1 == 2) (some (yt21.2.2.1 == 6)) (some false))) (cond (yt21.1 == 2) (some (yt21.2.2.1 == 6)) (some false)))) (cond (yt21.1 == 1) (cond ((yt21.2.1 == 6) != (yt21.2.2.1 == 6)) (some true) (cond (yt21.1 == 2) (some (yt21.2.2.1 == 6)) (some false))) (cond (yt21.1 == 2) (some (yt21.2.2.1 == 6)) (some false)))) (cond (yt21.1 == 1) (cond ((yt21.2.1 == 6) != (yt21.2.2.1 == 6)) (some true) (cond (yt21.1 == 2) (some (yt21.2.2.1 == 6)) (some false))) (cond (yt21.1 == 2) (some (yt21.2.2.1 == 6)) (some false))))) (fun j13 => cond (p0 != 3) (j13 (p0 != 4)) (j13 false)))) (fun j5 => cond (p0 == 5) (j5 true) (j5 (p0 == 6)))
theorem decode_Near_122_ok (K : Nat) (M0 : Nat → Prop) (w0 : World) (p0 : Int) (p1 : Int) (ho : ∀ b, M0 b → b < w0.heap.size) {r : Bool} (h : decode_Near_122.f K p0 p1 = some r) :
  Calls Tryz.prog 122 #[iA p0, iB p1] w0 (decode_Near_122.post M0 w0 r) := by
 unfold decode_Near_122.f at h
 have h0 : Holds M0 w0 w0 [] := Holds.start ho
 refine calls_of F122 rfl [iA p0, iB p1] (by kernel_rfl) (Xq 1 1 [.c 2] 1 [(0, iA p0), (1, iB p1)] (Zy 2 4 [.c 5, .c 10] 3 [0, 1, 12] [(12, tB (p0 == 5))] ?_))
 obtain ⟨j5, hJ6, h⟩ := of_let h
 have hj7 : ∀ (t2 : Bool) (w4 : World), j5 t2 = some r → Holds M0 w0 w4 [] → RegI F122 4 [.c 5, .c 10] 6 [(0, iA p0), (1, iB p1), (15, tB t2)] w4 (decode_Near_122.post M0 w0 r) := by
  intro t2 w4 h h3
  rw [hJ6] at h
  clear hJ6
  dsimp only at h
  refine Ye (Vc 15 6 9 h (fun hc8 h => ?_) fun hc8 h => ?_)
  ·refine Xd 1 7 [.c 8, .c 10] 1 [(4, tB true)] ?_
   obtain rfl := sI h
   exact Xt (tB true) ⟨rfl, h3.below⟩
  ·refine Xg 1 [.c 10] (Xq 2 12 [.c 13, .c 18] 3 [(0, iA p0), (1, iB p1), (18, tB (p0 != 3))] ?_)
   obtain ⟨j13, hJ14, h⟩ := of_let h
   have hj15 : ∀ (t10 : Bool) (w12 : World), j13 t10 = some r → Holds M0 w0 w12 [] → RegI F122 12 [.c 13, .c 18] 6 [(1, iB p1), (21, tB t10)] w12 (decode_Near_122.post M0 w0 r) := by
    intro t10 w12 h h11
    rw [hJ14] at h
    clear hJ14
    dsimp only at h
    refine Ye (Vc 21 14 17 h (fun hc16 h => ?_) fun hc16 h => ?_)
    ·refine Xd 1 15 [.c 16, .c 18] 1 [(4, tB false)] ?_
     obtain rfl := sI h
     exact Xt (tB false) ⟨rfl, h11.below⟩
    ·refine Xg 1 [.c 18] (Xq 1 19 [.c 20] 1 [(23, iB p1)] ?_)
     obtain ⟨⟨t21, t22, t23, t24, t25⟩, hg20, h⟩ := of_bind h
     dsimp only at h
     refine Yc 24 24 #[iB p1] ((decode_Fields_24_ok K _ w12  p1 h11.old' hg20).mono ?_)
     rintro _ w17 ⟨rfl, hb18⟩
     refine ⟨_, rfl, ?_⟩
     have h19 := h11.call hb18
     refine Yp 11 [(5, iA t21), (6, iA t22), (7, iA t23)] (Zy 1 21 [.c 22] 3 [5, 6, 7, 32] [(32, tB (t21 == 0))] ?_)
     rcases oc h with ⟨hc26, h⟩ | ⟨hc26, h⟩
     ·refine Yf 32 true hc26 (Zp 4 [5, 6, 7, 36] [(36, tB (t22 == 6))] ?_)
      rcases oc h with ⟨hc27, h⟩ | ⟨hc27, h⟩
      ·refine Yf 36 true hc27 (Zp 4 [5, 6, 7, 40] [(40, tB (decide (t23 ≥ 4)))] ?_)
       rcases oc h with ⟨hc28, h⟩ | ⟨hc28, h⟩
       ·refine Yf 40 true hc28 (Zp 4 [5, 6, 7, 44] [(44, tB (decide (t23 ≤ 6)))] ?_)
        rcases oc h with ⟨hc29, h⟩ | ⟨hc29, h⟩
        ·refine Yf 44 true hc29 (Yd 19 [(4, tB true)] ?_)
         obtain rfl := sI h
         exact Xt (tB true) ⟨rfl, h19.below⟩
        ·refine Yf 44 false hc29 (Zp 3 [5, 6, 7, 44, 47] [(47, tB (t21 == 1))] ?_)
         rcases oc h with ⟨hc30, h⟩ | ⟨hc30, h⟩
         ·refine Yf 47 true hc30 (Zp 8 [5, 7, 55] [(55, tB ((t22 == 6) != (t23 == 6)))] ?_)
          rcases oc h with ⟨hc31, h⟩ | ⟨hc31, h⟩
          ·refine Yf 55 true hc31 (Yd 8 [(4, tB true)] ?_)
           obtain rfl := sI h
           exact Xt (tB true) ⟨rfl, h19.below⟩
          ·refine Yf 55 false hc31 (Zp 3 [7, 55, 58] [(58, tB (t21 == 2))] ?_)
           rcases oc h with ⟨hc32, h⟩ | ⟨hc32, h⟩
           ·refine Yf 58 true hc32 (Yd 5 [(4, tB (t23 == 6))] ?_)
            obtain rfl := sI h
            exact Xt (tB (t23 == 6)) ⟨rfl, h19.below⟩
           ·refine Yf 58 false hc32 (Yd 5 [(4, tB false)] ?_)
            obtain rfl := sI h
            exact Xt (tB false) ⟨rfl, h19.below⟩
         ·refine Yf 47 false hc30 (Zp 11 [7, 55, 58] [(55, tB false), (58, tB (t21 == 2))] ?_)
          rcases oc h with ⟨hc33, h⟩ | ⟨hc33, h⟩
          ·refine Yf 58 true hc33 (Yd 5 [(4, tB (t23 == 6))] ?_)
           obtain rfl := sI h
           exact Xt (tB (t23 == 6)) ⟨rfl, h19.below⟩
          ·refine Yf 58 false hc33 (Yd 5 [(4, tB false)] ?_)
           obtain rfl := sI h
           exact Xt (tB false) ⟨rfl, h19.below⟩
       ·refine Yf 40 false hc28 (Zp 7 [5, 6, 7, 44, 47] [(44, tB false), (47, tB (t21 == 1))] ?_)
        rcases oc h with ⟨hc34, h⟩ | ⟨hc34, h⟩
        ·refine Yf 47 true hc34 (Zp 8 [5, 7, 55] [(55, tB ((t22 == 6) != (t23 == 6)))] ?_)
         rcases oc h with ⟨hc35, h⟩ | ⟨hc35, h⟩
         ·refine Yf 55 true hc35 (Yd 8 [(4, tB true)] ?_)
          obtain rfl := sI h
          exact Xt (tB true) ⟨rfl, h19.below⟩
         ·refine Yf 55 false hc35 (Zp 3 [7, 55, 58] [(58, tB (t21 == 2))] ?_)
          rcases oc h with ⟨hc36, h⟩ | ⟨hc36, h⟩
          ·refine Yf 58 true hc36 (Yd 5 [(4, tB (t23 == 6))] ?_)
           obtain rfl := sI h
           exact Xt (tB (t23 == 6)) ⟨rfl, h19.below⟩
          ·refine Yf 58 false hc36 (Yd 5 [(4, tB false)] ?_)
           obtain rfl := sI h
           exact Xt (tB false) ⟨rfl, h19.below⟩
        ·refine Yf 47 false hc34 (Zp 11 [7, 55, 58] [(55, tB false), (58, tB (t21 == 2))] ?_)
         rcases oc h with ⟨hc37, h⟩ | ⟨hc37, h⟩
         ·refine Yf 58 true hc37 (Yd 5 [(4, tB (t23 == 6))] ?_)
          obtain rfl := sI h
          exact Xt (tB (t23 == 6)) ⟨rfl, h19.below⟩
         ·refine Yf 58 false hc37 (Yd 5 [(4, tB false)] ?_)
          obtain rfl := sI h
          exact Xt (tB false) ⟨rfl, h19.below⟩
      ·refine Yf 36 false hc27 (Zp 11 [5, 6, 7, 44, 47] [(44, tB false), (47, tB (t21 == 1))] ?_)
       rcases oc h with ⟨hc38, h⟩ | ⟨hc38, h⟩
       ·refine Yf 47 true hc38 (Zp 8 [5, 7, 55] [(55, tB ((t22 == 6) != (t23 == 6)))] ?_)
        rcases oc h with ⟨hc39, h⟩ | ⟨hc39, h⟩
        ·refine Yf 55 true hc39 (Yd 8 [(4, tB true)] ?_)
         obtain rfl := sI h
         exact Xt (tB true) ⟨rfl, h19.below⟩
        ·refine Yf 55 false hc39 (Zp 3 [7, 55, 58] [(58, tB (t21 == 2))] ?_)
         rcases oc h with ⟨hc40, h⟩ | ⟨hc40, h⟩
         ·refine Yf 58 true hc40 (Yd 5 [(4, tB (t23 == 6))] ?_)
          obtain rfl := sI h
          exact Xt (tB (t23 == 6)) ⟨rfl, h19.below⟩
         ·refine Yf 58 false hc40 (Yd 5 [(4, tB false)] ?_)
          obtain rfl := sI h
          exact Xt (tB false) ⟨rfl, h19.below⟩
       ·refine Yf 47 false hc38 (Zp 11 [7, 55, 58] [(55, tB false), (58, tB (t21 == 2))] ?_)
        rcases oc h with ⟨hc41, h⟩ | ⟨hc41, h⟩
        ·refine Yf 58 true hc41 (Yd 5 [(4, tB (t23 == 6))] ?_)
         obtain rfl := sI h
         exact Xt (tB (t23 == 6)) ⟨rfl, h19.below⟩
        ·refine Yf 58 false hc41 (Yd 5 [(4, tB false)] ?_)
         obtain rfl := sI h
         exact Xt (tB false) ⟨rfl, h19.below⟩
     ·refine Yf 32 false hc26 (Zp 15 [5, 6, 7, 44, 47] [(44, tB false), (47, tB (t21 == 1))] ?_)
      rcases oc h with ⟨hc42, h⟩ | ⟨hc42, h⟩
      ·refine Yf 47 true hc42 (Zp 8 [5, 7, 55] [(55, tB ((t22 == 6) != (t23 == 6)))] ?_)
       rcases oc h with ⟨hc43, h⟩ | ⟨hc43, h⟩
       ·refine Yf 55 true hc43 (Yd 8 [(4, tB true)] ?_)
        obtain rfl := sI h
        exact Xt (tB true) ⟨rfl, h19.below⟩
       ·refine Yf 55 false hc43 (Zp 3 [7, 55, 58] [(58, tB (t21 == 2))] ?_)
        rcases oc h with ⟨hc44, h⟩ | ⟨hc44, h⟩
        ·refine Yf 58 true hc44 (Yd 5 [(4, tB (t23 == 6))] ?_)
         obtain rfl := sI h
         exact Xt (tB (t23 == 6)) ⟨rfl, h19.below⟩
        ·refine Yf 58 false hc44 (Yd 5 [(4, tB false)] ?_)
         obtain rfl := sI h
         exact Xt (tB false) ⟨rfl, h19.below⟩
      ·refine Yf 47 false hc42 (Zp 11 [7, 55, 58] [(55, tB false), (58, tB (t21 == 2))] ?_)
       rcases oc h with ⟨hc45, h⟩ | ⟨hc45, h⟩
       ·refine Yf 58 true hc45 (Yd 5 [(4, tB (t23 == 6))] ?_)
        obtain rfl := sI h
        exact Xt (tB (t23 == 6)) ⟨rfl, h19.below⟩
       ·refine Yf 58 false hc45 (Yd 5 [(4, tB false)] ?_)
        obtain rfl := sI h
        exact Xt (tB false) ⟨rfl, h19.below⟩
   clear hJ14
   rcases oc h with ⟨hc9, h⟩ | ⟨hc9, h⟩
   ·refine Yf 18 true hc9 (Zp 3 [1, 21] [(21, tB (p0 != 4))] (Ul [(1, iB p1), (21, tB (p0 != 4))] ?_))
    exact hj15 (p0 != 4) w4 h (h3.pk [])
   ·refine Yf 18 false hc9 (Zp 3 [1, 21] [(21, tB false)] (Ul [(1, iB p1), (21, tB false)] ?_))
    exact hj15 false w4 h (h3.pk [])
 clear hJ6
 rcases oc h with ⟨hc1, h⟩ | ⟨hc1, h⟩
 ·refine Yf 12 true hc1 (Zp 3 [0, 1, 15] [(15, tB true)] (Ul [(0, iA p0), (1, iB p1), (15, tB true)] ?_))
  exact hj7 true w0 h (h0.pk [])
 ·refine Yf 12 false hc1 (Zp 3 [0, 1, 15] [(15, tB (p0 == 6))] (Ul [(0, iA p0), (1, iB p1), (15, tB (p0 == 6))] ?_))
  exact hj7 (p0 == 6) w0 h (h0.pk [])
end

section
def bits_Word_160.post (M0 : Nat → Prop) (w0 : World) (r : Int) : Ending → World → Prop := fun e w => e = .returned (.int .u16 r) ∧ Below w0.heap.size w0 w
def bits_Word_160.f (K : Nat) (p0 : Int) (p1 : Int) : Option Int := some (bor .u16 (IntKind.wrap .u16 ((IntKind.wrap .u16 p0) * 2 ^ 8)) (IntKind.wrap .u16 p1))
theorem bits_Word_160_ok (K : Nat) (M0 : Nat → Prop) (w0 : World) (p0 : Int) (p1 : Int) (ho : ∀ b, M0 b → b < w0.heap.size) {r : Int} (h : bits_Word_160.f K p0 p1 = some r) :
  Calls Tryz.prog 160 #[iB p0, iB p1] w0 (bits_Word_160.post M0 w0 r) := by
 unfold bits_Word_160.f at h
 have h0 : Holds M0 w0 w0 [] := Holds.start ho
 refine calls_of F160 rfl [iB p0, iB p1] (by kernel_rfl) (Xq 1 1 [.c 2] 1 [(0, iB p0), (1, iB p1)] (Yq 1 3 [.c 4] 7 [(4, iC (bor .u16 (wC ((wC p0) * 2 ^ 8)) (wC p1)))] (Ye ?_)))
 obtain rfl := sI h
 exact Xt (iC (bor .u16 (wC ((wC p0) * 2 ^ 8)) (wC p1))) ⟨rfl, h0.below⟩
end

section
abbrev decode_plain_161.post := pI
def decode_plain_161.f (K : Nat) (p0 : Int) (p1 : Int) (p2 : Int) : Option Int := Let (fun (t24 : Bool) => cond t24 (some 2) (Let (fun (t34 : Bool) => cond t34 (some 2) (cond ((p0, p2) == (0, 0)) (cond (inR p1 8) (some (rdD ([0, 0, 1, 1, 1, 1, 1, 1] : List Int) p1)) none) (cond ((p0, p2) == (0, 2)) (cond (inR p1 8) (some (rdD ([0, 0, 0, 0, 2, 2, 2, 2] : List Int) p1)) none) (cond ((p0, p2) == (0, 6)) (cond (inR p1 8) (some (rdD ([1, 1, 1, 1, 1, 1, 1, 1] : List Int) p1)) none) (cond ((p0, p2) == (3, 2)) (cond (inR p1 8) (some (rdD ([2, 2, 2, 2, 2, 2, 2, 2] : List Int) p1)) none) (cond ((p0, p2) == (3, 3)) (cond (inR p1 8) (some (rdD ([2, 0, 1, 1, 0, 0, 0, 0] : List Int) p1)) none) (cond ((p0, p2) == (3, 4)) (cond (inR p1 8) (some (rdD ([2, 2, 2, 2, 2, 2, 2, 2] : List Int) p1)) none) (cond ((p0, p2) == (3, 6)) (cond (inR p1 8) (some (rdD ([1, 1, 1, 1, 1, 1, 1, 1] : List Int) p1)) none) (cond (inR p1 8) (some (rdD ([0, 0, 0, 0, 0, 0, 0, 0] : List Int) p1)) none))))))))) (fun j37 => cond (p0 == 3) (cond (p2 == 5) (cond ((band .i64 p1 1) == 1) (j37 ((Int.fdiv p1 (2 ^ 1)) == 0)) (j37 false)) (j37 false)) (j37 false)))) (fun j27 => cond (p0 == 0) (cond (p2 == 1) (j27 ((band .i64 p1 1) == 0)) (j27 false)) (j27 false))
theorem decode_plain_161_ok (K : Nat) (M0 : Nat → Prop) (w0 : World) (p0 : Int) (p1 : Int) (p2 : Int) (ho : ∀ b, M0 b → b < w0.heap.size) {r : Int} (h : decode_plain_161.f K p0 p1 p2 = some r) :
  Calls Tryz.prog 161 #[iA p0, iA p1, iA p2] w0 (decode_plain_161.post M0 w0 r) := by
 unfold decode_plain_161.f at h
 have h0 : Holds M0 w0 w0 [] := Holds.start ho
 refine calls_of F161 rfl [iA p0, iA p1, iA p2] (by kernel_rfl) (Xq 1 1 [.c 2] 1 [(0, iA p0), (1, iA p1), (2, iA p2)] (Zy 1 3 [.c 4] 6 [0, 1, 2, 7, 8] [(7, iA (Int.fdiv p1 (2 ^ 1))), (8, iA (band .i64 p1 1))] (Ye (Xg 1 [.c 5, .c 6] (RunsI.any 24 (by kernel_rfl) (by kernel_rfl) (by kernel_rfl) (Kp ([] : List Nat) (World.drew w0)) ?_)))))
 have h2 := h0.drew
 generalize World.drew w0 = w1 at h2 ⊢
 have hS3 := Kp.refl ([] : List Nat) w1
 refine Wu 1 15 (.agg #[iA 0, iA 0]) hS3 (Wu 2 16 (.agg (List.flatMap (fun (x : Int) => ([iA x] : List Value)) ([0, 0, 1, 1, 1, 1, 1, 1] : List Int)).toArray) hS3 (Wu 4 17 (.agg #[iA 0, iA 2]) hS3 (Wu 5 18 (.agg (List.flatMap (fun (x : Int) => ([iA x] : List Value)) ([0, 0, 0, 0, 2, 2, 2, 2] : List Int)).toArray) hS3 (Wu 7 19 (.agg #[iA 0, iA 6]) hS3 (Wu 8 20 (.agg (List.flatMap (fun (x : Int) => ([iA x] : List Value)) ([1, 1, 1, 1, 1, 1, 1, 1] : List Int)).toArray) hS3 (Wu 10 21 (.agg #[iA 3, iA 2]) hS3 (Wu 11 22 (.agg (List.flatMap (fun (x : Int) => ([iA x] : List Value)) ([2, 2, 2, 2, 2, 2, 2, 2] : List Int)).toArray) hS3 (Wu 13 23 (.agg #[iA 3, iA 3]) hS3 (Wu 14 24 (.agg (List.flatMap (fun (x : Int) => ([iA x] : List Value)) ([2, 0, 1, 1, 0, 0, 0, 0] : List Int)).toArray) hS3 (Wu 16 25 (.agg #[iA 3, iA 4]) hS3 (Wu 17 26 (.agg (List.flatMap (fun (x : Int) => ([iA x] : List Value)) ([2, 2, 2, 2, 2, 2, 2, 2] : List Int)).toArray) hS3 ?_)))))))))))
 refine Wu 19 27 (.agg #[iA 3, iA 6]) hS3 (Wu 20 28 (.agg (List.flatMap (fun (x : Int) => ([iA x] : List Value)) ([1, 1, 1, 1, 1, 1, 1, 1] : List Int)).toArray) hS3 (AnyE.one 0 (by kernel_rfl) (fun w5 hu6 => ?_)))
 have h7 := h2.call hu6
 have hS8 := hS3.up hu6
 refine OpE.makeMap 14 (ekP .i64) (fun (v : Value) => v) h7 (by kernel_rfl) (by kernel_rfl) ?_
 intro w9 b10 h11 hb12 hn13
 have hn14 := Nat.le_trans hS8.1 hn13
 have hS15 := hS8.up hb12
 refine ⟨hS15, ?_⟩
 refine AnyE.stores (ek := (ekP .i64)) (ev := (fun (v : Value) => v)) 0 2 195 193 194 b10 ([] : List ((Int × Int) × Value)) [(3, (0, 0), .agg (List.flatMap (fun (x : Int) => ([iA x] : List Value)) ([0, 0, 1, 1, 1, 1, 1, 1] : List Int)).toArray), (6, (0, 2), .agg (List.flatMap (fun (x : Int) => ([iA x] : List Value)) ([0, 0, 0, 0, 2, 2, 2, 2] : List Int)).toArray), (9, (0, 6), .agg (List.flatMap (fun (x : Int) => ([iA x] : List Value)) ([1, 1, 1, 1, 1, 1, 1, 1] : List Int)).toArray), (12, (3, 2), .agg (List.flatMap (fun (x : Int) => ([iA x] : List Value)) ([2, 2, 2, 2, 2, 2, 2, 2] : List Int)).toArray), (15, (3, 3), .agg (List.flatMap (fun (x : Int) => ([iA x] : List Value)) ([2, 0, 1, 1, 0, 0, 0, 0] : List Int)).toArray), (18, (3, 4), .agg (List.flatMap (fun (x : Int) => ([iA x] : List Value)) ([2, 2, 2, 2, 2, 2, 2, 2] : List Int)).toArray), (21, (3, 6), .agg (List.flatMap (fun (x : Int) => ([iA x] : List Value)) ([1, 1, 1, 1, 1, 1, 1, 1] : List Int)).toArray)] h11 rfl hS15 (fun x hx => .inr (by rw [List.mem_singleton.1 hx]; exact hn14)) (by kernel_rfl) (KeyOk.pair .i64 (E := 3) (q := .i64) (by kernel_rfl) (by kernel_rfl) (by kernel_rfl)) (by kernel_rfl) (by kernel_rfl) (by decide) (by decide) (by kernel_rfl) (by kernel_rfl) [((0, 0), .agg (List.flatMap (fun (x : Int) => ([iA x] : List Value)) ([0, 0, 1, 1, 1, 1, 1, 1] : List Int)).toArray), ((0, 2), .agg (List.flatMap (fun (x : Int) => ([iA x] : List Value)) ([0, 0, 0, 0, 2, 2, 2, 2] : List Int)).toArray), ((0, 6), .agg (List.flatMap (fun (x : Int) => ([iA x] : List Value)) ([1, 1, 1, 1, 1, 1, 1, 1] : List Int)).toArray), ((3, 2), .agg (List.flatMap (fun (x : Int) => ([iA x] : List Value)) ([2, 2, 2, 2, 2, 2, 2, 2] : List Int)).toArray), ((3, 3), .agg (List.flatMap (fun (x : Int) => ([iA x] : List Value)) ([2, 0, 1, 1, 0, 0, 0, 0] : List Int)).toArray), ((3, 4), .agg (List.flatMap (fun (x : Int) => ([iA x] : List Value)) ([2, 2, 2, 2, 2, 2, 2, 2] : List Int)).toArray), ((3, 6), .agg (List.flatMap (fun (x : Int) => ([iA x] : List Value)) ([1, 1, 1, 1, 1, 1, 1, 1] : List Int)).toArray)] (by kernel_rfl) [3, 6, 9, 12, 15, 18, 21, 0, 20, 19, 17, 16, 14, 13, 11, 10, 8, 7, 5, 4, 2, 1] (by kernel_rfl) ?_
 intro w16 h17 hS18
 refine Wu 22 29 (.map (some b10)) hS18 (Wu 23 9 (.map (some b10)) hS18 (AnyE.done (by kernel_rfl) (fun w19 hu20 => ?_)))
 have h21 := h17.call hu20
 refine Vl [(0, iA p0), (1, iA p1), (2, iA p2), (7, iA (Int.fdiv p1 (2 ^ 1))), (8, iA (band .i64 p1 1)), (9, .map (some b10))] (Zq 3 9 [.c 10, .blk 0, .c 21] 3 [0, 1, 2, 7, 8, 9, 33] [(33, tB (p0 == 0))] ?_)
 obtain ⟨j27, hJ28, h⟩ := of_let h
 have hj29 : ∀ (t24 : Bool) (w26 : World), j27 t24 = some r → Holds M0 w0 w26 [mp (ekP .i64) (fun (v : Value) => v) b10 [((0, 0), .agg (List.flatMap (fun (x : Int) => ([iA x] : List Value)) ([0, 0, 1, 1, 1, 1, 1, 1] : List Int)).toArray), ((0, 2), .agg (List.flatMap (fun (x : Int) => ([iA x] : List Value)) ([0, 0, 0, 0, 2, 2, 2, 2] : List Int)).toArray), ((0, 6), .agg (List.flatMap (fun (x : Int) => ([iA x] : List Value)) ([1, 1, 1, 1, 1, 1, 1, 1] : List Int)).toArray), ((3, 2), .agg (List.flatMap (fun (x : Int) => ([iA x] : List Value)) ([2, 2, 2, 2, 2, 2, 2, 2] : List Int)).toArray), ((3, 3), .agg (List.flatMap (fun (x : Int) => ([iA x] : List Value)) ([2, 0, 1, 1, 0, 0, 0, 0] : List Int)).toArray), ((3, 4), .agg (List.flatMap (fun (x : Int) => ([iA x] : List Value)) ([2, 2, 2, 2, 2, 2, 2, 2] : List Int)).toArray), ((3, 6), .agg (List.flatMap (fun (x : Int) => ([iA x] : List Value)) ([1, 1, 1, 1, 1, 1, 1, 1] : List Int)).toArray)]] → RegI F161 9 [.c 10, .blk 0, .c 21] 11 [(0, iA p0), (1, iA p1), (2, iA p2), (7, iA (Int.fdiv p1 (2 ^ 1))), (8, iA (band .i64 p1 1)), (9, .map (some b10)), (30, tB t24)] w26 (decode_plain_161.post M0 w0 r) := by
  intro t24 w26 h h25
  rw [hJ28] at h
  clear hJ28
  dsimp only at h
  refine Ye (Vc 30 11 14 h (fun hc30 h => ?_) fun hc30 h => ?_)
  ·refine Xd 1 12 [.c 13, .blk 0, .c 21] 1 [(6, iA 2)] ?_
   obtain rfl := sI h
   exact Xt (iA 2) ⟨rfl, h25.below⟩
  ·refine Xq 1 15 [.c 16, .blk 0, .c 21] 3 [(0, iA p0), (1, iA p1), (2, iA p2), (7, iA (Int.fdiv p1 (2 ^ 1))), (8, iA (band .i64 p1 1)), (9, .map (some b10)), (44, tB (p0 == 3))] ?_
   obtain ⟨j37, hJ38, h⟩ := of_let h
   have hj39 : ∀ (t34 : Bool) (w36 : World), j37 t34 = some r → Holds M0 w0 w36 [mp (ekP .i64) (fun (v : Value) => v) b10 [((0, 0), .agg (List.flatMap (fun (x : Int) => ([iA x] : List Value)) ([0, 0, 1, 1, 1, 1, 1, 1] : List Int)).toArray), ((0, 2), .agg (List.flatMap (fun (x : Int) => ([iA x] : List Value)) ([0, 0, 0, 0, 2, 2, 2, 2] : List Int)).toArray), ((0, 6), .agg (List.flatMap (fun (x : Int) => ([iA x] : List Value)) ([1, 1, 1, 1, 1, 1, 1, 1] : List Int)).toArray), ((3, 2), .agg (List.flatMap (fun (x : Int) => ([iA x] : List Value)) ([2, 2, 2, 2, 2, 2, 2, 2] : List Int)).toArray), ((3, 3), .agg (List.flatMap (fun (x : Int) => ([iA x] : List Value)) ([2, 0, 1, 1, 0, 0, 0, 0] : List Int)).toArray), ((3, 4), .agg (List.flatMap (fun (x : Int) => ([iA x] : List Value)) ([2, 2, 2, 2, 2, 2, 2, 2] : List Int)).toArray), ((3, 6), .agg (List.flatMap (fun (x : Int) => ([iA x] : List Value)) ([1, 1, 1, 1, 1, 1, 1, 1] : List Int)).toArray)]] → RegI F161 15 [.c 16, .blk 0, .c 21] 15 [(0, iA p0), (1, iA p1), (2, iA p2), (9, .map (some b10)), (41, tB t34)] w36 (decode_plain_161.post M0 w0 r) := by
    intro t34 w36 h h35
    rw [hJ38] at h
    clear hJ38
    dsimp only at h
    refine Ye (Vc 41 17 20 h (fun hc40 h => ?_) fun hc40 h => ?_)
    ·refine Xd 1 18 [.c 19, .blk 0, .c 21] 1 [(6, iA 2)] ?_
     obtain rfl := sI h
     exact Xt (iA 2) ⟨rfl, h35.below⟩
    ·refine Xg 1 [.blk 0, .c 21] (Xq 2 22 [.c 23] 4 [(1, iA p1), (56, .map (some b10)), (59, .agg #[iA p0, iA p2])] ?_)
     rcases oc h with ⟨hc41, h⟩ | ⟨hc41, h⟩
     ·refine Yo (OpE.lookup (ek := (ekP .i64)) (ev := (fun (v : Value) => v)) (zv := .agg #[iA 0, iA 0, iA 0, iA 0, iA 0, iA 0, iA 0, iA 0]) 60 0 195 193 194 (p0, p2) (.agg (List.flatMap (fun (x : Int) => ([iA x] : List Value)) ([0, 0, 1, 1, 1, 1, 1, 1] : List Int)).toArray) false h35 (by kernel_rfl) rfl (by kernel_rfl) rfl (by kernel_rfl) (KeyOk.pair .i64 (E := 3) (q := .i64) (by kernel_rfl) (by kernel_rfl) (by kernel_rfl)) (fun _ => by kernel_rfl) (by simp only [findK, hc41, cond_true, cond_false, Option.map_some, Option.map_none, Option.getD_some, Option.getD_none, Option.isSome_some, Option.isSome_none]) (Yp 1 [(60, .agg (List.flatMap (fun (x : Int) => ([iA x] : List Value)) ([0, 0, 1, 1, 1, 1, 1, 1] : List Int)).toArray), (61, iA p1)] ?_))
      have ⟨hc42, h⟩ := oz h
      refine Yo (OpE.run 62 (by kernel_rfl) (run_indexTab (T0 := 194) (en := (fun (x : Int) => ([iA x] : List Value))) (tab := ([0, 0, 1, 1, 1, 1, 1, 1] : List Int)) (len := 8) (sz := 1) (j := p1) (v := iA (rdD ([0, 0, 1, 1, 1, 1, 1, 1] : List Int) p1)) (fun _ => rfl) (by kernel_rfl) (by kernel_rfl) rfl hc42 (fun _ => by kernel_rfl)) (Yd 1 [(6, iA (rdD ([0, 0, 1, 1, 1, 1, 1, 1] : List Int) p1))] ?_))
      obtain rfl := sI h
      exact Xt (iA (rdD ([0, 0, 1, 1, 1, 1, 1, 1] : List Int) p1)) ⟨rfl, h35.below⟩
     ·rcases oc h with ⟨hc43, h⟩ | ⟨hc43, h⟩
      ·refine Yo (OpE.lookup (ek := (ekP .i64)) (ev := (fun (v : Value) => v)) (zv := .agg #[iA 0, iA 0, iA 0, iA 0, iA 0, iA 0, iA 0, iA 0]) 60 0 195 193 194 (p0, p2) (.agg (List.flatMap (fun (x : Int) => ([iA x] : List Value)) ([0, 0, 0, 0, 2, 2, 2, 2] : List Int)).toArray) false h35 (by kernel_rfl) rfl (by kernel_rfl) rfl (by kernel_rfl) (KeyOk.pair .i64 (E := 3) (q := .i64) (by kernel_rfl) (by kernel_rfl) (by kernel_rfl)) (fun _ => by kernel_rfl) (by simp only [findK, hc41, hc43, cond_true, cond_false, Option.map_some, Option.map_none, Option.getD_some, Option.getD_none, Option.isSome_some, Option.isSome_none]) (Yp 1 [(60, .agg (List.flatMap (fun (x : Int) => ([iA x] : List Value)) ([0, 0, 0, 0, 2, 2, 2, 2] : List Int)).toArray), (61, iA p1)] ?_))
       have ⟨hc44, h⟩ := oz h
       refine Yo (OpE.run 62 (by kernel_rfl) (run_indexTab (T0 := 194) (en := (fun (x : Int) => ([iA x] : List Value))) (tab := ([0, 0, 0, 0, 2, 2, 2, 2] : List Int)) (len := 8) (sz := 1) (j := p1) (v := iA (rdD ([0, 0, 0, 0, 2, 2, 2, 2] : List Int) p1)) (fun _ => rfl) (by kernel_rfl) (by kernel_rfl) rfl hc44 (fun _ => by kernel_rfl)) (Yd 1 [(6, iA (rdD ([0, 0, 0, 0, 2, 2, 2, 2] : List Int) p1))] ?_))
       obtain rfl := sI h
       exact Xt (iA (rdD ([0, 0, 0, 0, 2, 2, 2, 2] : List Int) p1)) ⟨rfl, h35.below⟩
      ·rcases oc h with ⟨hc45, h⟩ | ⟨hc45, h⟩
       ·refine Yo (OpE.lookup (ek := (ekP .i64)) (ev := (fun (v : Value) => v)) (zv := .agg #[iA 0, iA 0, iA 0, iA 0, iA 0, iA 0, iA 0, iA 0]) 60 0 195 193 194 (p0, p2) (.agg (List.flatMap (fun (x : Int) => ([iA x] : List Value)) ([1, 1, 1, 1, 1, 1, 1, 1] : List Int)).toArray) false h35 (by kernel_rfl) rfl (by kernel_rfl) rfl (by kernel_rfl) (KeyOk.pair .i64 (E := 3) (q := .i64) (by kernel_rfl) (by kernel_rfl) (by kernel_rfl)) (fun _ => by kernel_rfl) (by simp only [findK, hc41, hc43, hc45, cond_true, cond_false, Option.map_some, Option.map_none, Option.getD_some, Option.getD_none, Option.isSome_some, Option.isSome_none]) (Yp 1 [(60, .agg (List.flatMap (fun (x : Int) => ([iA x] : List Value)) ([1, 1, 1, 1, 1, 1, 1, 1] : List Int)).toArray), (61, iA p1)] ?_))
        have ⟨hc46, h⟩ := oz h
        refine Yo (OpE.run 62 (by kernel_rfl) (run_indexTab (T0 := 194) (en := (fun (x : Int) => ([iA x] : List Value))) (tab := ([1, 1, 1, 1, 1, 1, 1, 1] : List Int)) (len := 8) (sz := 1) (j := p1) (v := iA (rdD ([1, 1, 1, 1, 1, 1, 1, 1] : List Int) p1)) (fun _ => rfl) (by kernel_rfl) (by kernel_rfl) rfl hc46 (fun _ => by kernel_rfl)) (Yd 1 [(6, iA (rdD ([1, 1, 1, 1, 1, 1, 1, 1] : List Int) p1))] ?_))
        obtain rfl := sI h
        exact Xt (iA (rdD ([1, 1, 1, 1, 1, 1, 1, 1] : List Int) p1)) ⟨rfl, h35.below⟩
       ·rcases oc h with ⟨hc47, h⟩ | ⟨hc47, h⟩
        ·refine Yo (OpE.lookup (ek := (ekP .i64)) (ev := (fun (v : Value) => v)) (zv := .agg #[iA 0, iA 0, iA 0, iA 0, iA 0, iA 0, iA 0, iA 0]) 60 0 195 193 194 (p0, p2) (.agg (List.flatMap (fun (x : Int) => ([iA x] : List Value)) ([2, 2, 2, 2, 2, 2, 2, 2] : List Int)).toArray) false h35 (by kernel_rfl) rfl (by kernel_rfl) rfl (by kernel_rfl) (KeyOk.pair .i64 (E := 3) (q := .i64) (by kernel_rfl) (by kernel_rfl) (by kernel_rfl)) (fun _ => by kernel_rfl) (by simp only [findK, hc41, hc43, hc45, hc47, cond_true, cond_false, Option.map_some, Option.map_none, Option.getD_some, Option.getD_none, Option.isSome_some, Option.isSome_none]) (Yp 1 [(60, .agg (List.flatMap (fun (x : Int) => ([iA x] : List Value)) ([2, 2, 2, 2, 2, 2, 2, 2] : List Int)).toArray), (61, iA p1)] ?_))
         have ⟨hc48, h⟩ := oz h
         refine Yo (OpE.run 62 (by kernel_rfl) (run_indexTab (T0 := 194) (en := (fun (x : Int) => ([iA x] : List Value))) (tab := ([2, 2, 2, 2, 2, 2, 2, 2] : List Int)) (len := 8) (sz := 1) (j := p1) (v := iA (rdD ([2, 2, 2, 2, 2, 2, 2, 2] : List Int) p1)) (fun _ => rfl) (by kernel_rfl) (by kernel_rfl) rfl hc48 (fun _ => by kernel_rfl)) (Yd 1 [(6, iA (rdD ([2, 2, 2, 2, 2, 2, 2, 2] : List Int) p1))] ?_))
         obtain rfl := sI h
         exact Xt (iA (rdD ([2, 2, 2, 2, 2, 2, 2, 2] : List Int) p1)) ⟨rfl, h35.below⟩
        ·rcases oc h with ⟨hc49, h⟩ | ⟨hc49, h⟩
         ·refine Yo (OpE.lookup (ek := (ekP .i64)) (ev := (fun (v : Value) => v)) (zv := .agg #[iA 0, iA 0, iA 0, iA 0, iA 0, iA 0, iA 0, iA 0]) 60 0 195 193 194 (p0, p2) (.agg (List.flatMap (fun (x : Int) => ([iA x] : List Value)) ([2, 0, 1, 1, 0, 0, 0, 0] : List Int)).toArray) false h35 (by kernel_rfl) rfl (by kernel_rfl) rfl (by kernel_rfl) (KeyOk.pair .i64 (E := 3) (q := .i64) (by kernel_rfl) (by kernel_rfl) (by kernel_rfl)) (fun _ => by kernel_rfl) (by simp only [findK, hc41, hc43, hc45, hc47, hc49, cond_true, cond_false, Option.map_some, Option.map_none, Option.getD_some, Option.getD_none, Option.isSome_some, Option.isSome_none]) (Yp 1 [(60, .agg (List.flatMap (fun (x : Int) => ([iA x] : List Value)) ([2, 0, 1, 1, 0, 0, 0, 0] : List Int)).toArray), (61, iA p1)] ?_))
          have ⟨hc50, h⟩ := oz h
          refine Yo (OpE.run 62 (by kernel_rfl) (run_indexTab (T0 := 194) (en := (fun (x : Int) => ([iA x] : List Value))) (tab := ([2, 0, 1, 1, 0, 0, 0, 0] : List Int)) (len := 8) (sz := 1) (j := p1) (v := iA (rdD ([2, 0, 1, 1, 0, 0, 0, 0] : List Int) p1)) (fun _ => rfl) (by kernel_rfl) (by kernel_rfl) rfl hc50 (fun _ => by kernel_rfl)) (Yd 1 [(6, iA (rdD ([2, 0, 1, 1, 0, 0, 0, 0] : List Int) p1))] ?_))
          obtain rfl := sI h
          exact Xt (iA (rdD ([2, 0, 1, 1, 0, 0, 0, 0] : List Int) p1)) ⟨rfl, h35.below⟩
         ·rcases oc h with ⟨hc51, h⟩ | ⟨hc51, h⟩
          ·refine Yo (OpE.lookup (ek := (ekP .i64)) (ev := (fun (v : Value) => v)) (zv := .agg #[iA 0, iA 0, iA 0, iA 0, iA 0, iA 0, iA 0, iA 0]) 60 0 195 193 194 (p0, p2) (.agg (List.flatMap (fun (x : Int) => ([iA x] : List Value)) ([2, 2, 2, 2, 2, 2, 2, 2] : List Int)).toArray) false h35 (by kernel_rfl) rfl (by kernel_rfl) rfl (by kernel_rfl) (KeyOk.pair .i64 (E := 3) (q := .i64) (by kernel_rfl) (by kernel_rfl) (by kernel_rfl)) (fun _ => by kernel_rfl) (by simp only [findK, hc41, hc43, hc45, hc47, hc49, hc51, cond_true, cond_false, Option.map_some, Option.map_none, Option.getD_some, Option.getD_none, Option.isSome_some, Option.isSome_none]) (Yp 1 [(60, .agg (List.flatMap (fun (x : Int) => ([iA x] : List Value)) ([2, 2, 2, 2, 2, 2, 2, 2] : List Int)).toArray), (61, iA p1)] ?_))
           have ⟨hc52, h⟩ := oz h
           refine Yo (OpE.run 62 (by kernel_rfl) (run_indexTab (T0 := 194) (en := (fun (x : Int) => ([iA x] : List Value))) (tab := ([2, 2, 2, 2, 2, 2, 2, 2] : List Int)) (len := 8) (sz := 1) (j := p1) (v := iA (rdD ([2, 2, 2, 2, 2, 2, 2, 2] : List Int) p1)) (fun _ => rfl) (by kernel_rfl) (by kernel_rfl) rfl hc52 (fun _ => by kernel_rfl)) (Yd 1 [(6, iA (rdD ([2, 2, 2, 2, 2, 2, 2, 2] : List Int) p1))] ?_))
           obtain rfl := sI h
           exact Xt (iA (rdD ([2, 2, 2, 2, 2, 2, 2, 2] : List Int) p1)) ⟨rfl, h35.below⟩
          ·rcases oc h with ⟨hc53, h⟩ | ⟨hc53, h⟩
           ·refine Yo (OpE.lookup (ek := (ekP .i64)) (ev := (fun (v : Value) => v)) (zv := .agg #[iA 0, iA 0, iA 0, iA 0, iA 0, iA 0, iA 0, iA 0]) 60 0 195 193 194 (p0, p2) (.agg (List.flatMap (fun (x : Int) => ([iA x] : List Value)) ([1, 1, 1, 1, 1, 1, 1, 1] : List Int)).toArray) false h35 (by kernel_rfl) rfl (by kernel_rfl) rfl (by kernel_rfl) (KeyOk.pair .i64 (E := 3) (q := .i64) (by kernel_rfl) (by kernel_rfl) (by kernel_rfl)) (fun _ => by kernel_rfl) (by simp only [findK, hc41, hc43, hc45, hc47, hc49, hc51, hc53, cond_true, cond_false, Option.map_some, Option.map_none, Option.getD_some, Option.getD_none, Option.isSome_some, Option.isSome_none]) (Yp 1 [(60, .agg (List.flatMap (fun (x : Int) => ([iA x] : List Value)) ([1, 1, 1, 1, 1, 1, 1, 1] : List Int)).toArray), (61, iA p1)] ?_))
            have ⟨hc54, h⟩ := oz h
            refine Yo (OpE.run 62 (by kernel_rfl) (run_indexTab (T0 := 194) (en := (fun (x : Int) => ([iA x] : List Value))) (tab := ([1, 1, 1, 1, 1, 1, 1, 1] : List Int)) (len := 8) (sz := 1) (j := p1) (v := iA (rdD ([1, 1, 1, 1, 1, 1, 1, 1] : List Int) p1)) (fun _ => rfl) (by kernel_rfl) (by kernel_rfl) rfl hc54 (fun _ => by kernel_rfl)) (Yd 1 [(6, iA (rdD ([1, 1, 1, 1, 1, 1, 1, 1] : List Int) p1))] ?_))
            obtain rfl := sI h
            exact Xt (iA (rdD ([1, 1, 1, 1, 1, 1, 1, 1] : List Int) p1)) ⟨rfl, h35.below⟩
           ·refine Yo (OpE.lookup (ek := (ekP .i64)) (ev := (fun (v : Value) => v)) (zv := .agg #[iA 0, iA 0, iA 0, iA 0, iA 0, iA 0, iA 0, iA 0]) 60 0 195 193 194 (p0, p2) (.agg #[iA 0, iA 0, iA 0, iA 0, iA 0, iA 0, iA 0, iA 0]) false h35 (by kernel_rfl) rfl (by kernel_rfl) rfl (by kernel_rfl) (KeyOk.pair .i64 (E := 3) (q := .i64) (by kernel_rfl) (by kernel_rfl) (by kernel_rfl)) (fun _ => by kernel_rfl) (by simp only [findK, hc41, hc43, hc45, hc47, hc49, hc51, hc53, cond_true, cond_false, Option.map_some, Option.map_none, Option.getD_some, Option.getD_none, Option.isSome_some, Option.isSome_none]) (Yp 1 [(60, .agg #[iA 0, iA 0, iA 0, iA 0, iA 0, iA 0, iA 0, iA 0]), (61, iA p1)] ?_))
            have ⟨hc55, h⟩ := oz h
            refine Yo (OpE.run 62 (by kernel_rfl) (run_indexTab (T0 := 194) (en := (fun (x : Int) => ([iA x] : List Value))) (tab := ([0, 0, 0, 0, 0, 0, 0, 0] : List Int)) (len := 8) (sz := 1) (j := p1) (v := iA (rdD ([0, 0, 0, 0, 0, 0, 0, 0] : List Int) p1)) (fun _ => rfl) (by kernel_rfl) (by kernel_rfl) rfl hc55 (fun _ => by kernel_rfl)) (Yd 1 [(6, iA (rdD ([0, 0, 0, 0, 0, 0, 0, 0] : List Int) p1))] ?_))
            obtain rfl := sI h
            exact Xt (iA (rdD ([0, 0, 0, 0, 0, 0, 0, 0] : List Int) p1)) ⟨rfl, h35.below⟩
   clear hJ38
   rcases oc h with ⟨hc31, h⟩ | ⟨hc31, h⟩
   ·refine Yf 44 true hc31 (Zp 4 [0, 1, 2, 7, 8, 9, 48] [(48, tB (p2 == 5))] ?_)
    rcases oc h with ⟨hc32, h⟩ | ⟨hc32, h⟩
    ·refine Yf 48 true hc32 (Zp 4 [0, 1, 2, 7, 9, 52] [(52, tB ((band .i64 p1 1) == 1))] ?_)
     rcases oc h with ⟨hc33, h⟩ | ⟨hc33, h⟩
     ·refine Yf 52 true hc33 (Zp 4 [0, 1, 2, 9, 41] [(41, tB ((Int.fdiv p1 (2 ^ 1)) == 0))] (Ul [(0, iA p0), (1, iA p1), (2, iA p2), (9, .map (some b10)), (41, tB ((Int.fdiv p1 (2 ^ 1)) == 0))] ?_))
      exact hj39 ((Int.fdiv p1 (2 ^ 1)) == 0) w26 h (h25.pk [0])
     ·refine Yf 52 false hc33 (Zp 4 [0, 1, 2, 9, 41] [(41, tB false)] (Ul [(0, iA p0), (1, iA p1), (2, iA p2), (9, .map (some b10)), (41, tB false)] ?_))
      exact hj39 false w26 h (h25.pk [0])
    ·refine Yf 48 false hc32 (Zp 8 [0, 1, 2, 9, 41] [(41, tB false)] (Ul [(0, iA p0), (1, iA p1), (2, iA p2), (9, .map (some b10)), (41, tB false)] ?_))
     exact hj39 false w26 h (h25.pk [0])
   ·refine Yf 44 false hc31 (Zp 12 [0, 1, 2, 9, 41] [(41, tB false)] (Ul [(0, iA p0), (1, iA p1), (2, iA p2), (9, .map (some b10)), (41, tB false)] ?_))
    exact hj39 false w26 h (h25.pk [0])
 clear hJ28
 rcases oc h with ⟨hc22, h⟩ | ⟨hc22, h⟩
 ·refine Yf 33 true hc22 (Zp 4 [0, 1, 2, 7, 8, 9, 37] [(37, tB (p2 == 1))] ?_)
  rcases oc h with ⟨hc23, h⟩ | ⟨hc23, h⟩
  ·refine Yf 37 true hc23 (Zp 4 [0, 1, 2, 7, 8, 9, 30] [(30, tB ((band .i64 p1 1) == 0))] (Ul [(0, iA p0), (1, iA p1), (2, iA p2), (7, iA (Int.fdiv p1 (2 ^ 1))), (8, iA (band .i64 p1 1)), (9, .map (some b10)), (30, tB ((band .i64 p1 1) == 0))] ?_))
   exact hj29 ((band .i64 p1 1) == 0) w19 h (h21.pk [0])
  ·refine Yf 37 false hc23 (Zp 4 [0, 1, 2, 7, 8, 9, 30] [(30, tB false)] (Ul [(0, iA p0), (1, iA p1), (2, iA p2), (7, iA (Int.fdiv p1 (2 ^ 1))), (8, iA (band .i64 p1 1)), (9, .map (some b10)), (30, tB false)] ?_))
   exact hj29 false w19 h (h21.pk [0])
 ·refine Yf 33 false hc22 (Zp 8 [0, 1, 2, 7, 8, 9, 30] [(30, tB false)] (Ul [(0, iA p0), (1, iA p1), (2, iA p2), (7, iA (Int.fdiv p1 (2 ^ 1))), (8, iA (band .i64 p1 1)), (9, .map (some b10)), (30, tB false)] ?_))
  exact hj29 false w19 h (h21.pk [0])
end

section
abbrev decode_Size_124.post := pI
def decode_Size_124.f (K : Nat) (p0 : Int) (p1 : Int) : Option Int := (decode_Fields_24.f K p1).bind fun yt5 => Let (fun (t12 : Bool) => cond t12 ((decode_plain_161.f K yt5.1 yt5.2.1 yt5.2.2.1).bind fun t23 => some t23) (Let (fun (t26 : Bool) => cond t26 (some 2) (some 0)) (fun j29 => cond (p0 == 2) (cond (yt5.1 == 1) (j29 (yt5.2.2.1 == 3)) (j29 false)) (j29 false)))) (fun j15 => cond (p0 == 0) (j15 true) (cond (p0 == 3) (j15 true) (j15 (p0 == 4))))
theorem decode_Size_124_ok (K : Nat) (M0 : Nat → Prop) (w0 : World) (p0 : Int) (p1 : Int) (ho : ∀ b, M0 b → b < w0.heap.size) {r : Int} (h : decode_Size_124.f K p0 p1 = some r) :
  Calls Tryz.prog 124 #[iA p0, iB p1] w0 (decode_Size_124.post M0 w0 r) := by
 unfold decode_Size_124.f at h
 have h0 : Holds M0 w0 w0 [] := Holds.start ho
 refine calls_of F124 rfl [iA p0, iB p1] (by kernel_rfl) (Xq 1 1 [.c 2] 1 [(0, iA p0), (1, iB p1)] (Zy 1 3 [.c 4] 1 [0, 11] [(11, iB p1)] ?_))
 obtain ⟨⟨t5, t6, t7, t8, t9⟩, hg4, h⟩ := of_bind h
 dsimp only at h
 refine Yc 12 24 #[iB p1] ((decode_Fields_24_ok K _ w0  p1 h0.old' hg4).mono ?_)
 rintro _ w1 ⟨rfl, hb2⟩
 refine ⟨_, rfl, ?_⟩
 have h3 := h0.call hb2
 refine Yp 11 [(0, iA p0), (5, iA t5), (6, iA t6), (7, iA t7)] (Zy 3 7 [.c 8, .blk 0, .c 19] 3 [0, 5, 6, 7, 21] [(21, tB (p0 == 0))] ?_)
 obtain ⟨j15, hJ16, h⟩ := of_let h
 have hj17 : ∀ (t12 : Bool) (w14 : World), j15 t12 = some r → Holds M0 w0 w14 [] → RegI F124 7 [.c 8, .blk 0, .c 19] 11 [(0, iA p0), (5, iA t5), (6, iA t6), (7, iA t7), (18, tB t12)] w14 (decode_Size_124.post M0 w0 r) := by
  intro t12 w14 h h13
  rw [hJ16] at h
  clear hJ16
  dsimp only at h
  refine Ye (Vc 18 9 12 h (fun hc18 h => ?_) fun hc18 h => ?_)
  ·refine Xq 1 10 [.c 11, .blk 0, .c 19] 3 [(29, iA t5), (30, iA t6), (31, iA t7)] ?_
   obtain ⟨t23, hg22, h⟩ := of_bind h
   refine Yc 32 161 #[iA t5, iA t6, iA t7] ((decode_plain_161_ok K _ w14  t5 t6 t7 h13.old' hg22).mono ?_)
   rintro _ w19 ⟨rfl, hb20⟩
   refine ⟨_, rfl, ?_⟩
   have h21 := h13.call hb20
   refine Yd 1 [(4, iA t23)] ?_
   obtain rfl := sI h
   exact Xt (iA t23) ⟨rfl, h21.below⟩
  ·refine Xq 1 13 [.c 14, .blk 0, .c 19] 3 [(5, iA t5), (7, iA t7), (36, tB (p0 == 2))] ?_
   obtain ⟨j29, hJ30, h⟩ := of_let h
   have hj31 : ∀ (t26 : Bool) (w28 : World), j29 t26 = some r → Holds M0 w0 w28 [] → RegI F124 13 [.c 14, .blk 0, .c 19] 11 [(33, tB t26)] w28 (decode_Size_124.post M0 w0 r) := by
    intro t26 w28 h h27
    rw [hJ30] at h
    clear hJ30
    dsimp only at h
    refine Ye (Vc 33 15 18 h (fun hc32 h => ?_) fun hc32 h => ?_)
    ·refine Xd 1 16 [.c 17, .blk 0, .c 19] 1 [(4, iA 2)] ?_
     obtain rfl := sI h
     exact Xt (iA 2) ⟨rfl, h27.below⟩
    ·refine Xg 1 [.blk 0, .c 19] (Xd 2 20 [.c 21] 1 [(4, iA 0)] ?_)
     obtain rfl := sI h
     exact Xt (iA 0) ⟨rfl, h27.below⟩
   clear hJ30
   rcases oc h with ⟨hc24, h⟩ | ⟨hc24, h⟩
   ·refine Yf 36 true hc24 (Zp 4 [7, 40] [(40, tB (t5 == 1))] ?_)
    rcases oc h with ⟨hc25, h⟩ | ⟨hc25, h⟩
    ·refine Yf 40 true hc25 (Yp 4 [(33, tB (t7 == 3))] (Ul [(33, tB (t7 == 3))] ?_))
     exact hj31 (t7 == 3) w14 h (h13.pk [])
    ·refine Yf 40 false hc25 (Yp 4 [(33, tB false)] (Ul [(33, tB false)] ?_))
     exact hj31 false w14 h (h13.pk [])
   ·refine Yf 36 false hc24 (Yp 8 [(33, tB false)] (Ul [(33, tB false)] ?_))
    exact hj31 false w14 h (h13.pk [])
 clear hJ16
 rcases oc h with ⟨hc10, h⟩ | ⟨hc10, h⟩
 ·refine Yf 21 true hc10 (Zp 8 [0, 5, 6, 7, 18] [(18, tB true)] (Ul [(0, iA p0), (5, iA t5), (6, iA t6), (7, iA t7), (18, tB true)] ?_))
  exact hj17 true w1 h (h3.pk [])
 ·refine Yf 21 false hc10 (Zp 4 [0, 5, 6, 7, 25] [(25, tB (p0 == 3))] ?_)
  rcases oc h with ⟨hc11, h⟩ | ⟨hc11, h⟩
  ·refine Yf 25 true hc11 (Zp 4 [0, 5, 6, 7, 18] [(18, tB true)] (Ul [(0, iA p0), (5, iA t5), (6, iA t6), (7, iA t7), (18, tB true)] ?_))
   exact hj17 true w1 h (h3.pk [])
  ·refine Yf 25 false hc11 (Zp 4 [0, 5, 6, 7, 18] [(18, tB (p0 == 4))] (Ul [(0, iA p0), (5, iA t5), (6, iA t6), (7, iA t7), (18, tB (p0 == 4))] ?_))
   exact hj17 (p0 == 4) w1 h (h3.pk [])
end
end Go.Proofs.YtbcepghanbkncaaGreatDoor.LiT
