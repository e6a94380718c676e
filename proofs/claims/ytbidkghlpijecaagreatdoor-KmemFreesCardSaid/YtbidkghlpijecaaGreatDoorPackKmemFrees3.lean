/-
  Texts of the claim KmemFrees, part 3: what its theorem leans on.
-/
import Derived.Test.YtbidkghlpijecaaGreatDoorPackKmemFrees1
import Derived.Test.YtbidkghlpijecaaGreatDoorChecked
import Derived.Test.YtbidkghlpijecaaGreatDoorPackKmemFrees2
set_option linter.unusedVariables false
set_option linter.unusedSimpArgs false
namespace Go.Proofs.YtbidkghlpijecaaGreatDoor
instance:fD Tryz.prog 3:=⟨by kernel_rfl,by kernel_rfl⟩
instance:ct Tryz.prog 3 (.int .i64 0) 1 8:=⟨by kernel_rfl,by kernel_rfl,by decide⟩
instance:fD Tryz.prog 4:=⟨by kernel_rfl,by kernel_rfl⟩
instance:ct Tryz.prog 4 (.bool false) 1 1:=⟨by kernel_rfl,by kernel_rfl,by decide⟩
instance:fD Tryz.prog 5:=⟨by kernel_rfl,by kernel_rfl⟩
instance:fD Tryz.prog 9:=⟨by kernel_rfl,by kernel_rfl⟩
instance:ct Tryz.prog 9 (.string ByteArray.empty) 1 16:=⟨by kernel_rfl,by kernel_rfl,by decide⟩
instance:fD Tryz.prog 36:=⟨by kernel_rfl,by kernel_rfl⟩
instance:bj Tryz.prog 36 3 1:=⟨by kernel_rfl,by kernel_rfl⟩
instance:fD Tryz.prog 37:=⟨by kernel_rfl,by kernel_rfl⟩
instance:bj Tryz.prog 37 139 4:=⟨by kernel_rfl,by kernel_rfl⟩
instance:fD Tryz.prog 38:=⟨by kernel_rfl,by kernel_rfl⟩
instance:bj Tryz.prog 38 142 4:=⟨by kernel_rfl,by kernel_rfl⟩
instance:fD Tryz.prog 39:=⟨by kernel_rfl,by kernel_rfl⟩
instance:ct Tryz.prog 39 (.slice none 0 0) 1 24:=⟨by kernel_rfl,by kernel_rfl,by decide⟩
instance:bj Tryz.prog 39 165 3:=⟨by kernel_rfl,by kernel_rfl⟩
instance:ct Tryz.prog 41 (.agg #[.slice none 0 0,.slice none 0 0,.int .i64 0,.slice none 0 0,.slice none 0 0]) 5 104:=⟨by kernel_rfl,by kernel_rfl,by decide⟩
instance:fR Tryz.prog 41 5:=⟨by kernel_rfl,by kernel_rfl⟩
instance:iR Tryz.prog 41 [(0,1),(1,1),(2,1),(3,1),(4,1)] [.slice none 0 0,.slice none 0 0,.int .i64 0,.slice none 0 0,.slice none 0 0]:=⟨by kernel_rfl,by kernel_rfl⟩
instance:bL Tryz.prog 41 0 0 37:=⟨by kernel_rfl,by kernel_rfl⟩
instance:bL Tryz.prog 41 1 1 36:=⟨by kernel_rfl,by kernel_rfl⟩
instance:bL Tryz.prog 41 2 2 3:=⟨by kernel_rfl,by kernel_rfl⟩
instance:bL Tryz.prog 41 3 3 38:=⟨by kernel_rfl,by kernel_rfl⟩
instance:bL Tryz.prog 41 4 4 39:=⟨by kernel_rfl,by kernel_rfl⟩
instance:fD Tryz.prog 42:=⟨by kernel_rfl,by kernel_rfl⟩
instance:bj Tryz.prog 42 89 6:=⟨by kernel_rfl,by kernel_rfl⟩
instance:ct Tryz.prog 44 (.agg #[.slice none 0 0,.slice none 0 0,.slice none 0 0,.int .i64 0,.slice none 0 0,.slice none 0 0,.slice none 0 0]) 7 152:=⟨by kernel_rfl,by kernel_rfl,by decide⟩
instance:fR Tryz.prog 44 7:=⟨by kernel_rfl,by kernel_rfl⟩
instance:iR Tryz.prog 44 [(0,1),(1,5),(6,1)] [.slice none 0 0,.slice none 0 0,.slice none 0 0,.int .i64 0,.slice none 0 0,.slice none 0 0,.slice none 0 0]:=⟨by kernel_rfl,by kernel_rfl⟩
instance:bL Tryz.prog 44 0 0 36:=⟨by kernel_rfl,by kernel_rfl⟩
instance:bL Tryz.prog 44 1 1 41:=⟨by kernel_rfl,by kernel_rfl⟩
instance:bL Tryz.prog 44 2 6 42:=⟨by kernel_rfl,by kernel_rfl⟩
instance:fD Tryz.prog 61:=⟨by kernel_rfl,by kernel_rfl⟩
instance:bj Tryz.prog 61 9 1:=⟨by kernel_rfl,by kernel_rfl⟩
instance:fD Tryz.prog 87:=⟨by kernel_rfl,by kernel_rfl⟩
instance:bj Tryz.prog 87 91 3:=⟨by kernel_rfl,by kernel_rfl⟩
instance:ct Tryz.prog 89 (.agg #[.slice none 0 0,.int .i64 0,.int .i64 0,.int .i64 0,.slice none 0 0,.slice none 0 0]) 6 96:=⟨by kernel_rfl,by kernel_rfl,by decide⟩
instance:fR Tryz.prog 89 6:=⟨by kernel_rfl,by kernel_rfl⟩
instance:bL Tryz.prog 89 0 0 61:=⟨by kernel_rfl,by kernel_rfl⟩
instance:bL Tryz.prog 89 1 1 3:=⟨by kernel_rfl,by kernel_rfl⟩
instance:bL Tryz.prog 89 2 2 3:=⟨by kernel_rfl,by kernel_rfl⟩
instance:bL Tryz.prog 89 3 3 3:=⟨by kernel_rfl,by kernel_rfl⟩
instance:bL Tryz.prog 89 4 4 87:=⟨by kernel_rfl,by kernel_rfl⟩
instance:bL Tryz.prog 89 5 5 36:=⟨by kernel_rfl,by kernel_rfl⟩
instance:ct Tryz.prog 91 (.agg #[.int .i64 0,.int .i64 0,.int .i64 0]) 3 24:=⟨by kernel_rfl,by kernel_rfl,by decide⟩
instance:fR Tryz.prog 91 3:=⟨by kernel_rfl,by kernel_rfl⟩
instance:iR Tryz.prog 91 [(0,1),(1,1),(2,1)] [.int .i64 0,.int .i64 0,.int .i64 0]:=⟨by kernel_rfl,by kernel_rfl⟩
instance:oQ Tryz.prog 91 3:=⟨by kernel_rfl,by kernel_rfl,by kernel_rfl,by kernel_rfl⟩
instance:bL Tryz.prog 91 0 0 3:=⟨by kernel_rfl,by kernel_rfl⟩
instance:bL Tryz.prog 91 1 1 3:=⟨by kernel_rfl,by kernel_rfl⟩
instance:bL Tryz.prog 91 2 2 3:=⟨by kernel_rfl,by kernel_rfl⟩
instance:vq Tryz.prog 111 6 3 1:=⟨by kernel_rfl,by kernel_rfl⟩
instance:ct Tryz.prog 139 (.agg #[.int .i64 0,.int .i64 0,.slice none 0 0,.slice none 0 0]) 4 64:=⟨by kernel_rfl,by kernel_rfl,by decide⟩
instance:fR Tryz.prog 139 4:=⟨by kernel_rfl,by kernel_rfl⟩
instance:iR Tryz.prog 139 [(0,1),(1,1),(2,1),(3,1)] [.int .i64 0,.int .i64 0,.slice none 0 0,.slice none 0 0]:=⟨by kernel_rfl,by kernel_rfl⟩
instance:bL Tryz.prog 139 0 0 3:=⟨by kernel_rfl,by kernel_rfl⟩
instance:bL Tryz.prog 139 1 1 3:=⟨by kernel_rfl,by kernel_rfl⟩
instance:bL Tryz.prog 139 2 2 39:=⟨by kernel_rfl,by kernel_rfl⟩
instance:bL Tryz.prog 139 3 3 36:=⟨by kernel_rfl,by kernel_rfl⟩
instance:ct Tryz.prog 142 (.agg #[.int .i64 0,.int .i64 0,.int .i64 0,.slice none 0 0]) 4 48:=⟨by kernel_rfl,by kernel_rfl,by decide⟩
instance:fR Tryz.prog 142 4:=⟨by kernel_rfl,by kernel_rfl⟩
instance:iR Tryz.prog 142 [(0,1),(1,1),(2,1),(3,1)] [.int .i64 0,.int .i64 0,.int .i64 0,.slice none 0 0]:=⟨by kernel_rfl,by kernel_rfl⟩
instance:bL Tryz.prog 142 0 0 3:=⟨by kernel_rfl,by kernel_rfl⟩
instance:bL Tryz.prog 142 1 1 3:=⟨by kernel_rfl,by kernel_rfl⟩
instance:bL Tryz.prog 142 2 2 3:=⟨by kernel_rfl,by kernel_rfl⟩
instance:bL Tryz.prog 142 3 3 36:=⟨by kernel_rfl,by kernel_rfl⟩
instance:ct Tryz.prog 165 (.agg #[.int .i64 0,.int .i64 0,.int .i64 0]) 3 24:=⟨by kernel_rfl,by kernel_rfl,by decide⟩
instance:fR Tryz.prog 165 3:=⟨by kernel_rfl,by kernel_rfl⟩
instance:iR Tryz.prog 165 [(0,1),(1,1),(2,1)] [.int .i64 0,.int .i64 0,.int .i64 0]:=⟨by kernel_rfl,by kernel_rfl⟩
instance:oQ Tryz.prog 165 3:=⟨by kernel_rfl,by kernel_rfl,by kernel_rfl,by kernel_rfl⟩
instance:bL Tryz.prog 165 0 0 3:=⟨by kernel_rfl,by kernel_rfl⟩
instance:bL Tryz.prog 165 1 1 3:=⟨by kernel_rfl,by kernel_rfl⟩
instance:bL Tryz.prog 165 2 2 3:=⟨by kernel_rfl,by kernel_rfl⟩
instance:bj Tryz.prog 189 4 1:=⟨by kernel_rfl,by kernel_rfl⟩
instance:vq Tryz.prog 222 256 4 1:=⟨by kernel_rfl,by kernel_rfl⟩
instance:iR Tryz.prog 224 [(0,256),(256,1)] [.bool false,.bool false,.bool false,.bool false,.bool false,.bool false,.bool false,.bool false,.bool false,.bool false,.bool false,.bool false,.bool false,.bool false,.bool false,.bool false,.bool false,.bool false,.bool false,.bool false,.bool false,.bool false,.bool false,.bool false,.bool false,.bool false,.bool false,.bool false,.bool false,.bool false,.bool false,.bool false,.bool false,.bool false,.bool false,.bool false,.bool false,.bool false,.bool false,.bool false,.bool false,.bool false,.bool false,.bool false,.bool false,.bool false,.bool false,.bool false,.bool false,.bool false,.bool false,.bool false,.bool false,.bool false,.bool false,.bool false,.bool false,.bool false,.bool false,.bool false,.bool false,.bool false,.bool false,.bool false,.bool false,.bool false,.bool false,.bool false,.bool false,.bool false,.bool false,.bool false,.bool false,.bool false,.bool false,.bool false,.bool false,.bool false,.bool false,.bool false,.bool false,.bool false,.bool false,.bool false,.bool false,.bool false,.bool false,.bool false,.bool false,.bool false,.bool false,.bool false,.bool false,.bool false,.bool false,.bool false,.bool false,.bool false,.bool false,.bool false,.bool false,.bool false,.bool false,.bool false,.bool false,.bool false,.bool false,.bool false,.bool false,.bool false,.bool false,.bool false,.bool false,.bool false,.bool false,.bool false,.bool false,.bool false,.bool false,.bool false,.bool false,.bool false,.bool false,.bool false,.bool false,.bool false,.bool false,.bool false,.bool false,.bool false,.bool false,.bool false,.bool false,.bool false,.bool false,.bool false,.bool false,.bool false,.bool false,.bool false,.bool false,.bool false,.bool false,.bool false,.bool false,.bool false,.bool false,.bool false,.bool false,.bool false,.bool false,.bool false,.bool false,.bool false,.bool false,.bool false,.bool false,.bool false,.bool false,.bool false,.bool false,.bool false,.bool false,.bool false,.bool false,.bool false,.bool false,.bool false,.bool false,.bool false,.bool false,.bool false,.bool false,.bool false,.bool false,.bool false,.bool false,.bool false,.bool false,.bool false,.bool false,.bool false,.bool false,.bool false,.bool false,.bool false,.bool false,.bool false,.bool false,.bool false,.bool false,.bool false,.bool false,.bool false,.bool false,.bool false,.bool false,.bool false,.bool false,.bool false,.bool false,.bool false,.bool false,.bool false,.bool false,.bool false,.bool false,.bool false,.bool false,.bool false,.bool false,.bool false,.bool false,.bool false,.bool false,.bool false,.bool false,.bool false,.bool false,.bool false,.bool false,.bool false,.bool false,.bool false,.bool false,.bool false,.bool false,.bool false,.bool false,.bool false,.bool false,.bool false,.bool false,.bool false,.bool false,.bool false,.bool false,.bool false,.bool false,.bool false,.bool false,.bool false,.bool false,.bool false,.bool false,.bool false,.bool false,.bool false,.bool false,.bool false,.bool false,.bool false,.bool false,.bool false,.bool false,.bool false,.bool false]:=⟨by kernel_rfl,by kernel_rfl⟩
instance:bL Tryz.prog 224 0 0 222:=⟨by kernel_rfl,by kernel_rfl⟩
instance:bL Tryz.prog 224 1 256 4:=⟨by kernel_rfl,by kernel_rfl⟩
instance:bj Tryz.prog 229 5 1:=⟨by kernel_rfl,by kernel_rfl⟩
instance:Body Tryz.prog 20:=av Tryz.func20 (by kernel_rfl) (by kernel_rfl)
instance:Body Tryz.prog 21:=av Tryz.func21 (by kernel_rfl) (by kernel_rfl)
instance:Body Tryz.prog 22:=av Tryz.func22 (by kernel_rfl) (by kernel_rfl)
instance:Body Tryz.prog 23:=av Tryz.func23 (by kernel_rfl) (by kernel_rfl)
instance:Body Tryz.prog 36:=av Tryz.func36 (by kernel_rfl) (by kernel_rfl)
instance:Body Tryz.prog 39:=av Tryz.func39 (by kernel_rfl) (by kernel_rfl)
instance:Body Tryz.prog 40:=av Tryz.func40 (by kernel_rfl) (by kernel_rfl)
instance:Body Tryz.prog 41:=av Tryz.func41 (by kernel_rfl) (by kernel_rfl)
instance:Body Tryz.prog 42:=av Tryz.func42 (by kernel_rfl) (by kernel_rfl)
instance:Body Tryz.prog 43:=av Tryz.func43 (by kernel_rfl) (by kernel_rfl)
instance:Body Tryz.prog 44:=av Tryz.func44 (by kernel_rfl) (by kernel_rfl)
instance:Body Tryz.prog 45:=av Tryz.func45 (by kernel_rfl) (by kernel_rfl)
instance:Body Tryz.prog 46:=av Tryz.func46 (by kernel_rfl) (by kernel_rfl)
instance:Body Tryz.prog 47:=av Tryz.func47 (by kernel_rfl) (by kernel_rfl)
instance:Body Tryz.prog 48:=av Tryz.func48 (by kernel_rfl) (by kernel_rfl)
instance:Body Tryz.prog 49:=av Tryz.func49 (by kernel_rfl) (by kernel_rfl)
instance:Body Tryz.prog 50:=av Tryz.func50 (by kernel_rfl) (by kernel_rfl)
instance:Body Tryz.prog 51:=av Tryz.func51 (by kernel_rfl) (by kernel_rfl)
instance:Body Tryz.prog 52:=av Tryz.func52 (by kernel_rfl) (by kernel_rfl)
instance:Body Tryz.prog 53:=av Tryz.func53 (by kernel_rfl) (by kernel_rfl)
instance:Body Tryz.prog 54:=av Tryz.func54 (by kernel_rfl) (by kernel_rfl)
instance:Body Tryz.prog 59:=av Tryz.func59 (by kernel_rfl) (by kernel_rfl)
instance:Body Tryz.prog 64:=av Tryz.func64 (by kernel_rfl) (by kernel_rfl)
instance:Body Tryz.prog 69:=av Tryz.func69 (by kernel_rfl) (by kernel_rfl)
instance:Body Tryz.prog 82:=av Tryz.func82 (by kernel_rfl) (by kernel_rfl)
instance:Body Tryz.prog 83:=av Tryz.func83 (by kernel_rfl) (by kernel_rfl)
instance:Body Tryz.prog 84:=av Tryz.func84 (by kernel_rfl) (by kernel_rfl)
instance:Body Tryz.prog 85:=av Tryz.func85 (by kernel_rfl) (by kernel_rfl)
instance:Body Tryz.prog 86:=av Tryz.func86 (by kernel_rfl) (by kernel_rfl)
instance:Body Tryz.prog 87:=av Tryz.func87 (by kernel_rfl) (by kernel_rfl)
instance:Body Tryz.prog 88:=av Tryz.func88 (by kernel_rfl) (by kernel_rfl)
instance:Body Tryz.prog 89:=av Tryz.func89 (by kernel_rfl) (by kernel_rfl)
instance:Body Tryz.prog 90:=av Tryz.func90 (by kernel_rfl) (by kernel_rfl)
instance:Body Tryz.prog 91:=av Tryz.func91 (by kernel_rfl) (by kernel_rfl)
instance:Body Tryz.prog 92:=av Tryz.func92 (by kernel_rfl) (by kernel_rfl)
instance:Body Tryz.prog 93:=av Tryz.func93 (by kernel_rfl) (by kernel_rfl)
instance:Body Tryz.prog 94:=av Tryz.func94 (by kernel_rfl) (by kernel_rfl)
instance:Body Tryz.prog 95:=av Tryz.func95 (by kernel_rfl) (by kernel_rfl)
instance:Body Tryz.prog 96:=av Tryz.func96 (by kernel_rfl) (by kernel_rfl)
instance:Body Tryz.prog 97:=av Tryz.func97 (by kernel_rfl) (by kernel_rfl)
instance:Body Tryz.prog 98:=av Tryz.func98 (by kernel_rfl) (by kernel_rfl)
instance:Body Tryz.prog 99:=av Tryz.func99 (by kernel_rfl) (by kernel_rfl)
instance:Body Tryz.prog 100:=av Tryz.func100 (by kernel_rfl) (by kernel_rfl)
instance:Body Tryz.prog 101:=av Tryz.func101 (by kernel_rfl) (by kernel_rfl)
instance:Body Tryz.prog 102:=av Tryz.func102 (by kernel_rfl) (by kernel_rfl)
instance:Body Tryz.prog 103:=av Tryz.func103 (by kernel_rfl) (by kernel_rfl)
instance:Body Tryz.prog 104:=av Tryz.func104 (by kernel_rfl) (by kernel_rfl)
instance:Body Tryz.prog 105:=av Tryz.func105 (by kernel_rfl) (by kernel_rfl)
instance:Body Tryz.prog 106:=av Tryz.func106 (by kernel_rfl) (by kernel_rfl)
instance:Body Tryz.prog 107:=av Tryz.func107 (by kernel_rfl) (by kernel_rfl)
instance:Body Tryz.prog 108:=av Tryz.func108 (by kernel_rfl) (by kernel_rfl)
instance:Body Tryz.prog 109:=av Tryz.func109 (by kernel_rfl) (by kernel_rfl)
instance:Body Tryz.prog 110:=av Tryz.func110 (by kernel_rfl) (by kernel_rfl)
instance:Body Tryz.prog 111:=av Tryz.func111 (by kernel_rfl) (by kernel_rfl)
instance:Body Tryz.prog 112:=av Tryz.func112 (by kernel_rfl) (by kernel_rfl)
instance:Body Tryz.prog 113:=av Tryz.func113 (by kernel_rfl) (by kernel_rfl)
instance:Body Tryz.prog 114:=av Tryz.func114 (by kernel_rfl) (by kernel_rfl)
instance:Body Tryz.prog 115:=av Tryz.func115 (by kernel_rfl) (by kernel_rfl)
instance:Body Tryz.prog 116:=av Tryz.func116 (by kernel_rfl) (by kernel_rfl)
instance:Body Tryz.prog 117:=av Tryz.func117 (by kernel_rfl) (by kernel_rfl)
instance:Body Tryz.prog 118:=av Tryz.func118 (by kernel_rfl) (by kernel_rfl)
instance:Body Tryz.prog 119:=av Tryz.func119 (by kernel_rfl) (by kernel_rfl)
instance:Body Tryz.prog 120:=av Tryz.func120 (by kernel_rfl) (by kernel_rfl)
instance:Body Tryz.prog 121:=av Tryz.func121 (by kernel_rfl) (by kernel_rfl)
instance:Body Tryz.prog 122:=av Tryz.func122 (by kernel_rfl) (by kernel_rfl)
instance:Body Tryz.prog 123:=av Tryz.func123 (by kernel_rfl) (by kernel_rfl)
instance:Body Tryz.prog 124:=av Tryz.func124 (by kernel_rfl) (by kernel_rfl)
instance:Body Tryz.prog 125:=av Tryz.func125 (by kernel_rfl) (by kernel_rfl)
instance:Body Tryz.prog 126:=av Tryz.func126 (by kernel_rfl) (by kernel_rfl)
instance:Body Tryz.prog 127:=av Tryz.func127 (by kernel_rfl) (by kernel_rfl)
instance:Body Tryz.prog 128:=av Tryz.func128 (by kernel_rfl) (by kernel_rfl)
instance:Body Tryz.prog 129:=av Tryz.func129 (by kernel_rfl) (by kernel_rfl)
instance:Body Tryz.prog 130:=av Tryz.func130 (by kernel_rfl) (by kernel_rfl)
instance:Body Tryz.prog 134:=av Tryz.func134 (by kernel_rfl) (by kernel_rfl)
instance:Body Tryz.prog 136:=av Tryz.func136 (by kernel_rfl) (by kernel_rfl)
instance:Body Tryz.prog 137:=av Tryz.func137 (by kernel_rfl) (by kernel_rfl)
instance:Body Tryz.prog 141:=av Tryz.func141 (by kernel_rfl) (by kernel_rfl)
instance:Body Tryz.prog 142:=av Tryz.func142 (by kernel_rfl) (by kernel_rfl)
instance:Body Tryz.prog 148:=av Tryz.func148 (by kernel_rfl) (by kernel_rfl)
instance:Body Tryz.prog 149:=av Tryz.func149 (by kernel_rfl) (by kernel_rfl)
instance:Body Tryz.prog 150:=av Tryz.func150 (by kernel_rfl) (by kernel_rfl)
instance:Body Tryz.prog 155:=av Tryz.func155 (by kernel_rfl) (by kernel_rfl)
instance:Body Tryz.prog 160:=av Tryz.func160 (by kernel_rfl) (by kernel_rfl)
instance:Body Tryz.prog 161:=av Tryz.func161 (by kernel_rfl) (by kernel_rfl)
instance:Body Tryz.prog 174:=av Tryz.func174 (by kernel_rfl) (by kernel_rfl)
instance:Body Tryz.prog 175:=av Tryz.func175 (by kernel_rfl) (by kernel_rfl)
instance:Body Tryz.prog 176:=av Tryz.func176 (by kernel_rfl) (by kernel_rfl)
instance:Body Tryz.prog 177:=av Tryz.func177 (by kernel_rfl) (by kernel_rfl)
instance:Body Tryz.prog 178:=av Tryz.func178 (by kernel_rfl) (by kernel_rfl)
instance:Body Tryz.prog 179:=av Tryz.func179 (by kernel_rfl) (by kernel_rfl)
instance:Body Tryz.prog 180:=av Tryz.func180 (by kernel_rfl) (by kernel_rfl)
instance:Body Tryz.prog 181:=av Tryz.func181 (by kernel_rfl) (by kernel_rfl)
instance:Body Tryz.prog 182:=av Tryz.func182 (by kernel_rfl) (by kernel_rfl)
instance:Body Tryz.prog 183:=av Tryz.func183 (by kernel_rfl) (by kernel_rfl)
instance:Body Tryz.prog 184:=av Tryz.func184 (by kernel_rfl) (by kernel_rfl)
instance:Body Tryz.prog 185:=av Tryz.func185 (by kernel_rfl) (by kernel_rfl)
instance:Body Tryz.prog 186:=av Tryz.func186 (by kernel_rfl) (by kernel_rfl)
instance:Body Tryz.prog 187:=av Tryz.func187 (by kernel_rfl) (by kernel_rfl)
instance:Body Tryz.prog 188:=av Tryz.func188 (by kernel_rfl) (by kernel_rfl)
instance:Body Tryz.prog 189:=av Tryz.func189 (by kernel_rfl) (by kernel_rfl)
instance:Body Tryz.prog 190:=av Tryz.func190 (by kernel_rfl) (by kernel_rfl)
instance:Body Tryz.prog 191:=av Tryz.func191 (by kernel_rfl) (by kernel_rfl)
instance:Body Tryz.prog 192:=av Tryz.func192 (by kernel_rfl) (by kernel_rfl)
instance:Body Tryz.prog 193:=av Tryz.func193 (by kernel_rfl) (by kernel_rfl)
instance:Body Tryz.prog 194:=av Tryz.func194 (by kernel_rfl) (by kernel_rfl)
instance:Body Tryz.prog 195:=av Tryz.func195 (by kernel_rfl) (by kernel_rfl)
instance:Body Tryz.prog 196:=av Tryz.func196 (by kernel_rfl) (by kernel_rfl)
instance:Body Tryz.prog 197:=av Tryz.func197 (by kernel_rfl) (by kernel_rfl)
instance:Body Tryz.prog 198:=av Tryz.func198 (by kernel_rfl) (by kernel_rfl)
instance:Body Tryz.prog 199:=av Tryz.func199 (by kernel_rfl) (by kernel_rfl)
instance:Body Tryz.prog 200:=av Tryz.func200 (by kernel_rfl) (by kernel_rfl)
instance:Body Tryz.prog 201:=av Tryz.func201 (by kernel_rfl) (by kernel_rfl)
instance:Body Tryz.prog 204:=av Tryz.func204 (by kernel_rfl) (by kernel_rfl)
instance:Body Tryz.prog 209:=av Tryz.func209 (by kernel_rfl) (by kernel_rfl)
instance:Body Tryz.prog 211:=av Tryz.func211 (by kernel_rfl) (by kernel_rfl)
instance:Body Tryz.prog 226:=av Tryz.func226 (by kernel_rfl) (by kernel_rfl)
instance:Body Tryz.prog 228:=av Tryz.func228 (by kernel_rfl) (by kernel_rfl)
instance:Body Tryz.prog 229:=av Tryz.func229 (by kernel_rfl) (by kernel_rfl)
instance:Body Tryz.prog 230:=av Tryz.func230 (by kernel_rfl) (by kernel_rfl)
instance:Body Tryz.prog 231:=av Tryz.func231 (by kernel_rfl) (by kernel_rfl)
instance:Body Tryz.prog 232:=av Tryz.func232 (by kernel_rfl) (by kernel_rfl)
instance:Body Tryz.prog 233:=av Tryz.func233 (by kernel_rfl) (by kernel_rfl)
instance:Body Tryz.prog 234:=av Tryz.func234 (by kernel_rfl) (by kernel_rfl)
instance:Body Tryz.prog 237:=av Tryz.func237 (by kernel_rfl) (by kernel_rfl)
instance:Body Tryz.prog 241:=av Tryz.func241 (by kernel_rfl) (by kernel_rfl)
instance:Body Tryz.prog 249:=av Tryz.func249 (by kernel_rfl) (by kernel_rfl)
instance:Body Tryz.prog 254:=av Tryz.func254 (by kernel_rfl) (by kernel_rfl)
instance:Body Tryz.prog 255:=av Tryz.func255 (by kernel_rfl) (by kernel_rfl)
instance:Body Tryz.prog 258:=av Tryz.func258 (by kernel_rfl) (by kernel_rfl)
theorem mixed:Tryz.prog.follows .mixedOrders=true:=by kernel_rfl
structure Block where
 At:Int
 Order:Int
 Ty:Int
 deriving DecidableEq
structure ay where
 aR:Int
 To:Int
 ao:List Block
 Types:List Int
 deriving DecidableEq
structure aJ where
 dq:Int
 ay:Int
 Ty:Int
 aw:List Int
structure Heap where
 aI:List ay
 bE:List Int
 bt:Int
 ak:List aJ
 Live:List Block
structure Slab where
 At:Int
 ao:Int
 lf:Int
 deriving DecidableEq
open Go.RowKit
theorem ca (x lo hi:Int) (w:World) : a9 Tryz.prog 48 [.int .i64 x,.int .i64 lo,.int .i64 hi] w fun v _=>v = .bool (decide (lo≤x∧x≤hi)):=by
 refine aC Tryz.func48 rfl Tryz.ntmps48 rfl ?_;repeat' (first|refine Wz ?_|refine SW.dv rfl rfl rfl (fun h => ?_) (fun h => ?_))
 all_goals refine ae.aF rfl rfl ⟨_,rfl,Ext.refl _,?_⟩
 all_goals simp [*]
theorem fV (A B:Option Addr) (n m c d:Nat) (xs ys:List Int) (w:World) (hx:Sl w 1 bm A n xs) (hy:Sl w 1 bm B m ys) (hn:n≤2305843009213693952) :
 a9 Tryz.prog 53 [.slice A n c,.slice B m d] w fun v _=>v = .bool (decide (xs=ys)):=by
 refine aC Tryz.func53 rfl Tryz.ntmps53 rfl ?_;have hl:=hx.len;have um:=hy.len;have hA:=hx.base;have hB:=hy.base;have hw:=Ext.refl w;repeat' (first|refine Wz ?_|(refine CW.oE rfl (fun h => ?_) (fun h => ?_)))
 ·refine ae.aF rfl rfl ⟨_,rfl,hw,?_⟩;have:xs≠ys:=fun e=>by subst e;omega
  simp [this]
 ·have qg:n=m:=by omega
  refine CW.loop (fun k:Nat=>[(0,.slice A n c),(1,.slice B m d),(5,.int .i64 (k:Int))])
   (fun k w'=>k≤n∧Ext w w' ∧ ∀ j (h1:j<xs.length) (h2:j<ys.length),j<k→xs[j]=ys[j]) (fun k=>n-k) 0 ⟨rfl,rfl,rfl,trivial⟩ ⟨by omega,hw,fun j _ _ h=>by omega⟩ ?_
  clear hw;rintro k w' ⟨hk,hw,zE⟩
  by_cases cc:k<n
  ·repeat' (first|refine Wz ?_|(first|refine CW.oE rfl (fun h => ?_) (fun h => ?_)|(apply CW.aM mixed;(· kernel_rfl);rotate_left;intro w1 ab;replace hw:=Ext.trans hw ab;clear ab;rotate_right))|refine SW.st (ag hw rfl (hx.one cc rfl)) rfl ?_|refine SW.st (ag hw rfl (hy.one (qg ▸ cc) rfl)) rfl ?_|exact SW.br rfl)
   ·refine ae.aF rfl rfl ⟨_,rfl,hw,?_⟩;have:xs≠ys:=fun e=>by subst e;exact h rfl
    simp [this]
   ·refine ae.again (k+1) ⟨rfl,rfl,rfl,trivial⟩ (by omega) ⟨by omega,hw,fun j h1 h2 hj => ?_⟩;by_cases iB:j=k
    ·subst iB;assumption
    ·exact zE j h1 h2 (by omega)
  ·refine Wz ?_;refine ae.aF rfl rfl ⟨_,rfl,hw,?_⟩;have:xs=ys:=List.ext_getElem (by omega) fun j h1 h2=>zE j h1 h2 (by omega)
   simp [this]
open Go.RowKit
theorem ux (A:Option Addr) (n c:Nat) (x k:Int) (w:World) (hn:n≤2305843009213693952) : a9 Tryz.prog 161 [.slice A n c,.int .i64 x,.int .i64 k] w fun v _=>v = .bool (decide (0≤x∧0≤k∧k≤n∧x+k≤n)):=by
 refine aC Tryz.func161 rfl Tryz.ntmps161 rfl ?_;repeat' (first|refine Wz ?_|refine SW.dv rfl rfl rfl (fun h => ?_) (fun h => ?_))
 all_goals refine ae.aF rfl rfl ⟨_,rfl,Ext.refl _,?_⟩
 all_goals congr 1
 all_goals symm
 all_goals first|(refine decide_eq_true ?_;omega)|(refine decide_eq_false ?_;omega)|(rw [decide_eq_decide];omega)
theorem mT (A:Option Addr) (n c:Nat) (x k:Int) (w:World) (hn:n≤2305843009213693952) : a9 Tryz.prog 249 [.slice A n c,.int .i64 x,.int .i64 k] w fun v _=>v = .bool (decide (0≤x∧0≤k∧k≤n∧x+k≤n)):=by
 refine aC Tryz.func249 rfl Tryz.ntmps249 rfl ?_;have hw:=Ext.refl w;repeat' (first|refine Wz ?_|refine SW.dv rfl rfl rfl (fun h => ?_) (fun h => ?_)|(refine SW.call rfl rfl (ca _ _ _ _) ?_;intro v w1 ab hv;subst hv;replace hw:=Ext.trans hw ab;clear ab))
 all_goals refine ae.aF rfl rfl ⟨_,rfl,hw,?_⟩
 all_goals congr 1
 all_goals symm
 all_goals first|(refine decide_eq_true ?_;omega)|(refine decide_eq_false ?_;omega)|(rw [decide_eq_decide];omega)
def mU (w:World) (e sz:Nat) {α:Type} (enc : α → List Value) (n:Nat) (l:List α) : Value→World→Prop:=fun v w' => ∃ A c,v = .slice A n c∧Own w' w.heap.size e sz enc A n c l
theorem eH (A:Option Addr) (n c:Nat) (l:List Int) (w:World) (hl:Sl w 1 bm A n l) (hn:n*8≤140737488355328) : a9 Tryz.prog 39 [.slice A n c] w (mU w 3 1 bm n l):=by
 refine aC Tryz.func39 rfl Tryz.ntmps39 rfl ?_;have hw:=Ext.refl w;have hA:=hl.base;refine Wz ?_
 refine CW.loop (fun s:Nat×Option Addr×Nat=>[(0,.slice A n c),(3,.slice s.2.1 s.1 s.2.2),(4,.int .i64 (s.1:Int))])
  (fun s w'=>s.1≤n∧Ext w w'∧Own w' w.heap.size 3 1 bm s.2.1 s.1 s.2.2 (l.take s.1)) (fun s=>n-s.1) (0,none,0) ⟨rfl,rfl,rfl,trivial⟩ ⟨by omega,hw,by simpa using Own.er _ _ _ _ _ _⟩ ?_
 clear hw;rintro ⟨k,A1,c1⟩ w' ⟨hk,hw,hO⟩
 simp only at hk hO ⊢;by_cases cc:k<n
 ·repeat' (first|refine Wz ?_|refine SW.st (ag hw rfl (hl.one cc rfl)) rfl ?_)
  refine SW.bW rfl rfl rfl rfl rfl fun b w1 ab hb hB => ?_
  replace hw:=Ext.trans hw ab;replace hO:=hO.ext ab;refine SW.append hO (aU.kf (enc:=bm) hB) hw.size rfl rfl rfl (by omega) (by omega) fun A2 c2 w2 e8 hg => ?_
  replace hw:=aK hw hg (Nat.le_refl _) hO.aN;refine Wz ?_;refine ae.again (k+1,A2,c2) ⟨rfl,rfl,rfl,trivial⟩ (by simp only;omega) ⟨by simp only;omega,hw,?_⟩;rw [List.take_succ_eq_append_getElem (hl.lt cc)];exact e8
 ·refine Wz ?_;obtain rfl:k=n:=by omega
  refine ae.aF rfl rfl ⟨_,rfl,hw,A1,c1,rfl,?_⟩;rwa [List.take_of_length_le (by have:=hl.len;omega)] at hO
theorem dC (A:Option Addr) (n c:Nat) (l:List Int) (w:World) (hl:Sl w 1 bm A n l) (hn:n*8≤140737488355328) : a9 Tryz.prog 82 [.slice A n c] w (mU w 3 1 bm n l):=by
 refine aC Tryz.func82 rfl Tryz.ntmps82 rfl ?_;have hw:=Ext.refl w;refine Wz ?_;refine SW.st (l6 rfl rfl) rfl ?_;repeat' (first|refine Wz ?_|(refine CW.cond rfl (fun h => ?_) (fun h => ?_)))
 ·have vU:n=0:=by
   rcases Nat.eq_zero_or_pos n with h0|h0
   ·exact h0
   ·have:=hl.base h0;simp_all
  subst vU;have:l=[]:=List.eq_nil_of_length_eq_zero hl.len
  subst this;exact ae.aF rfl rfl ⟨_,rfl,hw,none,0,rfl,Own.er _ _ _ _ _ _⟩
 ·refine SW.ry rfl fun b w1 ab hb => ?_
  replace hw:=Ext.trans hw ab;refine Wz ?_;refine SW.oe (Nat.zero_add n) (List.nil_append l) (Own.er w1 w.heap.size _ _ bm (some ⟨b,0,none⟩)) (hl.ext hw) hw.size rfl rfl rfl (by omega) (by omega) fun A2 c2 w2 hO hg => ?_
  replace hw:=aK hw hg (Nat.le_refl _) (by simp [aX]);refine Wz ?_;exact ae.aF rfl rfl ⟨_,rfl,hw,A2,c2,rfl,hO⟩
open Go.RowKit
open Go.RowKit
open Go.RowKit
def aE (b:Block) : List Value:=[.int .i64 b.At,.int .i64 b.Order,.int .i64 b.Ty]
instance:fM aE 3:=⟨fun _=>rfl,fun r u hu=>by simp [aE] at hu;rcases hu with rfl|rfl|rfl<;>rfl⟩
def bB (b:Slab) : List Value:=[.int .i64 b.At,.int .i64 b.ao,.int .i64 b.lf]
instance:fM bB 3:=⟨fun _=>rfl,fun r u hu=>by simp [bB] at hu;rcases hu with rfl|rfl|rfl<;>rfl⟩
def Block.uy (r:Block) : List Int:=[r.At,r.Order,r.Ty]
theorem Block.xQ {r s:Block}:r.uy=s.uy↔r=s:=by cases r;cases s;simp [Block.uy]
theorem fW (A:Option Addr) (n c:Nat) (l:List Block) (w:World) (hl:Sl w 3 aE A n l) (hn:n*24≤140737488355328) : a9 Tryz.prog 174 [.slice A n c] w (mU w 165 3 aE n l):=by
 refine aC Tryz.func174 rfl Tryz.ntmps174 rfl ?_;have hw:=Ext.refl w;refine Wz ?_;refine SW.st (l6 rfl rfl) rfl ?_;repeat' (first|refine Wz ?_|(refine CW.cond rfl (fun h => ?_) (fun h => ?_)))
 ·have vU:n=0:=by
   rcases Nat.eq_zero_or_pos n with h0|h0
   ·exact h0
   ·have:=hl.base h0;simp_all
  subst vU;have:l=[]:=List.eq_nil_of_length_eq_zero hl.len
  subst this;exact ae.aF rfl rfl ⟨_,rfl,hw,none,0,rfl,Own.er _ _ _ _ _ _⟩
 ·refine SW.ry rfl fun b w1 ab hb => ?_
  replace hw:=Ext.trans hw ab;refine Wz ?_;refine SW.oe (Nat.zero_add n) (List.nil_append l) (Own.er w1 w.heap.size _ _ aE (some ⟨b,0,none⟩)) (hl.ext hw) hw.size rfl rfl rfl (by omega) (by omega) fun A2 c2 w2 hO hg => ?_
  replace hw:=aK hw hg (Nat.le_refl _) (by simp [aX]);refine Wz ?_;exact ae.aF rfl rfl ⟨_,rfl,hw,A2,c2,rfl,hO⟩
theorem jJ (A:Option Addr) (n c:Nat) (l:List Block) (w:World) (hl:Sl w 3 aE A n l) (hn:n*24≤140737488355328) : a9 Tryz.prog 86 [.slice A n c] w (mU w 165 3 aE n l):=by
 refine aC Tryz.func86 rfl Tryz.ntmps86 rfl ?_;have hw:=Ext.refl w;have hA:=hl.base;refine Wz ?_
 refine CW.loop (fun s:Nat×Option Addr×Nat=>[(0,.slice A n c),(3,.slice s.2.1 s.1 s.2.2),(4,.int .i64 (s.1:Int))])
  (fun s w'=>s.1≤n∧Ext w w'∧Own w' w.heap.size 165 3 aE s.2.1 s.1 s.2.2 (l.take s.1)) (fun s=>n-s.1) (0,none,0) ⟨rfl,rfl,rfl,trivial⟩ ⟨by omega,hw,by simpa using Own.er _ _ _ _ _ _⟩ ?_
 clear hw;rintro ⟨k,A1,c1⟩ w' ⟨hk,hw,hO⟩
 simp only at hk hO ⊢;by_cases cc:k<n
 ·repeat' (first|refine Wz ?_|refine SW.st (aA hw rfl rfl ((hl.all cc))) rfl ?_)
  refine SW.bW rfl rfl rfl rfl rfl fun b w1 ab hb hB => ?_
  replace hw:=Ext.trans hw ab;replace hO:=hO.ext ab;refine SW.append hO (aU.kf (enc:=aE) hB) hw.size rfl rfl rfl (by omega) (by omega) fun A2 c2 w2 e8 hg => ?_
  replace hw:=aK hw hg (Nat.le_refl _) hO.aN;refine Wz ?_;refine ae.again (k+1,A2,c2) ⟨rfl,rfl,rfl,trivial⟩ (by simp only;omega) ⟨by simp only;omega,hw,?_⟩;rw [List.take_succ_eq_append_getElem (hl.lt cc)];exact e8
 ·refine Wz ?_;obtain rfl:k=n:=by omega
  refine ae.aF rfl rfl ⟨_,rfl,hw,A1,c1,rfl,?_⟩;rwa [List.take_of_length_le (by have:=hl.len;omega)] at hO
theorem kg (A B:Option Addr) (n m c d:Nat) (xs ys:List Block) (w:World) (hx:Sl w 3 aE A n xs) (hy:Sl w 3 aE B m ys) (hn:n≤2305843009213693952) :
 a9 Tryz.prog 129 [.slice A n c,.slice B m d] w fun v _=>v = .bool (decide (xs=ys)):=by
 refine aC Tryz.func129 rfl Tryz.ntmps129 rfl ?_;have hl:=hx.len;have um:=hy.len;have hA:=hx.base;have hB:=hy.base;have hw:=Ext.refl w;repeat' (first|refine Wz ?_|(refine CW.oE rfl (fun h => ?_) (fun h => ?_)))
 ·refine ae.aF rfl rfl ⟨_,rfl,hw,?_⟩;have:xs≠ys:=fun e=>by subst e;omega
  simp [this]
 ·have qg:n=m:=by omega
  refine CW.loop (fun k:Nat=>[(0,.slice A n c),(1,.slice B m d),(5,.int .i64 (k:Int))])
   (fun k w'=>k≤n∧Ext w w' ∧ ∀ j (h1:j<xs.length) (h2:j<ys.length),j<k→xs[j]=ys[j]) (fun k=>n-k) 0 ⟨rfl,rfl,rfl,trivial⟩ ⟨by omega,hw,fun j _ _ h=>by omega⟩ ?_
  clear hw;rintro k w' ⟨hk,hw,zE⟩
  by_cases cc:k<n
  ·repeat' (first|refine Wz ?_|(first|refine CW.oE rfl (fun h => ?_) (fun h => ?_)|(apply CW.aM mixed;(· kernel_rfl);rotate_left;intro w1 ab;replace hw:=Ext.trans hw ab;clear ab;rotate_right))|refine SW.st (aA hw rfl rfl ((hx.all cc))) rfl ?_|refine SW.st (aA hw rfl rfl ((hy.all (qg ▸ cc)))) rfl ?_|(refine SW.st (xN (xs[k]'(hx.lt cc)).uy (ys[k]'(hy.lt (qg ▸ cc))).uy rfl rfl rfl rfl) rfl ?_)|exact SW.br rfl)
   ·refine ae.aF rfl rfl ⟨_,rfl,hw,?_⟩;have:xs≠ys:=fun e=>by subst e;exact h rfl
    simp [this]
   ·refine ae.again (k+1) ⟨rfl,rfl,rfl,trivial⟩ (by omega) ⟨by omega,hw,fun j h1 h2 hj => ?_⟩;by_cases iB:j=k
    ·subst iB;exact Block.xQ.1 (by assumption)
    ·exact zE j h1 h2 (by omega)
  ·refine Wz ?_;refine ae.aF rfl rfl ⟨_,rfl,hw,?_⟩
   have:xs=ys:=by
    apply List.ext_getElem (by omega);intro j h1 h2;exact zE j h1 h2 (by omega)
   simp [this]
def pw (o:Int) : Int:=2 ^ o.toNat
theorem kh {o:Int} (h0 : 0≤o) (h4:o≤4) : (o=0∧pw o=1)∨(o=1∧pw o=2)∨(o=2∧pw o=4)∨(o=3∧pw o=8)∨(o=4∧pw o=16):=by
 have:o=0∨o=1∨o=2∨o=3∨o=4:=by omega
 rcases this with rfl|rfl|rfl|rfl|rfl<;>decide
theorem cu {o:Int} (h0 : 0≤o) (h4:o≤4) : 1≤pw o∧pw o≤16:=by rcases kh h0 h4 with h|h|h|h|h<;>omega
theorem jK {o:Int} (h0 : 0≤o) (h4:o≤4) : pw (o+1)=2*pw o:=by
 have:o=0∨o=1∨o=2∨o=3∨o=4:=by omega
 rcases this with rfl|rfl|rfl|rfl|rfl<;>decide
def beside (a o:Int) : Int:=if a % (2*pw o)=0 then a+pw o else a-pw o
theorem mc:∀ a<256,∀ o<4,a % 2 ^ o=0→((a ^^^ 2 ^ o:Nat) : Int)=if (a:Int) % (2*2 ^ o)=0 then (a:Int)+2 ^ o else (a:Int)-2 ^ o:=by decide +kernel
theorem uz {a:Nat} {o:Int} (ha:a<256) (h0 : 0≤o) (h4:o<4) (h:(a:Int) % pw o=0) : ((a ^^^ 2 ^ o.toNat:Nat) : Int)=beside a o:=by
 have:o=0∨o=1∨o=2∨o=3:=by omega
 rcases this with rfl|rfl|rfl|rfl
 ·exact mc a ha 0 (by omega) (by simp only [pw] at h;omega)
 ·exact mc a ha 1 (by omega) (by
   rw [show pw 1=2 by decide] at h;simp;omega)
 ·exact mc a ha 2 (by omega) (by
   rw [show pw 2=4 by decide] at h;simp;omega)
 ·exact mc a ha 3 (by omega) (by
   rw [show pw 3=8 by decide] at h;simp;omega)
def dJ (f t a o:Int) : Prop:=0≤o∧o≤4∧f≤a∧a<t∧a % pw o=0
instance (f t a o:Int) : Decidable (dJ f t a o):=inferInstanceAs (Decidable (_∧_))
def j3 (t:Int) : Prop:=0≤t∧t≤2
instance (t:Int) : Decidable (j3 t):=inferInstanceAs (Decidable (_∧_))
def ji (a b:Block) : Prop:=a.At+pw a.Order≤b.At ∧ ¬ (b.Order<4∧a.Order=b.Order∧a.At=beside b.At b.Order)
instance (a b:Block) : Decidable (ji a b):=inferInstanceAs (Decidable (_∧_))
def dr (f t:Int) (b:Block) : Prop:=dJ f t b.At b.Order∧j3 b.Ty
instance (f t:Int) (b:Block) : Decidable (dr f t b):=inferInstanceAs (Decidable (_∧_))
def fX (f t:Int) : Prop:=0≤f∧f≤t∧t≤256∧f % 16=0∧t % 16=0
instance (f t:Int) : Decidable (fX f t):=inferInstanceAs (Decidable (_∧_))
structure cb (z:ay) : Prop where
 ok:fX z.aR z.To
 len : 8*(z.Types.length:Int)=z.To-z.aR
 types:∀ t∈z.Types,j3 t
 gd:∀ (i:Nat) (h:i<z.ao.length),dr z.aR z.To z.ao[i]
 next:∀ (i:Nat) (h:i+1<z.ao.length),ji z.ao[i] z.ao[i+1]
noncomputable def fa (z:ay) : Bool := @decide (cb z) (Classical.propDecidable _)
theorem me {z:ay} (h:cb z) : fa z=true:=by unfold fa;exact @decide_eq_true _ (Classical.propDecidable _) h
theorem fc {z:ay} (h : ¬ cb z) : fa z=false:=by unfold fa;exact @decide_eq_false _ (Classical.propDecidable _) h
theorem dz {z:ay}:fa z=true↔cb z:=by
 by_cases h:cb z
 ·simp [me h,h]
 ·simp [fc h,h]
theorem xR {f t:Int} {a b:Block} (ha:dr f t a) (hb:dr f t b) (h:a.At+pw a.Order≤b.At) :
 (b.Order<4∧a.Order=b.Order∧a.At=beside b.At b.Order)↔(b.Order<4∧a.Order=b.Order∧a.At+pw b.Order=b.At∧a.At % pw (b.Order+1)=0):=by
 obtain ⟨⟨h1,h2,h3,h4,h5⟩,_⟩:=ha;obtain ⟨⟨g1,g2,g3,g4,g5⟩,_⟩:=hb;rw [jK g1 g2];unfold beside;constructor
 ·rintro ⟨e1,e2,e3⟩
  refine ⟨e1,e2,?_⟩;rw [e2] at h5 h;have hp:=kh g1 g2;generalize pw b.Order=q at *
  rcases hp with ⟨e,rfl⟩|⟨e,rfl⟩|⟨e,rfl⟩|⟨e,rfl⟩|⟨e,rfl⟩<;>split at e3<;>omega
 ·rintro ⟨e1,e2,e3,e4⟩
  refine ⟨e1,e2,?_⟩;rw [e2] at h5 h;have hp:=kh g1 g2;generalize pw b.Order=q at *
  rcases hp with ⟨e,rfl⟩|⟨e,rfl⟩|⟨e,rfl⟩|⟨e,rfl⟩|⟨e,rfl⟩<;>split<;>omega
def idxOf {α:Type} (p : α → Bool) (l:List α) : Int:=if l.any p then (l.findIdx p:Int) else -1
theorem ol {z:ay} {a:Int} (hz:cb z) (h1:z.aR≤a) (h2:a<z.To) : ∃ k:Nat,(a-z.aR) / 8=k∧k<z.Types.length:=by
 have:=hz.len
 exact ⟨((a-z.aR) / 8).toNat,by omega,by omega⟩
open Go.RowKit
structure fe where
 A:Option Addr
 n:Nat
 c:Nat
def fe.v (s:fe) : Value := .slice s.A s.n s.c
def fe.nil:fe:=⟨none,0,0⟩
structure cJ where
 aR:Int
 To:Int
 ao:fe
 Types:fe
def cd (z:cJ) : List Value:=[.int .i64 z.aR,.int .i64 z.To,z.ao.v,z.Types.v]
instance:fM cd 4:=⟨fun _=>rfl,fun r u hu=>by simp [cd,fe.v] at hu;rcases hu with rfl|rfl|rfl|rfl<;>rfl⟩
theorem dh (r:cJ) : ∀ v∈cd r,v.oneCell'=true:=fM.one (enc:=cd) r
structure p7 (w:World) (r:cJ) (z:ay) : Prop where
 from_:r.aR=z.aR
 jF:r.To=z.To
 free:Sl w 3 aE r.ao.A r.ao.n z.ao
 types:Sl w 1 bm r.Types.A r.Types.n z.Types
structure eV (w:World) (lo:Nat) (r:cJ) (z:ay) : Prop where
 from_:r.aR=z.aR
 jF:r.To=z.To
 free:Own w lo 165 3 aE r.ao.A r.ao.n r.ao.c z.ao
 types:Own w lo 3 1 bm r.Types.A r.Types.n r.Types.c z.Types
theorem p7.ext {w w':World} {r:cJ} {z:ay} (h:p7 w r z) (hx:Ext w w') : p7 w' r z:=⟨h.from_,h.jF,h.free.ext hx,h.types.ext hx⟩
theorem eV.ext {w w':World} {lo:Nat} {r:cJ} {z:ay} (h:eV w lo r z) (hx:Ext w w') : eV w' lo r z:=⟨h.from_,h.jF,h.free.ext hx,h.types.ext hx⟩
theorem eV.low {w:World} {lo jW:Nat} {r:cJ} {z:ay} (h:eV w lo r z) (hl:jW≤lo) : eV w jW r z:=⟨h.from_,h.jF,h.free.low hl,h.types.low hl⟩
theorem eV.rd {w:World} {lo:Nat} {r:cJ} {z:ay} (h:eV w lo r z) : p7 w r z:=⟨h.from_,h.jF,h.free.sl,h.types.sl⟩
theorem eV.gd {w w':World} {lo b t:Nat} {r:cJ} {z:ay} {cs:List Value} (h:eV w lo r z) (hB:aU w b t cs) (hg:w.grownBy w' (some b)) (h1:Nat.beq t 165=false) (h2:Nat.beq t 3=false) : eV w' lo r z :=
 ⟨h.from_,h.jF,h.free.grown hg (.inr (h.free.cq hB h1)),h.types.grown hg (.inr (h.types.cq hB h2))⟩
def ay.zero:ay:=⟨0,0,[],[]⟩
def cJ.zero:cJ:=⟨0,0,.nil,.nil⟩
theorem eV.zero (w:World) (lo:Nat) : eV w lo .zero .zero:=⟨rfl,rfl,Own.er _ _ _ _ _ _,Own.er _ _ _ _ _ _⟩
theorem rF (r s:cJ) (a b:ay) (w:World) (ha:p7 w r a) (hb:p7 w s b) (hn:r.ao.n≤2305843009213693952) (hm:r.Types.n≤2305843009213693952) :
 a9 Tryz.prog 130 [.agg (cd r).toArray,.agg (cd s).toArray] w fun v _=>v = .bool (decide (a=b)):=by
 refine aC Tryz.func130 rfl Tryz.ntmps130 rfl ?_;have e1:=ha.from_;have e2:=ha.jF;have e3:=hb.from_;have e4:=hb.jF;refine CW.seq (CW.region (SW.box rfl rfl fun b1 w1 hw au hB => ?_));refine SW.box rfl rfl fun b2 w2 cg ax uf => ?_
 replace hw:=Ext.trans hw cg;replace hB:=hB.ext cg;repeat' (first|refine Wz ?_|refine SW.dv rfl rfl rfl (fun h => ?_) (fun h => ?_)|((first|refine SW.call rfl rfl (kg _ _ _ _ _ _ _ _ _ (ha.free.ext hw) (hb.free.ext hw) hn) ?_|refine SW.call rfl rfl (fV _ _ _ _ _ _ _ _ _ (ha.types.ext hw) (hb.types.ext hw) hm) ?_);intro v w1 ab hv;subst hv;replace hw:=Ext.trans hw ab;replace hB:=hB.ext ab;replace uf:=uf.ext ab;clear ab))
 all_goals refine ae.aF rfl rfl ⟨_,rfl,hw,?_⟩
 all_goals obtain ⟨a1,a2,a3,a4⟩:=a
 all_goals obtain ⟨b1,b2,b3,b4⟩:=b
 all_goals simp_all
theorem qL (r:cJ) (z:ay) (w:World) (hr:p7 w r z) (hn:r.ao.n*24≤140737488355328) (hm:r.Types.n*8≤140737488355328) :
 a9 Tryz.prog 175 [.agg (cd r).toArray] w fun v w' => ∃ s,v = .agg (cd s).toArray∧eV w' w.heap.size s z∧s.ao.n=r.ao.n∧s.Types.n=r.Types.n:=by
 refine aC Tryz.func175 rfl Tryz.ntmps175 rfl ?_;refine CW.seq (CW.region (SW.box rfl rfl fun b w1 hw hb hB => ?_));refine SW.alloc rfl fun b2 w2 cg ax uf => ?_
 have oT:w.heap.size≤b2:=Nat.le_trans hw.size ax
 have cQ:b2≠b:=by have:=hB.lt;omega
 replace hw:=Ext.trans hw cg;replace hB:=hB.ext cg;have Al:=hb;refine Wz ?_;refine CW.any 7 mixed (bZ (by kernel_rfl)) rfl fun w1 ab bd => ?_
 replace hw:=Ext.trans hw ab;replace hB:=hB.ext ab;replace uf:=uf.ext ab;clear ab;refine Wa ?_;refine SA.one 2 rfl (by kernel_rfl) rfl ?_;refine SW.call rfl rfl (fW _ _ _ _ _ (hr.free.ext hw) hn) fun v w4 ai hv => ?_
 obtain ⟨X,c4,rfl,hX⟩:=hv;replace hX:=hX.low hw.size;replace hw:=Ext.trans hw ai;replace hB:=hB.ext ai;replace uf:=uf.ext ai;refine SW.nil (ae.sa ai ?_);refine Wa ?_;refine SA.one 5 rfl (by kernel_rfl) rfl ?_;refine SW.call rfl rfl (dC _ _ _ _ _ (hr.types.ext hw) hm) fun v w4 ai hv => ?_
 obtain ⟨Y,d4,rfl,hY⟩:=hv;replace hY:=hY.low hw.size;replace hX:=hX.ext ai;replace hw:=Ext.trans hw ai;replace hB:=hB.ext ai;replace uf:=uf.ext ai;refine SW.nil (ae.sa ai ?_);refine SA.done (by kernel_rfl) ?_;skip;refine SW.bT (i:=2) hB rfl rfl rfl rfl fun w5 nU hg => ?_
 replace hw:=hw.own Al hg;replace hX:=hX.grown hg (.inr (hX.cq hB rfl));replace hY:=hY.grown hg (.inr (hY.cq hB rfl));replace uf:=uf.grown hg (by simpa using cQ);refine Wz ?_;refine SW.bT (i:=3) nU rfl rfl rfl rfl fun w6 EC hg => ?_
 replace hw:=hw.own Al hg;replace hX:=hX.grown hg (.inr (hX.cq nU rfl));replace hY:=hY.grown hg (.inr (hY.cq nU rfl));replace uf:=uf.grown hg (by simpa using cQ);repeat' (first|refine Wz ?_|refine SW.st (aS rfl rfl ((fun _ _=>EC.cell))) rfl ?_)
 refine SW.aj uf rfl rfl rfl rfl (dh ⟨r.aR,r.To,⟨X,r.ao.n,c4⟩,⟨Y,r.Types.n,d4⟩⟩) fun w7 bV hg => ?_
 replace hw:=hw.own oT hg;replace hX:=hX.grown hg (.inr (hX.cq uf rfl));replace hY:=hY.grown hg (.inr (hY.cq uf rfl));refine Wz ?_;exact ae.jY rfl rfl bV rfl ⟨_,rfl,hw,⟨r.aR,r.To,⟨X,r.ao.n,c4⟩,⟨Y,r.Types.n,d4⟩⟩,rfl,⟨hr.from_,hr.jF,hX,hY⟩,rfl,rfl⟩
def mf (f t:Int) : Int×ay:=if fX f t then (0,⟨f,t,[],List.replicate ((t-f) / 8).toNat 1⟩) else (1,.zero)
def om (lo:Nat) (r:Int×ay) (v:Value) (w:World) : Prop := ∃ s:cJ,v = .tuple #[.agg (cd s).toArray,.int .i64 r.1]∧eV w lo s r.2
theorem jL {f t:Int} (h : ¬ fX f t) : mf f t=(1,.zero):=if_neg h
theorem jM {f t:Int} (h:fX f t) : mf f t=(0,⟨f,t,[],List.replicate ((t-f) / 8).toNat 1⟩):=if_pos h
theorem ki {x:Int} (h : 0≤x) : x.tmod 16=x % 16:=Int.tmod_eq_emod_of_nonneg h
theorem zJ (k i:Nat) (h:i<k) : (List.replicate i (1:Int)++List.replicate (k-i) 0).set i 1=List.replicate (i+1) 1++List.replicate (k-(i+1)) 0:=by
 apply List.ext_getElem (by simp;omega);intro j h1 h2;rw [List.getElem_set];by_cases hj:i=j
 ·subst hj;simp
 ·simp only [hj,if_false,List.getElem_append,List.length_replicate,List.getElem_replicate];by_cases h3:j<i
  ·simp [h3,show j<i+1 by omega]
  ·simp [h3,show ¬ j<i+1 by omega]
theorem xS (f t:Int) (w:World) (hf : -9223372036854775808≤f∧f≤9223372036854775807) (ht : -9223372036854775808≤t∧t≤9223372036854775807) : a9 Tryz.prog 134 [.int .i64 f,.int .i64 t] w (om w.heap.size (mf f t)):=by
 refine aC Tryz.func134 rfl Tryz.ntmps134 rfl ?_;refine CW.seq (CW.region (SW.alloc rfl fun b4 w1 hw iL bA => ?_));have nV:=iL;by_cases mg:fX f t
 ·obtain ⟨h1,h2,h3,h4,h5⟩:=id mg;have m1:=ki h1;have m2:=ki (show 0≤t by omega);rw [jM mg];obtain ⟨k,hk⟩ : ∃ k:Nat,(t-f) / 8=k:=⟨((t-f) / 8).toNat,by omega⟩;refine Wz ?_;refine SW.make (enc:=bm) (k:=k) 0 rfl rfl (by omega) (by omega) (by omega) rfl fun A c w2 cg hO => ?_
  replace hO:=hO.low hw.size;(replace hw:=Ext.trans hw cg;replace bA:=bA.ext cg);refine Wz ?_;refine SW.alloc rfl fun b6 w1 ab eJ aB => ?_
  have cX:w.heap.size≤b6:=Nat.le_trans hw.size eJ
  have rG:b4≠b6:=by have:=bA.lt;omega
  replace hw:=Ext.trans hw ab;replace bA:=bA.ext ab;replace hO:=hO.ext ab;refine SW.aj aB rfl rfl rfl rfl (dh ⟨f,t,.nil,⟨A,k,c⟩⟩) fun w2 gg hg => ?_
  replace hw:=hw.own cX hg;replace hO:=hO.grown hg (.inr (hO.cq aB rfl));replace bA:=bA.grown hg (by simpa using rG);replace aB:=gg;clear gg ab hg eJ;have hA:=hO.sl.base;refine Wz ?_
  refine CW.loop (fun i:Nat=>[(4,.pointer (some ⟨b4,0,none⟩)),(6,.pointer (some ⟨b6,0,none⟩)),(40,.int .i64 (k:Int)),(41,.int .i64 (i:Int))])
   (fun i w'=>i≤k∧Ext w w'∧aU w' b4 139 (cd .zero)∧aU w' b6 139 (cd ⟨f,t,.nil,⟨A,k,c⟩⟩)∧Own w' w.heap.size 3 1 bm A k c (List.replicate i 1++List.replicate (k-i) 0)) (fun i=>k-i) 0
   ⟨rfl,rfl,rfl,rfl,trivial⟩ ⟨by omega,hw,bA,aB,by simpa using hO⟩ ?_
  clear hw bA aB hO;rintro i w' ⟨hi,hw,bA,aB,hO⟩
  have hA:=hO.sl.base;by_cases vx:i<k
  ·refine Wz ?_;refine SW.uv i hO rfl rfl vx fun w3 Cl hg => ?_
   replace hw:=aK hw hg (Nat.le_refl _) hO.aN;replace bA:=bA.grown hg (fun e=>hO.cq bA rfl e.symm);replace aB:=aB.grown hg (fun e=>hO.cq aB rfl e.symm);rw [zJ k i vx] at Cl;refine Wz ?_;exact ae.again (i+1) ⟨rfl,rfl,rfl,rfl,trivial⟩ (by omega) ⟨by omega,hw,bA,aB,Cl⟩
  ·obtain rfl:i=k:=by omega
   simp only [Nat.sub_self,List.replicate_zero,List.append_nil] at hO;refine Wz ?_;refine SW.aj bA rfl rfl rfl rfl (dh ⟨f,t,.nil,⟨A,i,c⟩⟩) fun w5 bV hg => ?_
   replace hw:=hw.own nV hg;replace hO:=hO.grown hg (.inr (hO.cq bA rfl));refine Wz ?_;refine ae.bQ rfl rfl rfl bV rfl ⟨_,rfl,hw,⟨f,t,.nil,⟨A,i,c⟩⟩,rfl,rfl,rfl,Own.er _ _ _ _ _ _,?_⟩;simp only [hk,Int.toNat_natCast];exact hO
 ·rw [jL mg];unfold fX at mg;have m1:=fun h => @ki f h
  have m2:=fun h => @ki t h
  by_cases h1 : 0≤f
  ·have m1:=m1 h1;by_cases h2:f≤t
   ·have m2:=m2 (by omega);repeat' (first|refine Wz ?_|refine SW.dv rfl rfl rfl (fun h => ?_) (fun h => ?_)|refine SW.oC rfl rfl rfl (fun h => ?_) (fun h => ?_))
    all_goals
     first
      | (exfalso;omega)
      | (refine SW.aj bA rfl rfl rfl rfl (dh .zero) fun w5 bV hg => ?_
         replace hw:=hw.own nV hg;refine Wz ?_;exact ae.bQ rfl rfl rfl bV rfl ⟨_,rfl,hw,.zero,rfl,eV.zero _ _⟩)
   ·repeat' (first|refine Wz ?_|refine SW.dv rfl rfl rfl (fun h => ?_) (fun h => ?_))
    all_goals
     refine SW.aj bA rfl rfl rfl rfl (dh .zero) fun w5 bV hg => ?_
     replace hw:=hw.own nV hg;refine Wz ?_;exact ae.bQ rfl rfl rfl bV rfl ⟨_,rfl,hw,.zero,rfl,eV.zero _ _⟩
  ·refine Wz ?_
   all_goals
    refine SW.aj bA rfl rfl rfl rfl (dh .zero) fun w5 bV hg => ?_
    replace hw:=hw.own nV hg;refine Wz ?_;exact ae.bQ rfl rfl rfl bV rfl ⟨_,rfl,hw,.zero,rfl,eV.zero _ _⟩
open Go.RowKit
def oo (w w':World) (t:TypeId) : Prop := ∃ row,w.grownBy w' row ∧ ∀ k,row=some k → ∃ cs,w.heap[k]?=some (.cells cs t (0,0))
theorem Own.gr {α:Type} {w w':World} {lo:Nat} {e:TypeId} {sz:Nat} {enc : α → List Value} {A:Option Addr} {n c:Nat} {l:List α} (h:Own w lo e sz enc A n c l) (hg:w.grownBy w' (aX A c)) : oo w w' e:=by
 refine ⟨_,hg,fun k hk => ?_⟩;rcases h.row with ⟨_,rfl⟩|⟨hc,g,fk,rfl,_,h2,_⟩
 ·simp [aX] at hk
 ·simp [aX,Nat.pos_iff_ne_zero.1 hc] at hk;subst hk;exact ⟨fk,h2⟩
theorem aU.gr {w w':World} {b:Nat} {t:TypeId} {cs:List Value} (h:aU w b t cs) (hg:w.grownBy w' (some b)) : oo w w' t:=⟨_,hg,fun k hk=>by cases hk;exact ⟨_,h⟩⟩
theorem Own.aD {α:Type} {w w':World} {t lo:Nat} {e:TypeId} {sz:Nat} {enc : α → List Value} {A:Option Addr} {n c:Nat} {l:List α} (h:Own w lo e sz enc A n c l) (hG:oo w w' t) (cQ:Nat.beq t e=false) : Own w' lo e sz enc A n c l:=by
 obtain ⟨row,hg,hr⟩:=hG;refine h.grown hg ?_;rcases h.row with ⟨_,rfl⟩|⟨hc,g,fk,rfl,_,h2,_⟩
 ·simp [aX]
 ·right;rintro rfl;obtain ⟨cs,h3⟩:=hr g (by simp [aX,Nat.pos_iff_ne_zero.1 hc]);rw [h2] at h3;injection h3 with h3
  injection h3 with _ h _
  subst h;simp at cQ
theorem aU.aD {w w':World} {b t:Nat} {t':TypeId} {cs:List Value} (h:aU w b t' cs) (hG:oo w w' t) (cQ:Nat.beq t t'=false) : aU w' b t' cs:=by
 obtain ⟨row,hg,hr⟩:=hG;refine h.grown hg ?_;rintro rfl;obtain ⟨cs,h3⟩:=hr b rfl;unfold aU at h;rw [h] at h3;injection h3 with h3
 injection h3 with _ h _
 subst h;simp at cQ
theorem Own.lt_size {α:Type} {w:World} {lo:Nat} {e:TypeId} {sz:Nat} {enc : α → List Value} {A:Option Addr} {n c:Nat} {l:List α} (h:Own w lo e sz enc A n c l) : ∀ k,aX A c=some k→k<w.heap.size:=by
 intro k hk;rcases h.row with ⟨_,rfl⟩|⟨hc,g,fk,rfl,_,h2,_⟩
 ·simp [aX] at hk
 ·simp [aX,Nat.pos_iff_ne_zero.1 hc] at hk;subst hk;exact (Array.getElem?_eq_some_iff.1 h2).1
structure dQ {α β:Type} (R : α → β → Prop) (xs:List α) (ys:List β) : Prop where
 len:xs.length=ys.length
 get:∀ (i:Nat) (h1:i<xs.length) (h2:i<ys.length),R xs[i] ys[i]
theorem dQ.mono {α β:Type} {R R' : α → β → Prop} {xs:List α} {ys:List β} (h:dQ R xs ys) (hm:∀ a b,R a b→R' a b) : dQ R' xs ys:=⟨h.len,fun i h1 h2=>hm _ _ (h.get i h1 h2)⟩
theorem dQ.nil {α β:Type} {R : α → β → Prop}:dQ R ([] : List α) ([] : List β):=⟨rfl,fun i h1 h2=>by simp at h1⟩
theorem dQ.snoc {α β:Type} {R : α → β → Prop} {xs:List α} {ys:List β} (h:dQ R xs ys) {x : α} {y : β} (hr:R x y) : dQ R (xs++[x]) (ys++[y]):=by
 refine ⟨by simp [h.len],fun i h1 h2 => ?_⟩;have hl:=h.len;by_cases hi:i<xs.length
 ·rw [List.getElem_append_left hi,List.getElem_append_left (by omega)];exact h.get i hi (by omega)
 ·have e:i=xs.length:=by simp at h1;omega
  subst e;simp [hl];exact hr
structure bP where
 dq:Int
 ay:Int
 Ty:Int
 aw:fe
def bg (r:bP) : List Value:=[.int .i64 r.dq,.int .i64 r.ay,.int .i64 r.Ty,r.aw.v]
instance:fM bg 4:=⟨fun _=>rfl,fun r u hu=>by simp [bg,fe.v] at hu;rcases hu with rfl|rfl|rfl|rfl<;>rfl⟩
structure eu where
 aI:fe
 bE:fe
 bt:Int
 ak:fe
 Live:fe
def bl (r:eu) : List Value:=[r.aI.v,r.bE.v,.int .i64 r.bt,r.ak.v,r.Live.v]
instance:fM bl 5:=⟨fun _=>rfl,fun r u hu=>by simp [bl,fe.v] at hu;rcases hu with rfl|rfl|rfl|rfl|rfl<;>rfl⟩
def eu.zero:eu:=⟨.nil,.nil,0,.nil,.nil⟩
def Heap.zero:Heap:=⟨[],[],0,[],[]⟩
structure Am (w:World) (r:bP) (l:aJ) : Prop where
 cpu:r.dq=l.dq
 fL:r.ay=l.ay
 ty:r.Ty=l.Ty
 cw:Sl w 1 bm r.aw.A r.aw.n l.aw
structure j4 (w:World) (lo:Nat) (r:bP) (l:aJ) : Prop where
 cpu:r.dq=l.dq
 fL:r.ay=l.ay
 ty:r.Ty=l.Ty
 cw:Own w lo 3 1 bm r.aw.A r.aw.n r.aw.c l.aw
theorem Am.ext {w w':World} {r:bP} {l:aJ} (h:Am w r l) (hx:Ext w w') : Am w' r l:=⟨h.cpu,h.fL,h.ty,h.cw.ext hx⟩
theorem j4.ext {w w':World} {lo:Nat} {r:bP} {l:aJ} (h:j4 w lo r l) (hx:Ext w w') : j4 w' lo r l:=⟨h.cpu,h.fL,h.ty,h.cw.ext hx⟩
theorem j4.low {w:World} {lo jW:Nat} {r:bP} {l:aJ} (h:j4 w lo r l) (hl:jW≤lo) : j4 w jW r l:=⟨h.cpu,h.fL,h.ty,h.cw.low hl⟩
theorem j4.rd {w:World} {lo:Nat} {r:bP} {l:aJ} (h:j4 w lo r l) : Am w r l:=⟨h.cpu,h.fL,h.ty,h.cw.sl⟩
theorem j4.aD {w w':World} {t lo:Nat} {r:bP} {l:aJ} (h:j4 w lo r l) (hG:oo w w' t) (cQ:Nat.beq t 3=false) : j4 w' lo r l:=⟨h.cpu,h.fL,h.ty,h.cw.aD hG cQ⟩
theorem eV.aD {w w':World} {t lo:Nat} {r:cJ} {z:ay} (h:eV w lo r z) (hG:oo w w' t) (cQ:(Nat.beq t 3 || Nat.beq t 165)=false) : eV w' lo r z:=by
 simp only [Bool.or_eq_false_iff] at cQ;exact ⟨h.from_,h.jF,h.free.aD hG cQ.2,h.types.aD hG cQ.1⟩
structure uA (w:World) (s:fe) (zs:List cJ) (l:List ay) : Prop where
 row:Sl w 4 cd s.A s.n zs
 each:dQ (p7 w) zs l
structure fb (w:World) (lo:Nat) (s:fe) (zs:List cJ) (l:List ay) : Prop where
 row:Own w lo 139 4 cd s.A s.n s.c zs
 each:dQ (eV w lo) zs l
structure oU (w:World) (s:fe) (ls:List bP) (l:List aJ) : Prop where
 row:Sl w 4 bg s.A s.n ls
 each:dQ (Am w) ls l
structure c8 (w:World) (lo:Nat) (s:fe) (ls:List bP) (l:List aJ) : Prop where
 row:Own w lo 142 4 bg s.A s.n s.c ls
 each:dQ (j4 w lo) ls l
section
variable {w w':World} {lo jW t:Nat} {s:fe} {zs:List cJ} {z:List ay} {ls:List bP} {l:List aJ}
theorem uA.ext (h:uA w s zs z) (hx:Ext w w') : uA w' s zs z:=⟨h.row.ext hx,h.each.mono fun _ _ h=>h.ext hx⟩
theorem oU.ext (h:oU w s ls l) (hx:Ext w w') : oU w' s ls l:=⟨h.row.ext hx,h.each.mono fun _ _ h=>h.ext hx⟩
theorem fb.ext (h:fb w lo s zs z) (hx:Ext w w') : fb w' lo s zs z:=⟨h.row.ext hx,h.each.mono fun _ _ h=>h.ext hx⟩
theorem c8.ext (h:c8 w lo s ls l) (hx:Ext w w') : c8 w' lo s ls l:=⟨h.row.ext hx,h.each.mono fun _ _ h=>h.ext hx⟩
theorem fb.low (h:fb w lo s zs z) (hl:jW≤lo) : fb w jW s zs z:=⟨h.row.low hl,h.each.mono fun _ _ h=>h.low hl⟩
theorem c8.low (h:c8 w lo s ls l) (hl:jW≤lo) : c8 w jW s ls l:=⟨h.row.low hl,h.each.mono fun _ _ h=>h.low hl⟩
theorem fb.rd (h:fb w lo s zs z) : uA w s zs z:=⟨h.row.sl,h.each.mono fun _ _ h=>h.rd⟩
theorem c8.rd (h:c8 w lo s ls l) : oU w s ls l:=⟨h.row.sl,h.each.mono fun _ _ h=>h.rd⟩
theorem fb.aD (h:fb w lo s zs z) (hG:oo w w' t) (cQ:(Nat.beq t 139 || (Nat.beq t 3 || Nat.beq t 165))=false) : fb w' lo s zs z:=by
 rw [Bool.or_eq_false_iff] at cQ;exact ⟨h.row.aD hG cQ.1,h.each.mono fun _ _ h=>h.aD hG cQ.2⟩
theorem c8.aD (h:c8 w lo s ls l) (hG:oo w w' t) (cQ:(Nat.beq t 142 || Nat.beq t 3)=false) : c8 w' lo s ls l:=by
 rw [Bool.or_eq_false_iff] at cQ;exact ⟨h.row.aD hG cQ.1,h.each.mono fun _ _ h=>h.aD hG cQ.2⟩
theorem fb.nil (w:World) (lo:Nat) : fb w lo .nil [] []:=⟨Own.er _ _ _ _ _ _,.nil⟩
theorem c8.nil (w:World) (lo:Nat) : c8 w lo .nil [] []:=⟨Own.er _ _ _ _ _ _,.nil⟩
theorem uA.len (h:uA w s zs z) : zs.length=s.n∧z.length=s.n:=⟨h.row.len,by rw [← h.each.len,h.row.len]⟩
theorem oU.len (h:oU w s ls l) : ls.length=s.n∧l.length=s.n:=⟨h.row.len,by rw [← h.each.len,h.row.len]⟩
end
structure sC (w:World) (r:eu) (h:Heap) : Prop where
 dc:r.bt=h.bt
 di:Sl w 1 bm r.bE.A r.bE.n h.bE
 live:Sl w 3 aE r.Live.A r.Live.n h.Live
 bU:∃ zs,uA w r.aI zs h.aI
 lists:∃ ls,oU w r.ak ls h.ak
structure gl (w:World) (lo:Nat) (r:eu) (h:Heap) : Prop where
 dc:r.bt=h.bt
 di:Own w lo 3 1 bm r.bE.A r.bE.n r.bE.c h.bE
 live:Own w lo 165 3 aE r.Live.A r.Live.n r.Live.c h.Live
 bU:∃ zs,fb w lo r.aI zs h.aI
 lists:∃ ls,c8 w lo r.ak ls h.ak
section
variable {w w':World} {lo jW t:Nat} {r:eu} {h:Heap}
theorem sC.ext (a:sC w r h) (hx:Ext w w') : sC w' r h:=by
 obtain ⟨zs,hz⟩:=a.bU;obtain ⟨ls,hl⟩:=a.lists;exact ⟨a.dc,a.di.ext hx,a.live.ext hx,⟨zs,hz.ext hx⟩,⟨ls,hl.ext hx⟩⟩
theorem gl.ext (a:gl w lo r h) (hx:Ext w w') : gl w' lo r h:=by
 obtain ⟨zs,hz⟩:=a.bU;obtain ⟨ls,hl⟩:=a.lists;exact ⟨a.dc,a.di.ext hx,a.live.ext hx,⟨zs,hz.ext hx⟩,⟨ls,hl.ext hx⟩⟩
theorem gl.low (a:gl w lo r h) (um:jW≤lo) : gl w jW r h:=by
 obtain ⟨zs,hz⟩:=a.bU;obtain ⟨ls,hl⟩:=a.lists;exact ⟨a.dc,a.di.low um,a.live.low um,⟨zs,hz.low um⟩,⟨ls,hl.low um⟩⟩
theorem gl.rd (a:gl w lo r h) : sC w r h:=by
 obtain ⟨zs,hz⟩:=a.bU;obtain ⟨ls,hl⟩:=a.lists;exact ⟨a.dc,a.di.sl,a.live.sl,⟨zs,hz.rd⟩,⟨ls,hl.rd⟩⟩
theorem gl.aD (a:gl w lo r h) (hG:oo w w' t) (cQ:(Nat.beq t 3 || (Nat.beq t 165 || (Nat.beq t 139 || Nat.beq t 142)))=false) : gl w' lo r h:=by
 obtain ⟨zs,hz⟩:=a.bU;obtain ⟨ls,hl⟩:=a.lists;simp only [Bool.or_eq_false_iff] at cQ;obtain ⟨h1,h2,h3,h4⟩:=cQ;exact ⟨a.dc,a.di.aD hG h1,a.live.aD hG h2,⟨zs,hz.aD hG (by simp [h1,h2,h3])⟩,⟨ls,hl.aD hG (by simp [h1,h4])⟩⟩
theorem gl.zero (w:World) (lo:Nat) : gl w lo .zero .zero:=⟨rfl,Own.er _ _ _ _ _ _,Own.er _ _ _ _ _ _,⟨[],.nil _ _⟩,⟨[],.nil _ _⟩⟩
end
structure Heap.small (h:Heap) : Prop where
 bU:h.aI.length*64≤140737488355328
 di:h.bE.length*8≤140737488355328
 lists:h.ak.length*48≤140737488355328
 live:h.Live.length*24≤140737488355328
 free:∀ z∈h.aI,z.ao.length*24≤140737488355328∧z.Types.length*8≤140737488355328
 cw:∀ l∈h.ak,l.aw.length*8≤140737488355328
end Go.Proofs.YtbidkghlpijecaaGreatDoor
