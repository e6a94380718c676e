/-
  Texts of the claim TopRoom, part 3: what its theorem leans on.
-/
import Derived.Test.YtbidkghlpijecaaGreatDoorPackTopRoom1
import Derived.Test.YtbidkghlpijecaaGreatDoorChecked
import Derived.Test.YtbidkghlpijecaaGreatDoorPackTopRoom2
set_option linter.unusedVariables false
set_option linter.unusedSimpArgs false
namespace Go.Proofs.YtbidkghlpijecaaGreatDoor
instance:fP Tryz.prog 3:=⟨by kernel_rfl,by kernel_rfl⟩
instance:cj Tryz.prog 3 (.int .i64 0) 1 8:=⟨by kernel_rfl,by kernel_rfl,by decide⟩
instance:fP Tryz.prog 4:=⟨by kernel_rfl,by kernel_rfl⟩
instance:cj Tryz.prog 4 (.bool false) 1 1:=⟨by kernel_rfl,by kernel_rfl,by decide⟩
instance:fP Tryz.prog 5:=⟨by kernel_rfl,by kernel_rfl⟩
instance:fP Tryz.prog 9:=⟨by kernel_rfl,by kernel_rfl⟩
instance:cj Tryz.prog 9 (.string ByteArray.empty) 1 16:=⟨by kernel_rfl,by kernel_rfl,by decide⟩
instance:fP Tryz.prog 25:=⟨by kernel_rfl,by kernel_rfl⟩
instance:aX Tryz.prog 25 123 2:=⟨by kernel_rfl,by kernel_rfl⟩
instance:dZ Tryz.prog 27 2:=⟨by kernel_rfl,by kernel_rfl⟩
instance:fX Tryz.prog 27 [(0,1),(1,1)] [.slice none 0 0,.slice none 0 0]:=⟨by kernel_rfl,by kernel_rfl⟩
instance:a9 Tryz.prog 27 0 0 25:=⟨by kernel_rfl,by kernel_rfl⟩
instance:a9 Tryz.prog 27 1 1 25:=⟨by kernel_rfl,by kernel_rfl⟩
instance:cj Tryz.prog 29 (.agg #[.slice none 0 0,.slice none 0 0,.int .i64 0,.int .i64 0,.int .i64 0]) 5 72:=⟨by kernel_rfl,by kernel_rfl,by decide⟩
instance:dZ Tryz.prog 29 5:=⟨by kernel_rfl,by kernel_rfl⟩
instance:fX Tryz.prog 29 [(0,2),(2,1),(3,1),(4,1)] [.slice none 0 0,.slice none 0 0,.int .i64 0,.int .i64 0,.int .i64 0]:=⟨by kernel_rfl,by kernel_rfl⟩
instance:a9 Tryz.prog 29 0 0 27:=⟨by kernel_rfl,by kernel_rfl⟩
instance:a9 Tryz.prog 29 1 2 3:=⟨by kernel_rfl,by kernel_rfl⟩
instance:a9 Tryz.prog 29 2 3 3:=⟨by kernel_rfl,by kernel_rfl⟩
instance:a9 Tryz.prog 29 3 4 3:=⟨by kernel_rfl,by kernel_rfl⟩
instance:aX Tryz.prog 32 35 7:=⟨by kernel_rfl,by kernel_rfl⟩
instance:cj Tryz.prog 35 (.agg #[.int .i64 0,.int .i64 0,.int .i64 0,.int .i64 0,.int .i64 0,.int .i64 0,.string ByteArray.empty]) 7 64:=⟨by kernel_rfl,by kernel_rfl,by decide⟩
instance:dZ Tryz.prog 35 7:=⟨by kernel_rfl,by kernel_rfl⟩
instance:fX Tryz.prog 35 [(0,1),(1,1),(2,1),(3,1),(4,1),(5,1),(6,1)] [.int .i64 0,.int .i64 0,.int .i64 0,.int .i64 0,.int .i64 0,.int .i64 0,.string ByteArray.empty]:=⟨by kernel_rfl,by kernel_rfl⟩
instance:a9 Tryz.prog 35 0 0 3:=⟨by kernel_rfl,by kernel_rfl⟩
instance:a9 Tryz.prog 35 1 1 3:=⟨by kernel_rfl,by kernel_rfl⟩
instance:a9 Tryz.prog 35 2 2 3:=⟨by kernel_rfl,by kernel_rfl⟩
instance:a9 Tryz.prog 35 4 4 3:=⟨by kernel_rfl,by kernel_rfl⟩
instance:a9 Tryz.prog 35 5 5 3:=⟨by kernel_rfl,by kernel_rfl⟩
instance:fP Tryz.prog 36:=⟨by kernel_rfl,by kernel_rfl⟩
instance:aX Tryz.prog 36 3 1:=⟨by kernel_rfl,by kernel_rfl⟩
instance:fP Tryz.prog 37:=⟨by kernel_rfl,by kernel_rfl⟩
instance:aX Tryz.prog 37 139 4:=⟨by kernel_rfl,by kernel_rfl⟩
instance:fP Tryz.prog 38:=⟨by kernel_rfl,by kernel_rfl⟩
instance:aX Tryz.prog 38 142 4:=⟨by kernel_rfl,by kernel_rfl⟩
instance:fP Tryz.prog 39:=⟨by kernel_rfl,by kernel_rfl⟩
instance:aX Tryz.prog 39 165 3:=⟨by kernel_rfl,by kernel_rfl⟩
instance:cj Tryz.prog 41 (.agg #[.slice none 0 0,.slice none 0 0,.int .i64 0,.slice none 0 0,.slice none 0 0]) 5 104:=⟨by kernel_rfl,by kernel_rfl,by decide⟩
instance:dZ Tryz.prog 41 5:=⟨by kernel_rfl,by kernel_rfl⟩
instance:fX Tryz.prog 41 [(0,1),(1,1),(2,1),(3,1),(4,1)] [.slice none 0 0,.slice none 0 0,.int .i64 0,.slice none 0 0,.slice none 0 0]:=⟨by kernel_rfl,by kernel_rfl⟩
instance:a9 Tryz.prog 41 0 0 37:=⟨by kernel_rfl,by kernel_rfl⟩
instance:a9 Tryz.prog 41 1 1 36:=⟨by kernel_rfl,by kernel_rfl⟩
instance:a9 Tryz.prog 41 2 2 3:=⟨by kernel_rfl,by kernel_rfl⟩
instance:a9 Tryz.prog 41 3 3 38:=⟨by kernel_rfl,by kernel_rfl⟩
instance:a9 Tryz.prog 41 4 4 39:=⟨by kernel_rfl,by kernel_rfl⟩
instance:fP Tryz.prog 42:=⟨by kernel_rfl,by kernel_rfl⟩
instance:aX Tryz.prog 42 89 6:=⟨by kernel_rfl,by kernel_rfl⟩
instance:cj Tryz.prog 44 (.agg #[.slice none 0 0,.slice none 0 0,.slice none 0 0,.int .i64 0,.slice none 0 0,.slice none 0 0,.slice none 0 0]) 7 152:=⟨by kernel_rfl,by kernel_rfl,by decide⟩
instance:dZ Tryz.prog 44 7:=⟨by kernel_rfl,by kernel_rfl⟩
instance:fX Tryz.prog 44 [(0,1),(1,5),(6,1)] [.slice none 0 0,.slice none 0 0,.slice none 0 0,.int .i64 0,.slice none 0 0,.slice none 0 0,.slice none 0 0]:=⟨by kernel_rfl,by kernel_rfl⟩
instance:a9 Tryz.prog 44 0 0 36:=⟨by kernel_rfl,by kernel_rfl⟩
instance:a9 Tryz.prog 44 1 1 41:=⟨by kernel_rfl,by kernel_rfl⟩
instance:a9 Tryz.prog 44 2 6 42:=⟨by kernel_rfl,by kernel_rfl⟩
instance:aX Tryz.prog 45 55 3:=⟨by kernel_rfl,by kernel_rfl⟩
instance:fP Tryz.prog 51:=⟨by kernel_rfl,by kernel_rfl⟩
instance:cj Tryz.prog 55 (.agg #[.int .i64 0,.int .i64 0,.slice none 0 0]) 3 40:=⟨by kernel_rfl,by kernel_rfl,by decide⟩
instance:dZ Tryz.prog 55 3:=⟨by kernel_rfl,by kernel_rfl⟩
instance:fX Tryz.prog 55 [(0,1),(1,1),(2,1)] [.int .i64 0,.int .i64 0,.slice none 0 0]:=⟨by kernel_rfl,by kernel_rfl⟩
instance:a9 Tryz.prog 55 0 0 51:=⟨by kernel_rfl,by kernel_rfl⟩
instance:a9 Tryz.prog 55 1 1 3:=⟨by kernel_rfl,by kernel_rfl⟩
instance:fP Tryz.prog 61:=⟨by kernel_rfl,by kernel_rfl⟩
instance:aX Tryz.prog 61 9 1:=⟨by kernel_rfl,by kernel_rfl⟩
instance:fP Tryz.prog 87:=⟨by kernel_rfl,by kernel_rfl⟩
instance:aX Tryz.prog 87 91 3:=⟨by kernel_rfl,by kernel_rfl⟩
instance:cj Tryz.prog 89 (.agg #[.slice none 0 0,.int .i64 0,.int .i64 0,.int .i64 0,.slice none 0 0,.slice none 0 0]) 6 96:=⟨by kernel_rfl,by kernel_rfl,by decide⟩
instance:dZ Tryz.prog 89 6:=⟨by kernel_rfl,by kernel_rfl⟩
instance:fX Tryz.prog 89 [(0,1),(1,1),(2,1),(3,1),(4,1),(5,1)] [.slice none 0 0,.int .i64 0,.int .i64 0,.int .i64 0,.slice none 0 0,.slice none 0 0]:=⟨by kernel_rfl,by kernel_rfl⟩
instance:a9 Tryz.prog 89 0 0 61:=⟨by kernel_rfl,by kernel_rfl⟩
instance:a9 Tryz.prog 89 1 1 3:=⟨by kernel_rfl,by kernel_rfl⟩
instance:a9 Tryz.prog 89 2 2 3:=⟨by kernel_rfl,by kernel_rfl⟩
instance:a9 Tryz.prog 89 3 3 3:=⟨by kernel_rfl,by kernel_rfl⟩
instance:a9 Tryz.prog 89 4 4 87:=⟨by kernel_rfl,by kernel_rfl⟩
instance:a9 Tryz.prog 89 5 5 36:=⟨by kernel_rfl,by kernel_rfl⟩
instance:cj Tryz.prog 91 (.agg #[.int .i64 0,.int .i64 0,.int .i64 0]) 3 24:=⟨by kernel_rfl,by kernel_rfl,by decide⟩
instance:dZ Tryz.prog 91 3:=⟨by kernel_rfl,by kernel_rfl⟩
instance:a9 Tryz.prog 91 0 0 3:=⟨by kernel_rfl,by kernel_rfl⟩
instance:a9 Tryz.prog 91 1 1 3:=⟨by kernel_rfl,by kernel_rfl⟩
instance:a9 Tryz.prog 91 2 2 3:=⟨by kernel_rfl,by kernel_rfl⟩
instance:uy Tryz.prog 111 6 3 1:=⟨by kernel_rfl,by kernel_rfl⟩
instance:dZ Tryz.prog 111 6:=⟨by kernel_rfl,by kernel_rfl⟩
instance:cj Tryz.prog 123 (.agg #[.int .i64 0,.int .i64 0]) 2 16:=⟨by kernel_rfl,by kernel_rfl,by decide⟩
instance:dZ Tryz.prog 123 2:=⟨by kernel_rfl,by kernel_rfl⟩
instance:fX Tryz.prog 123 [(0,1),(1,1)] [.int .i64 0,.int .i64 0]:=⟨by kernel_rfl,by kernel_rfl⟩
instance:a9 Tryz.prog 123 0 0 3:=⟨by kernel_rfl,by kernel_rfl⟩
instance:a9 Tryz.prog 123 1 1 3:=⟨by kernel_rfl,by kernel_rfl⟩
instance:cj Tryz.prog 139 (.agg #[.int .i64 0,.int .i64 0,.slice none 0 0,.slice none 0 0]) 4 64:=⟨by kernel_rfl,by kernel_rfl,by decide⟩
instance:dZ Tryz.prog 139 4:=⟨by kernel_rfl,by kernel_rfl⟩
instance:fX Tryz.prog 139 [(0,1),(1,1),(2,1),(3,1)] [.int .i64 0,.int .i64 0,.slice none 0 0,.slice none 0 0]:=⟨by kernel_rfl,by kernel_rfl⟩
instance:a9 Tryz.prog 139 0 0 3:=⟨by kernel_rfl,by kernel_rfl⟩
instance:a9 Tryz.prog 139 1 1 3:=⟨by kernel_rfl,by kernel_rfl⟩
instance:a9 Tryz.prog 139 2 2 39:=⟨by kernel_rfl,by kernel_rfl⟩
instance:a9 Tryz.prog 139 3 3 36:=⟨by kernel_rfl,by kernel_rfl⟩
instance:cj Tryz.prog 142 (.agg #[.int .i64 0,.int .i64 0,.int .i64 0,.slice none 0 0]) 4 48:=⟨by kernel_rfl,by kernel_rfl,by decide⟩
instance:dZ Tryz.prog 142 4:=⟨by kernel_rfl,by kernel_rfl⟩
instance:fX Tryz.prog 142 [(0,1),(1,1),(2,1),(3,1)] [.int .i64 0,.int .i64 0,.int .i64 0,.slice none 0 0]:=⟨by kernel_rfl,by kernel_rfl⟩
instance:a9 Tryz.prog 142 0 0 3:=⟨by kernel_rfl,by kernel_rfl⟩
instance:a9 Tryz.prog 142 1 1 3:=⟨by kernel_rfl,by kernel_rfl⟩
instance:a9 Tryz.prog 142 2 2 3:=⟨by kernel_rfl,by kernel_rfl⟩
instance:a9 Tryz.prog 142 3 3 36:=⟨by kernel_rfl,by kernel_rfl⟩
instance:cj Tryz.prog 165 (.agg #[.int .i64 0,.int .i64 0,.int .i64 0]) 3 24:=⟨by kernel_rfl,by kernel_rfl,by decide⟩
instance:dZ Tryz.prog 165 3:=⟨by kernel_rfl,by kernel_rfl⟩
instance:fX Tryz.prog 165 [(0,1),(1,1),(2,1)] [.int .i64 0,.int .i64 0,.int .i64 0]:=⟨by kernel_rfl,by kernel_rfl⟩
instance:a9 Tryz.prog 165 0 0 3:=⟨by kernel_rfl,by kernel_rfl⟩
instance:a9 Tryz.prog 165 1 1 3:=⟨by kernel_rfl,by kernel_rfl⟩
instance:a9 Tryz.prog 165 2 2 3:=⟨by kernel_rfl,by kernel_rfl⟩
instance:aX Tryz.prog 189 4 1:=⟨by kernel_rfl,by kernel_rfl⟩
instance:uy Tryz.prog 222 256 4 1:=⟨by kernel_rfl,by kernel_rfl⟩
instance:fX Tryz.prog 224 [(0,256),(256,1)] [.bool false,.bool false,.bool false,.bool false,.bool false,.bool false,.bool false,.bool false,.bool false,.bool false,.bool false,.bool false,.bool false,.bool false,.bool false,.bool false,.bool false,.bool false,.bool false,.bool false,.bool false,.bool false,.bool false,.bool false,.bool false,.bool false,.bool false,.bool false,.bool false,.bool false,.bool false,.bool false,.bool false,.bool false,.bool false,.bool false,.bool false,.bool false,.bool false,.bool false,.bool false,.bool false,.bool false,.bool false,.bool false,.bool false,.bool false,.bool false,.bool false,.bool false,.bool false,.bool false,.bool false,.bool false,.bool false,.bool false,.bool false,.bool false,.bool false,.bool false,.bool false,.bool false,.bool false,.bool false,.bool false,.bool false,.bool false,.bool false,.bool false,.bool false,.bool false,.bool false,.bool false,.bool false,.bool false,.bool false,.bool false,.bool false,.bool false,.bool false,.bool false,.bool false,.bool false,.bool false,.bool false,.bool false,.bool false,.bool false,.bool false,.bool false,.bool false,.bool false,.bool false,.bool false,.bool false,.bool false,.bool false,.bool false,.bool false,.bool false,.bool false,.bool false,.bool false,.bool false,.bool false,.bool false,.bool false,.bool false,.bool false,.bool false,.bool false,.bool false,.bool false,.bool false,.bool false,.bool false,.bool false,.bool false,.bool false,.bool false,.bool false,.bool false,.bool false,.bool false,.bool false,.bool false,.bool false,.bool false,.bool false,.bool false,.bool false,.bool false,.bool false,.bool false,.bool false,.bool false,.bool false,.bool false,.bool false,.bool false,.bool false,.bool false,.bool false,.bool false,.bool false,.bool false,.bool false,.bool false,.bool false,.bool false,.bool false,.bool false,.bool false,.bool false,.bool false,.bool false,.bool false,.bool false,.bool false,.bool false,.bool false,.bool false,.bool false,.bool false,.bool false,.bool false,.bool false,.bool false,.bool false,.bool false,.bool false,.bool false,.bool false,.bool false,.bool false,.bool false,.bool false,.bool false,.bool false,.bool false,.bool false,.bool false,.bool false,.bool false,.bool false,.bool false,.bool false,.bool false,.bool false,.bool false,.bool false,.bool false,.bool false,.bool false,.bool false,.bool false,.bool false,.bool false,.bool false,.bool false,.bool false,.bool false,.bool false,.bool false,.bool false,.bool false,.bool false,.bool false,.bool false,.bool false,.bool false,.bool false,.bool false,.bool false,.bool false,.bool false,.bool false,.bool false,.bool false,.bool false,.bool false,.bool false,.bool false,.bool false,.bool false,.bool false,.bool false,.bool false,.bool false,.bool false,.bool false,.bool false,.bool false,.bool false,.bool false,.bool false,.bool false,.bool false,.bool false,.bool false,.bool false,.bool false,.bool false,.bool false,.bool false,.bool false,.bool false,.bool false,.bool false,.bool false,.bool false,.bool false,.bool false,.bool false,.bool false,.bool false,.bool false]:=⟨by kernel_rfl,by kernel_rfl⟩
instance:a9 Tryz.prog 224 0 0 222:=⟨by kernel_rfl,by kernel_rfl⟩
instance:a9 Tryz.prog 224 1 256 4:=⟨by kernel_rfl,by kernel_rfl⟩
instance:aX Tryz.prog 229 5 1:=⟨by kernel_rfl,by kernel_rfl⟩
instance:uy Tryz.prog 280 2 3 1:=⟨by kernel_rfl,by kernel_rfl⟩
instance:dZ Tryz.prog 280 2:=⟨by kernel_rfl,by kernel_rfl⟩
instance:uy Tryz.prog 281 3 280 2:=⟨by kernel_rfl,by kernel_rfl⟩
instance:Body Tryz.prog 13:=av Tryz.func13 (by kernel_rfl) (by kernel_rfl)
instance:Body Tryz.prog 16:=av Tryz.func16 (by kernel_rfl) (by kernel_rfl)
instance:Body Tryz.prog 17:=av Tryz.func17 (by kernel_rfl) (by kernel_rfl)
instance:Body Tryz.prog 24:=av Tryz.func24 (by kernel_rfl) (by kernel_rfl)
instance:Body Tryz.prog 32:=av Tryz.func32 (by kernel_rfl) (by kernel_rfl)
instance:Body Tryz.prog 35:=av Tryz.func35 (by kernel_rfl) (by kernel_rfl)
instance:Body Tryz.prog 36:=av Tryz.func36 (by kernel_rfl) (by kernel_rfl)
instance:Body Tryz.prog 37:=av Tryz.func37 (by kernel_rfl) (by kernel_rfl)
instance:Body Tryz.prog 41:=av Tryz.func41 (by kernel_rfl) (by kernel_rfl)
instance:Body Tryz.prog 45:=av Tryz.func45 (by kernel_rfl) (by kernel_rfl)
instance:Body Tryz.prog 46:=av Tryz.func46 (by kernel_rfl) (by kernel_rfl)
instance:Body Tryz.prog 48:=av Tryz.func48 (by kernel_rfl) (by kernel_rfl)
instance:Body Tryz.prog 55:=av Tryz.func55 (by kernel_rfl) (by kernel_rfl)
instance:Body Tryz.prog 56:=av Tryz.func56 (by kernel_rfl) (by kernel_rfl)
instance:Body Tryz.prog 57:=av Tryz.func57 (by kernel_rfl) (by kernel_rfl)
instance:Body Tryz.prog 58:=av Tryz.func58 (by kernel_rfl) (by kernel_rfl)
instance:Body Tryz.prog 59:=av Tryz.func59 (by kernel_rfl) (by kernel_rfl)
instance:Body Tryz.prog 67:=av Tryz.func67 (by kernel_rfl) (by kernel_rfl)
instance:Body Tryz.prog 69:=av Tryz.func69 (by kernel_rfl) (by kernel_rfl)
instance:Body Tryz.prog 78:=av Tryz.func78 (by kernel_rfl) (by kernel_rfl)
instance:Body Tryz.prog 80:=av Tryz.func80 (by kernel_rfl) (by kernel_rfl)
instance:Body Tryz.prog 82:=av Tryz.func82 (by kernel_rfl) (by kernel_rfl)
instance:Body Tryz.prog 83:=av Tryz.func83 (by kernel_rfl) (by kernel_rfl)
instance:Body Tryz.prog 84:=av Tryz.func84 (by kernel_rfl) (by kernel_rfl)
instance:Body Tryz.prog 85:=av Tryz.func85 (by kernel_rfl) (by kernel_rfl)
instance:Body Tryz.prog 88:=av Tryz.func88 (by kernel_rfl) (by kernel_rfl)
instance:Body Tryz.prog 89:=av Tryz.func89 (by kernel_rfl) (by kernel_rfl)
instance:Body Tryz.prog 90:=av Tryz.func90 (by kernel_rfl) (by kernel_rfl)
instance:Body Tryz.prog 91:=av Tryz.func91 (by kernel_rfl) (by kernel_rfl)
instance:Body Tryz.prog 92:=av Tryz.func92 (by kernel_rfl) (by kernel_rfl)
instance:Body Tryz.prog 93:=av Tryz.func93 (by kernel_rfl) (by kernel_rfl)
instance:Body Tryz.prog 94:=av Tryz.func94 (by kernel_rfl) (by kernel_rfl)
instance:Body Tryz.prog 95:=av Tryz.func95 (by kernel_rfl) (by kernel_rfl)
instance:Body Tryz.prog 96:=av Tryz.func96 (by kernel_rfl) (by kernel_rfl)
instance:Body Tryz.prog 98:=av Tryz.func98 (by kernel_rfl) (by kernel_rfl)
instance:Body Tryz.prog 102:=av Tryz.func102 (by kernel_rfl) (by kernel_rfl)
instance:Body Tryz.prog 103:=av Tryz.func103 (by kernel_rfl) (by kernel_rfl)
instance:Body Tryz.prog 104:=av Tryz.func104 (by kernel_rfl) (by kernel_rfl)
instance:Body Tryz.prog 105:=av Tryz.func105 (by kernel_rfl) (by kernel_rfl)
instance:Body Tryz.prog 106:=av Tryz.func106 (by kernel_rfl) (by kernel_rfl)
instance:Body Tryz.prog 107:=av Tryz.func107 (by kernel_rfl) (by kernel_rfl)
instance:Body Tryz.prog 108:=av Tryz.func108 (by kernel_rfl) (by kernel_rfl)
instance:Body Tryz.prog 109:=av Tryz.func109 (by kernel_rfl) (by kernel_rfl)
instance:Body Tryz.prog 110:=av Tryz.func110 (by kernel_rfl) (by kernel_rfl)
instance:Body Tryz.prog 111:=av Tryz.func111 (by kernel_rfl) (by kernel_rfl)
instance:Body Tryz.prog 112:=av Tryz.func112 (by kernel_rfl) (by kernel_rfl)
instance:Body Tryz.prog 113:=av Tryz.func113 (by kernel_rfl) (by kernel_rfl)
instance:Body Tryz.prog 131:=av Tryz.func131 (by kernel_rfl) (by kernel_rfl)
instance:Body Tryz.prog 132:=av Tryz.func132 (by kernel_rfl) (by kernel_rfl)
instance:Body Tryz.prog 133:=av Tryz.func133 (by kernel_rfl) (by kernel_rfl)
instance:Body Tryz.prog 134:=av Tryz.func134 (by kernel_rfl) (by kernel_rfl)
instance:Body Tryz.prog 135:=av Tryz.func135 (by kernel_rfl) (by kernel_rfl)
instance:Body Tryz.prog 136:=av Tryz.func136 (by kernel_rfl) (by kernel_rfl)
instance:Body Tryz.prog 137:=av Tryz.func137 (by kernel_rfl) (by kernel_rfl)
instance:Body Tryz.prog 138:=av Tryz.func138 (by kernel_rfl) (by kernel_rfl)
instance:Body Tryz.prog 139:=av Tryz.func139 (by kernel_rfl) (by kernel_rfl)
instance:Body Tryz.prog 140:=av Tryz.func140 (by kernel_rfl) (by kernel_rfl)
instance:Body Tryz.prog 141:=av Tryz.func141 (by kernel_rfl) (by kernel_rfl)
instance:Body Tryz.prog 142:=av Tryz.func142 (by kernel_rfl) (by kernel_rfl)
instance:Body Tryz.prog 148:=av Tryz.func148 (by kernel_rfl) (by kernel_rfl)
instance:Body Tryz.prog 152:=av Tryz.func152 (by kernel_rfl) (by kernel_rfl)
instance:Body Tryz.prog 153:=av Tryz.func153 (by kernel_rfl) (by kernel_rfl)
instance:Body Tryz.prog 154:=av Tryz.func154 (by kernel_rfl) (by kernel_rfl)
instance:Body Tryz.prog 155:=av Tryz.func155 (by kernel_rfl) (by kernel_rfl)
instance:Body Tryz.prog 161:=av Tryz.func161 (by kernel_rfl) (by kernel_rfl)
instance:Body Tryz.prog 174:=av Tryz.func174 (by kernel_rfl) (by kernel_rfl)
instance:Body Tryz.prog 175:=av Tryz.func175 (by kernel_rfl) (by kernel_rfl)
instance:Body Tryz.prog 176:=av Tryz.func176 (by kernel_rfl) (by kernel_rfl)
instance:Body Tryz.prog 177:=av Tryz.func177 (by kernel_rfl) (by kernel_rfl)
instance:Body Tryz.prog 178:=av Tryz.func178 (by kernel_rfl) (by kernel_rfl)
instance:Body Tryz.prog 179:=av Tryz.func179 (by kernel_rfl) (by kernel_rfl)
instance:Body Tryz.prog 180:=av Tryz.func180 (by kernel_rfl) (by kernel_rfl)
instance:Body Tryz.prog 181:=av Tryz.func181 (by kernel_rfl) (by kernel_rfl)
instance:Body Tryz.prog 182:=av Tryz.func182 (by kernel_rfl) (by kernel_rfl)
instance:Body Tryz.prog 183:=av Tryz.func183 (by kernel_rfl) (by kernel_rfl)
instance:Body Tryz.prog 184:=av Tryz.func184 (by kernel_rfl) (by kernel_rfl)
instance:Body Tryz.prog 185:=av Tryz.func185 (by kernel_rfl) (by kernel_rfl)
instance:Body Tryz.prog 186:=av Tryz.func186 (by kernel_rfl) (by kernel_rfl)
instance:Body Tryz.prog 187:=av Tryz.func187 (by kernel_rfl) (by kernel_rfl)
instance:Body Tryz.prog 188:=av Tryz.func188 (by kernel_rfl) (by kernel_rfl)
instance:Body Tryz.prog 190:=av Tryz.func190 (by kernel_rfl) (by kernel_rfl)
instance:Body Tryz.prog 191:=av Tryz.func191 (by kernel_rfl) (by kernel_rfl)
instance:Body Tryz.prog 192:=av Tryz.func192 (by kernel_rfl) (by kernel_rfl)
instance:Body Tryz.prog 193:=av Tryz.func193 (by kernel_rfl) (by kernel_rfl)
instance:Body Tryz.prog 194:=av Tryz.func194 (by kernel_rfl) (by kernel_rfl)
instance:Body Tryz.prog 202:=av Tryz.func202 (by kernel_rfl) (by kernel_rfl)
instance:Body Tryz.prog 203:=av Tryz.func203 (by kernel_rfl) (by kernel_rfl)
instance:Body Tryz.prog 204:=av Tryz.func204 (by kernel_rfl) (by kernel_rfl)
instance:Body Tryz.prog 205:=av Tryz.func205 (by kernel_rfl) (by kernel_rfl)
instance:Body Tryz.prog 206:=av Tryz.func206 (by kernel_rfl) (by kernel_rfl)
instance:Body Tryz.prog 209:=av Tryz.func209 (by kernel_rfl) (by kernel_rfl)
instance:Body Tryz.prog 211:=av Tryz.func211 (by kernel_rfl) (by kernel_rfl)
instance:Body Tryz.prog 213:=av Tryz.func213 (by kernel_rfl) (by kernel_rfl)
instance:Body Tryz.prog 214:=av Tryz.func214 (by kernel_rfl) (by kernel_rfl)
instance:Body Tryz.prog 226:=av Tryz.func226 (by kernel_rfl) (by kernel_rfl)
instance:Body Tryz.prog 228:=av Tryz.func228 (by kernel_rfl) (by kernel_rfl)
instance:Body Tryz.prog 229:=av Tryz.func229 (by kernel_rfl) (by kernel_rfl)
instance:Body Tryz.prog 230:=av Tryz.func230 (by kernel_rfl) (by kernel_rfl)
instance:Body Tryz.prog 231:=av Tryz.func231 (by kernel_rfl) (by kernel_rfl)
instance:Body Tryz.prog 232:=av Tryz.func232 (by kernel_rfl) (by kernel_rfl)
instance:Body Tryz.prog 233:=av Tryz.func233 (by kernel_rfl) (by kernel_rfl)
instance:Body Tryz.prog 234:=av Tryz.func234 (by kernel_rfl) (by kernel_rfl)
instance:Body Tryz.prog 238:=av Tryz.func238 (by kernel_rfl) (by kernel_rfl)
instance:Body Tryz.prog 239:=av Tryz.func239 (by kernel_rfl) (by kernel_rfl)
instance:Body Tryz.prog 241:=av Tryz.func241 (by kernel_rfl) (by kernel_rfl)
instance:Body Tryz.prog 244:=av Tryz.func244 (by kernel_rfl) (by kernel_rfl)
instance:Body Tryz.prog 245:=av Tryz.func245 (by kernel_rfl) (by kernel_rfl)
instance:Body Tryz.prog 246:=av Tryz.func246 (by kernel_rfl) (by kernel_rfl)
instance:Body Tryz.prog 247:=av Tryz.func247 (by kernel_rfl) (by kernel_rfl)
instance:Body Tryz.prog 254:=av Tryz.func254 (by kernel_rfl) (by kernel_rfl)
instance:Body Tryz.prog 255:=av Tryz.func255 (by kernel_rfl) (by kernel_rfl)
instance:Body Tryz.prog 258:=av Tryz.func258 (by kernel_rfl) (by kernel_rfl)
instance:Body Tryz.prog 264:=av Tryz.func264 (by kernel_rfl) (by kernel_rfl)
instance:Body Tryz.prog 265:=av Tryz.func265 (by kernel_rfl) (by kernel_rfl)
instance:Body Tryz.prog 275:=av Tryz.func275 (by kernel_rfl) (by kernel_rfl)
theorem mixed:Tryz.prog.follows .mixedOrders=true:=by kernel_rfl
structure Region where
 aw:Int
 aY:Int
 deriving DecidableEq
structure Block where
 At:Int
 Order:Int
 Ty:Int
 deriving DecidableEq
structure ab where
 aw:Int
 To:Int
 ag:List Block
 Types:List Int
 deriving DecidableEq
structure ap where
 eI:Int
 ab:Int
 Ty:Int
 an:List Int
structure Heap where
 aL:List ab
 bT:List Int
 bt:Int
 aj:List ap
 Live:List Block
structure Slab where
 At:Int
 ag:Int
 si:Int
 deriving DecidableEq
open Go.RowKit
theorem gI (x lo hi:Int) (w:World) : bl Tryz.prog 48 [.int .i64 x,.int .i64 lo,.int .i64 hi] w fun v _=>v = .bool (decide (lo≤x∧x≤hi)):=by
 refine aD Tryz.func48 rfl Tryz.ntmps48 rfl ?_;repeat' (first|refine Wz ?_|refine SW.en rfl rfl rfl (fun h => ?_) (fun h => ?_))
 all_goals refine ae.aI rfl rfl ⟨_,rfl,Ext.refl _,?_⟩
 all_goals simp [*]
open Go.RowKit
theorem y7 (A:Option Addr) (n c:Nat) (x k:Int) (w:World) (hn:n≤2305843009213693952) : bl Tryz.prog 161 [.slice A n c,.int .i64 x,.int .i64 k] w fun v _=>v = .bool (decide (0≤x∧0≤k∧k≤n∧x+k≤n)):=by
 refine aD Tryz.func161 rfl Tryz.ntmps161 rfl ?_;repeat' (first|refine Wz ?_|refine SW.en rfl rfl rfl (fun h => ?_) (fun h => ?_))
 all_goals refine ae.aI rfl rfl ⟨_,rfl,Ext.refl _,?_⟩
 all_goals congr 1
 all_goals symm
 all_goals first|(refine decide_eq_true ?_;omega)|(refine decide_eq_false ?_;omega)|(rw [decide_eq_decide];omega)
def vK (w:World) (e sz:Nat) {α:Type} (enc : α → List Value) (n:Nat) (l:List α) : Value→World→Prop:=fun v w' => ∃ A c,v = .slice A n c∧Own w' w.heap.size e sz enc A n c l
theorem cX (A:Option Addr) (n c:Nat) (l:List Int) (w:World) (hl:Sl w 1 bB A n l) (hn:n*8≤140737488355328) : bl Tryz.prog 82 [.slice A n c] w (vK w 3 1 bB n l):=by
 refine aD Tryz.func82 rfl Tryz.ntmps82 rfl ?_;have hw:=Ext.refl w;refine Wz ?_;refine SW.st (oE rfl rfl) rfl ?_;repeat' (first|refine Wz ?_|(refine CW.cond rfl (fun h => ?_) (fun h => ?_)))
 ·have FD:n=0:=by
   rcases Nat.eq_zero_or_pos n with h0|h0
   ·exact h0
   ·have:=hl.base h0;simp_all
  subst FD;have:l=[]:=List.eq_nil_of_length_eq_zero hl.len
  subst this;exact ae.aI rfl rfl ⟨_,rfl,hw,none,0,rfl,Own.fj _ _ _ _ _ _⟩
 ·refine SW.vC rfl fun b w1 aa hb => ?_
  replace hw:=Ext.trans hw aa;refine Wz ?_;refine SW.rC (Nat.zero_add n) (List.nil_append l) (Own.fj w1 w.heap.size _ _ bB (some ⟨b,0,none⟩)) (hl.ext hw) hw.size rfl rfl rfl (by omega) (by omega) fun A2 c2 w2 hO hg => ?_
  replace hw:=aJ hw hg (Nat.le_refl _) (by simp [aG]);refine Wz ?_;exact ae.aI rfl rfl ⟨_,rfl,hw,A2,c2,rfl,hO⟩
theorem FE (k:Int) (w:World) : bl Tryz.prog 57 [.int .i64 k] w fun v w' =>
 if 0≤k∧k≤256 then ∃ A c,v = .tuple #[.slice A (16*k).toNat c,.int .i64 0]∧Own w' w.heap.size 3 1 bB A (16*k).toNat c (List.replicate (16*k).toNat 0) else v = .tuple #[.slice none 0 0,.int .i64 1]:=by
 refine aD Tryz.func57 rfl Tryz.ntmps57 rfl ?_;have hw:=Ext.refl w;repeat' (first|refine Wz ?_|(first|refine CW.nM rfl (fun h => ?_) (fun h => ?_)|refine CW.wS rfl (fun h => ?_) (fun h => ?_)|refine CW.eX rfl ?_|refine CW.eY rfl ?_|refine CW.cond rfl (fun h => ?_) (fun h => ?_))|refine SW.en rfl rfl rfl (fun h => ?_) (fun h => ?_)|refine SW.n5 rfl rfl rfl (fun h => ?_) (fun h => ?_)|refine SW.want rfl rfl ?_|refine SW.skip rfl rfl rfl rfl ?_|refine SW.C7 rfl rfl rfl ?_|refine SW.split rfl rfl rfl (fun h => ?_) (fun h => ?_))
 ·refine ae.dk rfl rfl rfl ⟨_,rfl,hw,?_⟩;rw [if_neg (by omega)]
 ·refine ae.dk rfl rfl rfl ⟨_,rfl,hw,?_⟩;rw [if_neg (by omega)]
 ·refine SW.make (enc:=bB) (k:=(16*k).toNat) 0 rfl rfl (by omega) (by omega) (by omega) rfl fun A c w1 aa hO => ?_
  replace hw:=Ext.trans hw aa;repeat' (first|refine Wz ?_|(first|refine CW.nM rfl (fun h => ?_) (fun h => ?_)|refine CW.wS rfl (fun h => ?_) (fun h => ?_)|refine CW.eX rfl ?_|refine CW.eY rfl ?_|refine CW.cond rfl (fun h => ?_) (fun h => ?_))|refine SW.en rfl rfl rfl (fun h => ?_) (fun h => ?_)|refine SW.n5 rfl rfl rfl (fun h => ?_) (fun h => ?_)|refine SW.want rfl rfl ?_|refine SW.skip rfl rfl rfl rfl ?_|refine SW.C7 rfl rfl rfl ?_|refine SW.split rfl rfl rfl (fun h => ?_) (fun h => ?_))
  refine ae.dk rfl rfl rfl ⟨_,rfl,hw,?_⟩;rw [if_pos (by omega)];exact ⟨A,c,rfl,hO⟩
open Go.RowKit
def Region.ok (r:Region) : Prop:=0≤r.aw∧1≤r.aY∧r.aY≤256∧r.aw+r.aY≤256
instance (r:Region) : Decidable r.ok:=inferInstanceAs (Decidable (_∧_))
def gp (r:Region) : List Value:=[.int .i64 r.aw,.int .i64 r.aY]
theorem lU (r:Region) (w:World) : bl Tryz.prog 238 [.agg (gp r).toArray] w fun v _=>v = .int .i64 (if r.ok then 0 else 1):=by
 refine aD Tryz.func238 rfl Tryz.ntmps238 rfl ?_;refine CW.seq (CW.region (SW.box rfl rfl fun b w1 hw hb hB => ?_));repeat' (first|refine Wz ?_|(refine CW.nM rfl (fun h => ?_) (fun h => ?_))|refine SW.en rfl rfl rfl (fun h => ?_) (fun h => ?_))
 all_goals refine ae.aI rfl rfl ⟨_,rfl,hw,?_⟩
 all_goals first|rw [if_pos (by unfold Region.ok;omega)] | rw [if_neg (by unfold Region.ok;omega)]
open Go.RowKit
instance:fu gp 2:=⟨fun _=>rfl,fun r u hu=>by simp [gp] at hu;rcases hu with rfl|rfl<;>rfl⟩
def dX (l:List Region) : Prop:=l.length≤40 ∧ ∀ (i:Nat) (h:i<l.length),(l[i]).ok ∧ ∀ (h0 : 0<i),(l[i-1]'(by omega)).aw+(l[i-1]'(by omega)).aY<(l[i]).aw
noncomputable def da (l:List Region) : Bool := @decide (dX l) (Classical.propDecidable _)
theorem iA {l:List Region} (h:dX l) : da l=true:=by unfold da;exact @decide_eq_true _ (Classical.propDecidable _) h
theorem lm {l:List Region} (h : ¬ dX l) : da l=false:=by unfold da;exact @decide_eq_false _ (Classical.propDecidable _) h
theorem oH {l:List Region}:da l=true↔dX l:=by
 by_cases h:dX l
 ·simp [iA h,h]
 ·simp [lm h,h]
theorem mC {r:Region} (h:r.ok) (w:World) : bl Tryz.prog 238 [.agg (gp r).toArray] w fun v _=>v = .int .i64 0:=(lU r w).mono fun _ _ _ hv=>by rw [hv,if_pos h]
theorem sj {r:Region} (h : ¬ r.ok) (w:World) : bl Tryz.prog 238 [.agg (gp r).toArray] w fun v _=>v = .int .i64 1:=(lU r w).mono fun _ _ _ hv=>by rw [hv,if_neg h]
theorem sk {r:Region} (h:r.ok) (w:World) : bl Tryz.prog 203 [.agg (gp r).toArray] w fun v _=>v = .int .i64 (r.aw+r.aY):=by
 obtain ⟨h1,h2,h3,h4⟩:=h;refine aD Tryz.func203 rfl Tryz.ntmps203 rfl ?_;refine CW.seq (CW.region (SW.box rfl rfl fun b w1 hw hb hB => ?_));refine Wz ?_;exact ae.aI rfl rfl ⟨_,rfl,hw,rfl⟩
open Go.RowKit
def aA (b:Block) : List Value:=[.int .i64 b.At,.int .i64 b.Order,.int .i64 b.Ty]
instance:fu aA 3:=⟨fun _=>rfl,fun r u hu=>by simp [aA] at hu;rcases hu with rfl|rfl|rfl<;>rfl⟩
def fH (b:Slab) : List Value:=[.int .i64 b.At,.int .i64 b.ag,.int .i64 b.si]
instance:fu fH 3:=⟨fun _=>rfl,fun r u hu=>by simp [fH] at hu;rcases hu with rfl|rfl|rfl<;>rfl⟩
theorem ia (A:Option Addr) (n c:Nat) (l:List Block) (w:World) (hl:Sl w 3 aA A n l) (hn:n*24≤140737488355328) : bl Tryz.prog 174 [.slice A n c] w (vK w 165 3 aA n l):=by
 refine aD Tryz.func174 rfl Tryz.ntmps174 rfl ?_;have hw:=Ext.refl w;refine Wz ?_;refine SW.st (oE rfl rfl) rfl ?_;repeat' (first|refine Wz ?_|(refine CW.cond rfl (fun h => ?_) (fun h => ?_)))
 ·have FD:n=0:=by
   rcases Nat.eq_zero_or_pos n with h0|h0
   ·exact h0
   ·have:=hl.base h0;simp_all
  subst FD;have:l=[]:=List.eq_nil_of_length_eq_zero hl.len
  subst this;exact ae.aI rfl rfl ⟨_,rfl,hw,none,0,rfl,Own.fj _ _ _ _ _ _⟩
 ·refine SW.vC rfl fun b w1 aa hb => ?_
  replace hw:=Ext.trans hw aa;refine Wz ?_;refine SW.rC (Nat.zero_add n) (List.nil_append l) (Own.fj w1 w.heap.size _ _ aA (some ⟨b,0,none⟩)) (hl.ext hw) hw.size rfl rfl rfl (by omega) (by omega) fun A2 c2 w2 hO hg => ?_
  replace hw:=aJ hw hg (Nat.le_refl _) (by simp [aG]);refine Wz ?_;exact ae.aI rfl rfl ⟨_,rfl,hw,A2,c2,rfl,hO⟩
def pw (o:Int) : Int:=2 ^ o.toNat
theorem dl {o:Int} (h0 : 0≤o) (h4:o≤4) : (o=0∧pw o=1)∨(o=1∧pw o=2)∨(o=2∧pw o=4)∨(o=3∧pw o=8)∨(o=4∧pw o=16):=by
 have:o=0∨o=1∨o=2∨o=3∨o=4:=by omega
 rcases this with rfl|rfl|rfl|rfl|rfl<;>decide
theorem bM {o:Int} (h0 : 0≤o) (h4:o≤4) : 1≤pw o∧pw o≤16:=by rcases dl h0 h4 with h|h|h|h|h<;>omega
theorem iI {o:Int} (h0 : 0≤o) (h4:o≤4) : pw (o+1)=2*pw o:=by
 have:o=0∨o=1∨o=2∨o=3∨o=4:=by omega
 rcases this with rfl|rfl|rfl|rfl|rfl<;>decide
def beside (a o:Int) : Int:=if a % (2*pw o)=0 then a+pw o else a-pw o
theorem oI:∀ a<256,∀ o<4,a % 2 ^ o=0→((a ^^^ 2 ^ o:Nat) : Int)=if (a:Int) % (2*2 ^ o)=0 then (a:Int)+2 ^ o else (a:Int)-2 ^ o:=by decide +kernel
theorem y8 {a:Nat} {o:Int} (ha:a<256) (h0 : 0≤o) (h4:o<4) (h:(a:Int) % pw o=0) : ((a ^^^ 2 ^ o.toNat:Nat) : Int)=beside a o:=by
 have:o=0∨o=1∨o=2∨o=3:=by omega
 rcases this with rfl|rfl|rfl|rfl
 ·exact oI a ha 0 (by omega) (by simp only [pw] at h;omega)
 ·exact oI a ha 1 (by omega) (by
   rw [show pw 1=2 by decide] at h;simp;omega)
 ·exact oI a ha 2 (by omega) (by
   rw [show pw 2=4 by decide] at h;simp;omega)
 ·exact oI a ha 3 (by omega) (by
   rw [show pw 3=8 by decide] at h;simp;omega)
def dK (f t a o:Int) : Prop:=0≤o∧o≤4∧f≤a∧a<t∧a % pw o=0
instance (f t a o:Int) : Decidable (dK f t a o):=inferInstanceAs (Decidable (_∧_))
def fR (t:Int) : Prop:=0≤t∧t≤2
instance (t:Int) : Decidable (fR t):=inferInstanceAs (Decidable (_∧_))
def gJ (a b:Block) : Prop:=a.At+pw a.Order≤b.At ∧ ¬ (b.Order<4∧a.Order=b.Order∧a.At=beside b.At b.Order)
instance (a b:Block) : Decidable (gJ a b):=inferInstanceAs (Decidable (_∧_))
def fv (f t:Int) (b:Block) : Prop:=dK f t b.At b.Order∧fR b.Ty
instance (f t:Int) (b:Block) : Decidable (fv f t b):=inferInstanceAs (Decidable (_∧_))
def cw (f t:Int) : Prop:=0≤f∧f≤t∧t≤256∧f % 16=0∧t % 16=0
instance (f t:Int) : Decidable (cw f t):=inferInstanceAs (Decidable (_∧_))
structure aU (z:ab) : Prop where
 ok:cw z.aw z.To
 len : 8*(z.Types.length:Int)=z.To-z.aw
 types:∀ t∈z.Types,fR t
 cU:∀ (i:Nat) (h:i<z.ag.length),fv z.aw z.To z.ag[i]
 next:∀ (i:Nat) (h:i+1<z.ag.length),gJ z.ag[i] z.ag[i+1]
noncomputable def df (z:ab) : Bool := @decide (aU z) (Classical.propDecidable _)
theorem iJ {z:ab} (h:aU z) : df z=true:=by unfold df;exact @decide_eq_true _ (Classical.propDecidable _) h
theorem fY {z:ab} (h : ¬ aU z) : df z=false:=by unfold df;exact @decide_eq_false _ (Classical.propDecidable _) h
theorem dc {z:ab}:df z=true↔aU z:=by
 by_cases h:aU z
 ·simp [iJ h,h]
 ·simp [fY h,h]
theorem Di {f t:Int} {a b:Block} (ha:fv f t a) (hb:fv f t b) (h:a.At+pw a.Order≤b.At) :
 (b.Order<4∧a.Order=b.Order∧a.At=beside b.At b.Order)↔(b.Order<4∧a.Order=b.Order∧a.At+pw b.Order=b.At∧a.At % pw (b.Order+1)=0):=by
 obtain ⟨⟨h1,h2,h3,h4,h5⟩,_⟩:=ha;obtain ⟨⟨g1,g2,g3,g4,g5⟩,_⟩:=hb;rw [iI g1 g2];unfold beside;constructor
 ·rintro ⟨e1,e2,e3⟩
  refine ⟨e1,e2,?_⟩;rw [e2] at h5 h;have hp:=dl g1 g2;generalize pw b.Order=q at *
  rcases hp with ⟨e,rfl⟩|⟨e,rfl⟩|⟨e,rfl⟩|⟨e,rfl⟩|⟨e,rfl⟩<;>split at e3<;>omega
 ·rintro ⟨e1,e2,e3,e4⟩
  refine ⟨e1,e2,?_⟩;rw [e2] at h5 h;have hp:=dl g1 g2;generalize pw b.Order=q at *
  rcases hp with ⟨e,rfl⟩|⟨e,rfl⟩|⟨e,rfl⟩|⟨e,rfl⟩|⟨e,rfl⟩<;>split<;>omega
def idxOf {α:Type} (p : α → Bool) (l:List α) : Int:=if l.any p then (l.findIdx p:Int) else -1
def di (l:List Block) : Int:=(l.map fun b=>pw b.Order).sum
theorem oJ (l:List Block) (k:Nat) (h:k<l.length) : di (l.take (k+1))=di (l.take k)+pw l[k].Order:=by
 unfold di;rw [List.take_succ_eq_append_getElem h,List.map_append,List.sum_append];simp
theorem ki {z:ab} (h:aU z) : ∀ k,k≤z.ag.length→0≤di (z.ag.take k)∧di (z.ag.take k)≤16*(k:Int)
 | 0,_=>by simp [di]
 | k+1,hk=>by
   have ih:=ki h k (by omega);have hb:=(h.cU k (by omega)).1;have:=bM hb.1 hb.2.1
   rw [oJ _ _ (by omega)];omega
theorem AH {z:ab} {a:Int} (hz:aU z) (h1:z.aw≤a) (h2:a<z.To) : ∃ k:Nat,(a-z.aw) / 8=k∧k<z.Types.length:=by
 have:=hz.len
 exact ⟨((a-z.aw) / 8).toNat,by omega,by omega⟩
open Go.RowKit
structure fD where
 A:Option Addr
 n:Nat
 c:Nat
def fD.v (s:fD) : Value := .slice s.A s.n s.c
def fD.nil:fD:=⟨none,0,0⟩
structure bU where
 aw:Int
 To:Int
 ag:fD
 Types:fD
def bG (z:bU) : List Value:=[.int .i64 z.aw,.int .i64 z.To,z.ag.v,z.Types.v]
instance:fu bG 4:=⟨fun _=>rfl,fun r u hu=>by simp [bG,fD.v] at hu;rcases hu with rfl|rfl|rfl|rfl<;>rfl⟩
theorem cx (r:bU) : ∀ v∈bG r,v.oneCell'=true:=fu.one (enc:=bG) r
structure yU (w:World) (r:bU) (z:ab) : Prop where
 from_:r.aw=z.aw
 jA:r.To=z.To
 free:Sl w 3 aA r.ag.A r.ag.n z.ag
 types:Sl w 1 bB r.Types.A r.Types.n z.Types
structure dT (w:World) (lo:Nat) (r:bU) (z:ab) : Prop where
 from_:r.aw=z.aw
 jA:r.To=z.To
 free:Own w lo 165 3 aA r.ag.A r.ag.n r.ag.c z.ag
 types:Own w lo 3 1 bB r.Types.A r.Types.n r.Types.c z.Types
theorem yU.ext {w w':World} {r:bU} {z:ab} (h:yU w r z) (hx:Ext w w') : yU w' r z:=⟨h.from_,h.jA,h.free.ext hx,h.types.ext hx⟩
theorem dT.ext {w w':World} {lo:Nat} {r:bU} {z:ab} (h:dT w lo r z) (hx:Ext w w') : dT w' lo r z:=⟨h.from_,h.jA,h.free.ext hx,h.types.ext hx⟩
theorem dT.low {w:World} {lo kA:Nat} {r:bU} {z:ab} (h:dT w lo r z) (hl:kA≤lo) : dT w kA r z:=⟨h.from_,h.jA,h.free.low hl,h.types.low hl⟩
theorem dT.rd {w:World} {lo:Nat} {r:bU} {z:ab} (h:dT w lo r z) : yU w r z:=⟨h.from_,h.jA,h.free.sl,h.types.sl⟩
theorem dT.cU {w w':World} {lo b t:Nat} {r:bU} {z:ab} {cs:List Value} (h:dT w lo r z) (hB:aT w b t cs) (hg:w.grownBy w' (some b)) (h1:Nat.beq t 165=false) (h2:Nat.beq t 3=false) : dT w' lo r z :=
 ⟨h.from_,h.jA,h.free.grown hg (.inr (h.free.cu hB h1)),h.types.grown hg (.inr (h.types.cu hB h2))⟩
def ab.zero:ab:=⟨0,0,[],[]⟩
def bU.zero:bU:=⟨0,0,.nil,.nil⟩
theorem dT.zero (w:World) (lo:Nat) : dT w lo .zero .zero:=⟨rfl,rfl,Own.fj _ _ _ _ _ _,Own.fj _ _ _ _ _ _⟩
theorem nk (r:bU) (z:ab) (w:World) (hr:yU w r z) (hn:r.ag.n*24≤140737488355328) (hm:r.Types.n*8≤140737488355328) :
 bl Tryz.prog 175 [.agg (bG r).toArray] w fun v w' => ∃ s,v = .agg (bG s).toArray∧dT w' w.heap.size s z∧s.ag.n=r.ag.n∧s.Types.n=r.Types.n:=by
 refine aD Tryz.func175 rfl Tryz.ntmps175 rfl ?_;refine CW.seq (CW.region (SW.box rfl rfl fun b w1 hw hb hB => ?_));refine SW.alloc rfl fun b2 w2 bo aC nl => ?_
 have oK:w.heap.size≤b2:=Nat.le_trans hw.size aC
 have cr:b2≠b:=by have:=hB.lt;omega
 replace hw:=Ext.trans hw bo;replace hB:=hB.ext bo;have wP:=hb;refine Wz ?_;refine CW.any 7 mixed (dq (by kernel_rfl)) rfl fun w1 aa bm => ?_
 replace hw:=Ext.trans hw aa;replace hB:=hB.ext aa;replace nl:=nl.ext aa;clear aa;refine Wa ?_;refine SA.one 2 rfl (by kernel_rfl) rfl ?_;refine SW.call rfl rfl (ia _ _ _ _ _ (hr.free.ext hw) hn) fun v w4 ao hv => ?_
 obtain ⟨X,c4,rfl,hX⟩:=hv;replace hX:=hX.low hw.size;replace hw:=Ext.trans hw ao;replace hB:=hB.ext ao;replace nl:=nl.ext ao;refine SW.nil (ae.sa ao ?_);refine Wa ?_;refine SA.one 5 rfl (by kernel_rfl) rfl ?_;refine SW.call rfl rfl (cX _ _ _ _ _ (hr.types.ext hw) hm) fun v w4 ao hv => ?_
 obtain ⟨Y,d4,rfl,hY⟩:=hv;replace hY:=hY.low hw.size;replace hX:=hX.ext ao;replace hw:=Ext.trans hw ao;replace hB:=hB.ext ao;replace nl:=nl.ext ao;refine SW.nil (ae.sa ao ?_);refine SA.done (by kernel_rfl) ?_;skip;refine SW.bp (i:=2) hB rfl rfl rfl rfl fun w5 q9 hg => ?_
 replace hw:=hw.own wP hg;replace hX:=hX.grown hg (.inr (hX.cu hB rfl));replace hY:=hY.grown hg (.inr (hY.cu hB rfl));replace nl:=nl.grown hg (by simpa using cr);refine Wz ?_;refine SW.bp (i:=3) q9 rfl rfl rfl rfl fun w6 LW hg => ?_
 replace hw:=hw.own wP hg;replace hX:=hX.grown hg (.inr (hX.cu q9 rfl));replace hY:=hY.grown hg (.inr (hY.cu q9 rfl));replace nl:=nl.grown hg (by simpa using cr);repeat' (first|refine Wz ?_|refine SW.st (ay rfl rfl ((fun _ _=>LW.cell))) rfl ?_)
 refine SW.ah nl rfl rfl rfl rfl (cx ⟨r.aw,r.To,⟨X,r.ag.n,c4⟩,⟨Y,r.Types.n,d4⟩⟩) fun w7 ct hg => ?_
 replace hw:=hw.own oK hg;replace hX:=hX.grown hg (.inr (hX.cu nl rfl));replace hY:=hY.grown hg (.inr (hY.cu nl rfl));refine Wz ?_;exact ae.wY rfl rfl ct rfl ⟨_,rfl,hw,⟨r.aw,r.To,⟨X,r.ag.n,c4⟩,⟨Y,r.Types.n,d4⟩⟩,rfl,⟨hr.from_,hr.jA,hX,hY⟩,rfl,rfl⟩
def eJ (f t:Int) : Int×ab:=if cw f t then (0,⟨f,t,[],List.replicate ((t-f) / 8).toNat 1⟩) else (1,.zero)
def oL (lo:Nat) (r:Int×ab) (v:Value) (w:World) : Prop := ∃ s:bU,v = .tuple #[.agg (bG s).toArray,.int .i64 r.1]∧dT w lo s r.2
theorem jB {f t:Int} (h : ¬ cw f t) : eJ f t=(1,.zero):=if_neg h
theorem ep {f t:Int} (h:cw f t) : eJ f t=(0,⟨f,t,[],List.replicate ((t-f) / 8).toNat 1⟩):=if_pos h
theorem mD {x:Int} (h : 0≤x) : x.tmod 16=x % 16:=Int.tmod_eq_emod_of_nonneg h
theorem FF (k i:Nat) (h:i<k) : (List.replicate i (1:Int)++List.replicate (k-i) 0).set i 1=List.replicate (i+1) 1++List.replicate (k-(i+1)) 0:=by
 apply List.ext_getElem (by simp;omega);intro j h1 h2;rw [List.getElem_set];by_cases hj:i=j
 ·subst hj;simp
 ·simp only [hj,if_false,List.getElem_append,List.length_replicate,List.getElem_replicate];by_cases h3:j<i
  ·simp [h3,show j<i+1 by omega]
  ·simp [h3,show ¬ j<i+1 by omega]
theorem sn (f t:Int) (w:World) (hf : -9223372036854775808≤f∧f≤9223372036854775807) (ht : -9223372036854775808≤t∧t≤9223372036854775807) : bl Tryz.prog 134 [.int .i64 f,.int .i64 t] w (oL w.heap.size (eJ f t)):=by
 refine aD Tryz.func134 rfl Tryz.ntmps134 rfl ?_;refine CW.seq (CW.region (SW.alloc rfl fun b4 w1 hw je aQ => ?_));have fZ:=je;by_cases iO:cw f t
 ·obtain ⟨h1,h2,h3,h4,h5⟩:=id iO;have m1:=mD h1;have m2:=mD (show 0≤t by omega);rw [ep iO];obtain ⟨k,hk⟩ : ∃ k:Nat,(t-f) / 8=k:=⟨((t-f) / 8).toNat,by omega⟩;refine Wz ?_;refine SW.make (enc:=bB) (k:=k) 0 rfl rfl (by omega) (by omega) (by omega) rfl fun A c w2 bo hO => ?_
  replace hO:=hO.low hw.size;(replace hw:=Ext.trans hw bo;replace aQ:=aQ.ext bo);refine Wz ?_;refine SW.alloc rfl fun b6 w1 aa fk az => ?_
  have dU:w.heap.size≤b6:=Nat.le_trans hw.size fk
  have vL:b4≠b6:=by have:=aQ.lt;omega
  replace hw:=Ext.trans hw aa;replace aQ:=aQ.ext aa;replace hO:=hO.ext aa;refine SW.ah az rfl rfl rfl rfl (cx ⟨f,t,.nil,⟨A,k,c⟩⟩) fun w2 de hg => ?_
  replace hw:=hw.own dU hg;replace hO:=hO.grown hg (.inr (hO.cu az rfl));replace aQ:=aQ.grown hg (by simpa using vL);replace az:=de;clear de aa hg fk;have hA:=hO.sl.base;refine Wz ?_
  refine CW.loop (fun i:Nat=>[(4,.pointer (some ⟨b4,0,none⟩)),(6,.pointer (some ⟨b6,0,none⟩)),(40,.int .i64 (k:Int)),(41,.int .i64 (i:Int))])
   (fun i w'=>i≤k∧Ext w w'∧aT w' b4 139 (bG .zero)∧aT w' b6 139 (bG ⟨f,t,.nil,⟨A,k,c⟩⟩)∧Own w' w.heap.size 3 1 bB A k c (List.replicate i 1++List.replicate (k-i) 0)) (fun i=>k-i) 0
   ⟨rfl,rfl,rfl,rfl,trivial⟩ ⟨by omega,hw,aQ,az,by simpa using hO⟩ ?_
  clear hw aQ az hO;rintro i w' ⟨hi,hw,aQ,az,hO⟩
  have hA:=hO.sl.base;by_cases uD:i<k
  ·refine Wz ?_;refine SW.Dd i hO rfl rfl uD fun w3 Bv hg => ?_
   replace hw:=aJ hw hg (Nat.le_refl _) hO.ba;replace aQ:=aQ.grown hg (fun e=>hO.cu aQ rfl e.symm);replace az:=az.grown hg (fun e=>hO.cu az rfl e.symm);rw [FF k i uD] at Bv;refine Wz ?_;exact ae.again (i+1) ⟨rfl,rfl,rfl,rfl,trivial⟩ (by omega) ⟨by omega,hw,aQ,az,Bv⟩
  ·obtain rfl:i=k:=by omega
   simp only [Nat.sub_self,List.replicate_zero,List.append_nil] at hO;refine Wz ?_;refine SW.ah aQ rfl rfl rfl rfl (cx ⟨f,t,.nil,⟨A,i,c⟩⟩) fun w5 ct hg => ?_
   replace hw:=hw.own fZ hg;replace hO:=hO.grown hg (.inr (hO.cu aQ rfl));refine Wz ?_;refine ae.cA rfl rfl rfl ct rfl ⟨_,rfl,hw,⟨f,t,.nil,⟨A,i,c⟩⟩,rfl,rfl,rfl,Own.fj _ _ _ _ _ _,?_⟩;simp only [hk,Int.toNat_natCast];exact hO
 ·rw [jB iO];unfold cw at iO;have m1:=fun h => @mD f h
  have m2:=fun h => @mD t h
  by_cases h1 : 0≤f
  ·have m1:=m1 h1;by_cases h2:f≤t
   ·have m2:=m2 (by omega);repeat' (first|refine Wz ?_|refine SW.en rfl rfl rfl (fun h => ?_) (fun h => ?_)|refine SW.n5 rfl rfl rfl (fun h => ?_) (fun h => ?_))
    all_goals
     first
      | (exfalso;omega)
      | (refine SW.ah aQ rfl rfl rfl rfl (cx .zero) fun w5 ct hg => ?_
         replace hw:=hw.own fZ hg;refine Wz ?_;exact ae.cA rfl rfl rfl ct rfl ⟨_,rfl,hw,.zero,rfl,dT.zero _ _⟩)
   ·repeat' (first|refine Wz ?_|refine SW.en rfl rfl rfl (fun h => ?_) (fun h => ?_))
    all_goals
     refine SW.ah aQ rfl rfl rfl rfl (cx .zero) fun w5 ct hg => ?_
     replace hw:=hw.own fZ hg;refine Wz ?_;exact ae.cA rfl rfl rfl ct rfl ⟨_,rfl,hw,.zero,rfl,dT.zero _ _⟩
  ·refine Wz ?_
   all_goals
    refine SW.ah aQ rfl rfl rfl rfl (cx .zero) fun w5 ct hg => ?_
    replace hw:=hw.own fZ hg;refine Wz ?_;exact ae.cA rfl rfl rfl ct rfl ⟨_,rfl,hw,.zero,rfl,dT.zero _ _⟩
open Go.RowKit
theorem xb (f t:Int) (w:World) (hf : -9223372036854775808≤f∧f≤9223372036854775807) (ht : -9223372036854775808≤t∧t≤9223372036854775807) : bl Tryz.prog 148 [.int .i64 f,.int .i64 t] w (oL w.heap.size (eJ f t)):=by
 refine aD Tryz.func148 rfl Tryz.ntmps148 rfl ?_;refine CW.seq (CW.region (SW.alloc rfl fun b4 w1 hw je aQ => ?_));have fZ:=je;by_cases iO:cw f t
 ·obtain ⟨h1,h2,h3,h4,h5⟩:=id iO;have m1:=mD h1;have m2:=mD (show 0≤t by omega);rw [ep iO];obtain ⟨k,hk⟩ : ∃ k:Nat,(t-f) / 8=k:=⟨((t-f) / 8).toNat,by omega⟩;repeat' (first|refine Wz ?_|(refine SW.call rfl rfl (gI _ _ _ _) ?_;intro v w1 aa hv;subst hv;replace hw:=Ext.trans hw aa;replace aQ:=aQ.ext aa;clear aa))
  refine SW.alloc rfl fun b6 w1 aa fk az => ?_
  have dU:w.heap.size≤b6:=Nat.le_trans hw.size fk
  have vL:b4≠b6:=by have:=aQ.lt;omega
  replace hw:=Ext.trans hw aa;replace aQ:=aQ.ext aa;refine SW.ah az rfl rfl rfl rfl (cx ⟨f,t,.nil,.nil⟩) fun w2 de hg => ?_
  replace hw:=hw.own dU hg;replace aQ:=aQ.grown hg (by simpa using vL);replace az:=de;clear de aa hg fk;refine Wz ?_
  refine CW.loop (fun s:Nat×Option Addr×Nat=>[(1,.int .i64 t),(4,.pointer (some ⟨b4,0,none⟩)),(6,.pointer (some ⟨b6,0,none⟩)),(7,.int .i64 (f+8*(s.1:Int)))])
   (fun s w'=>s.1≤k∧Ext w w'∧aT w' b4 139 (bG .zero)∧aT w' b6 139 (bG ⟨f,t,.nil,⟨s.2.1,s.1,s.2.2⟩⟩)∧Own w' w.heap.size 3 1 bB s.2.1 s.1 s.2.2 (List.replicate s.1 1)) (fun s=>k-s.1) (0,none,0)
   ⟨rfl,rfl,rfl,by simp;rfl,trivial⟩ ⟨by omega,hw,aQ,az,Own.fj _ _ _ _ _ _⟩ ?_
  clear hw aQ az;rintro ⟨i,A,c⟩ w' ⟨hi,hw,aQ,az,hO⟩
  simp only at hi az hO ⊢;by_cases uD:i<k
  ·refine Wz ?_;refine SW.dJ rfl rfl rfl rfl rfl fun b w1 aa hb hB => ?_
   (replace hw:=Ext.trans hw aa;replace aQ:=aQ.ext aa;replace az:=az.ext aa;replace hO:=hO.ext aa);refine SW.append hO (aT.wU (enc:=bB) (x:=1) hB) hw.size rfl rfl rfl (by omega) (by omega) fun A2 c2 w2 mn hg => ?_
   replace hw:=aJ hw hg (Nat.le_refl _) hO.ba;replace aQ:=aQ.grown hg (fun e=>hO.cu aQ rfl e.symm);replace az:=az.grown hg (fun e=>hO.cu az rfl e.symm);refine Wz ?_;refine SW.bp (i:=3) az rfl rfl rfl rfl fun w5 de hg => ?_
   replace hw:=hw.own dU hg;replace mn:=mn.grown hg (.inr (mn.cu az rfl));replace aQ:=aQ.grown hg (by simpa using vL);refine Wz ?_;refine ae.again (i+1,A2,c2) ⟨rfl,rfl,rfl,by simp only [get];simp;omega,trivial⟩ (by simp only;omega) ⟨by simp only;omega,hw,aQ,de,?_⟩;simp only [List.replicate_succ'];exact mn
  ·obtain rfl:i=k:=by omega
   refine Wz ?_;refine SW.ah aQ rfl rfl rfl rfl (cx ⟨f,t,.nil,⟨A,i,c⟩⟩) fun w5 ct hg => ?_
   replace hw:=hw.own fZ hg;replace hO:=hO.grown hg (.inr (hO.cu aQ rfl));refine Wz ?_;refine ae.cA rfl rfl rfl ct rfl ⟨_,rfl,hw,⟨f,t,.nil,⟨A,i,c⟩⟩,rfl,rfl,rfl,Own.fj _ _ _ _ _ _,?_⟩;simp only [hk,Int.toNat_natCast];exact hO
 ·rw [jB iO];unfold cw at iO;have m1:=fun h => @mD f h
  have m2:=fun h => @mD t h
  by_cases h1 : 0≤f
  ·have m1:=m1 h1;by_cases h2:f≤t
   ·have m2:=m2 (by omega);repeat' (first|refine Wz ?_|refine SW.n5 rfl rfl rfl (fun h => ?_) (fun h => ?_)|(refine SW.call rfl rfl (gI _ _ _ _) ?_;intro v w1 aa hv;subst hv;replace hw:=Ext.trans hw aa;replace aQ:=aQ.ext aa;clear aa))
    all_goals
     first
      | (exfalso;omega)
      | (refine SW.ah aQ rfl rfl rfl rfl (cx .zero) fun w5 ct hg => ?_
         replace hw:=hw.own fZ hg;refine Wz ?_;exact ae.cA rfl rfl rfl ct rfl ⟨_,rfl,hw,.zero,rfl,dT.zero _ _⟩)
   ·repeat' (first|refine Wz ?_|refine SW.n5 rfl rfl rfl (fun h => ?_) (fun h => ?_)|(refine SW.call rfl rfl (gI _ _ _ _) ?_;intro v w1 aa hv;subst hv;replace hw:=Ext.trans hw aa;replace aQ:=aQ.ext aa;clear aa))
    all_goals
     refine SW.ah aQ rfl rfl rfl rfl (cx .zero) fun w5 ct hg => ?_
     replace hw:=hw.own fZ hg;refine Wz ?_;exact ae.cA rfl rfl rfl ct rfl ⟨_,rfl,hw,.zero,rfl,dT.zero _ _⟩
  ·repeat' (first|refine Wz ?_|(refine SW.call rfl rfl (gI _ _ _ _) ?_;intro v w1 aa hv;subst hv;replace hw:=Ext.trans hw aa;replace aQ:=aQ.ext aa;clear aa))
   all_goals
    refine SW.ah aQ rfl rfl rfl rfl (cx .zero) fun w5 ct hg => ?_
    replace hw:=hw.own fZ hg;refine Wz ?_;exact ae.cA rfl rfl rfl ct rfl ⟨_,rfl,hw,.zero,rfl,dT.zero _ _⟩
end Go.Proofs.YtbidkghlpijecaaGreatDoor
