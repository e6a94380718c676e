/-
  Texts of the claim TopProcessors, part 3: what its theorem leans on.
-/
import Derived.Test.YtbidkghlpijecaaGreatDoorPackTopProcessors1
import Derived.Test.YtbidkghlpijecaaGreatDoorChecked
import Derived.Test.YtbidkghlpijecaaGreatDoorPackTopProcessors2
set_option linter.unusedVariables false
set_option linter.unusedSimpArgs false
namespace Go.Proofs.YtbidkghlpijecaaGreatDoor
instance:gH Tryz.prog 3:=⟨by kernel_rfl,by kernel_rfl⟩
instance:dj Tryz.prog 3 (.int .i64 0) 1 8:=⟨by kernel_rfl,by kernel_rfl,by decide⟩
instance:gH Tryz.prog 4:=⟨by kernel_rfl,by kernel_rfl⟩
instance:dj Tryz.prog 4 (.bool false) 1 1:=⟨by kernel_rfl,by kernel_rfl,by decide⟩
instance:gH Tryz.prog 5:=⟨by kernel_rfl,by kernel_rfl⟩
instance:gH Tryz.prog 9:=⟨by kernel_rfl,by kernel_rfl⟩
instance:dj Tryz.prog 9 (.string ByteArray.empty) 1 16:=⟨by kernel_rfl,by kernel_rfl,by decide⟩
instance:gH Tryz.prog 25:=⟨by kernel_rfl,by kernel_rfl⟩
instance:bj Tryz.prog 25 123 2:=⟨by kernel_rfl,by kernel_rfl⟩
instance:fj Tryz.prog 27 2:=⟨by kernel_rfl,by kernel_rfl⟩
instance:gJ Tryz.prog 27 [(0,1),(1,1)] [.slice none 0 0,.slice none 0 0]:=⟨by kernel_rfl,by kernel_rfl⟩
instance:bu Tryz.prog 27 0 0 25:=⟨by kernel_rfl,by kernel_rfl⟩
instance:bu Tryz.prog 27 1 1 25:=⟨by kernel_rfl,by kernel_rfl⟩
instance:dj Tryz.prog 29 (.agg #[.slice none 0 0,.slice none 0 0,.int .i64 0,.int .i64 0,.int .i64 0]) 5 72:=⟨by kernel_rfl,by kernel_rfl,by decide⟩
instance:fj Tryz.prog 29 5:=⟨by kernel_rfl,by kernel_rfl⟩
instance:gJ Tryz.prog 29 [(0,2),(2,1),(3,1),(4,1)] [.slice none 0 0,.slice none 0 0,.int .i64 0,.int .i64 0,.int .i64 0]:=⟨by kernel_rfl,by kernel_rfl⟩
instance:bu Tryz.prog 29 0 0 27:=⟨by kernel_rfl,by kernel_rfl⟩
instance:bu Tryz.prog 29 1 2 3:=⟨by kernel_rfl,by kernel_rfl⟩
instance:bu Tryz.prog 29 2 3 3:=⟨by kernel_rfl,by kernel_rfl⟩
instance:bu Tryz.prog 29 3 4 3:=⟨by kernel_rfl,by kernel_rfl⟩
instance:bj Tryz.prog 32 35 7:=⟨by kernel_rfl,by kernel_rfl⟩
instance:dj Tryz.prog 35 (.agg #[.int .i64 0,.int .i64 0,.int .i64 0,.int .i64 0,.int .i64 0,.int .i64 0,.string ByteArray.empty]) 7 64:=⟨by kernel_rfl,by kernel_rfl,by decide⟩
instance:fj Tryz.prog 35 7:=⟨by kernel_rfl,by kernel_rfl⟩
instance:gJ Tryz.prog 35 [(0,1),(1,1),(2,1),(3,1),(4,1),(5,1),(6,1)] [.int .i64 0,.int .i64 0,.int .i64 0,.int .i64 0,.int .i64 0,.int .i64 0,.string ByteArray.empty]:=⟨by kernel_rfl,by kernel_rfl⟩
instance:bu Tryz.prog 35 0 0 3:=⟨by kernel_rfl,by kernel_rfl⟩
instance:bu Tryz.prog 35 1 1 3:=⟨by kernel_rfl,by kernel_rfl⟩
instance:bu Tryz.prog 35 2 2 3:=⟨by kernel_rfl,by kernel_rfl⟩
instance:bu Tryz.prog 35 4 4 3:=⟨by kernel_rfl,by kernel_rfl⟩
instance:gH Tryz.prog 36:=⟨by kernel_rfl,by kernel_rfl⟩
instance:bj Tryz.prog 36 3 1:=⟨by kernel_rfl,by kernel_rfl⟩
instance:gH Tryz.prog 37:=⟨by kernel_rfl,by kernel_rfl⟩
instance:bj Tryz.prog 37 139 4:=⟨by kernel_rfl,by kernel_rfl⟩
instance:gH Tryz.prog 38:=⟨by kernel_rfl,by kernel_rfl⟩
instance:bj Tryz.prog 38 142 4:=⟨by kernel_rfl,by kernel_rfl⟩
instance:gH Tryz.prog 39:=⟨by kernel_rfl,by kernel_rfl⟩
instance:bj Tryz.prog 39 165 3:=⟨by kernel_rfl,by kernel_rfl⟩
instance:dj Tryz.prog 41 (.agg #[.slice none 0 0,.slice none 0 0,.int .i64 0,.slice none 0 0,.slice none 0 0]) 5 104:=⟨by kernel_rfl,by kernel_rfl,by decide⟩
instance:fj Tryz.prog 41 5:=⟨by kernel_rfl,by kernel_rfl⟩
instance:gJ Tryz.prog 41 [(0,1),(1,1),(2,1),(3,1),(4,1)] [.slice none 0 0,.slice none 0 0,.int .i64 0,.slice none 0 0,.slice none 0 0]:=⟨by kernel_rfl,by kernel_rfl⟩
instance:bu Tryz.prog 41 0 0 37:=⟨by kernel_rfl,by kernel_rfl⟩
instance:bu Tryz.prog 41 1 1 36:=⟨by kernel_rfl,by kernel_rfl⟩
instance:bu Tryz.prog 41 2 2 3:=⟨by kernel_rfl,by kernel_rfl⟩
instance:bu Tryz.prog 41 3 3 38:=⟨by kernel_rfl,by kernel_rfl⟩
instance:bu Tryz.prog 41 4 4 39:=⟨by kernel_rfl,by kernel_rfl⟩
instance:gH Tryz.prog 42:=⟨by kernel_rfl,by kernel_rfl⟩
instance:bj Tryz.prog 42 89 6:=⟨by kernel_rfl,by kernel_rfl⟩
instance:dj Tryz.prog 44 (.agg #[.slice none 0 0,.slice none 0 0,.slice none 0 0,.int .i64 0,.slice none 0 0,.slice none 0 0,.slice none 0 0]) 7 152:=⟨by kernel_rfl,by kernel_rfl,by decide⟩
instance:fj Tryz.prog 44 7:=⟨by kernel_rfl,by kernel_rfl⟩
instance:gJ Tryz.prog 44 [(0,1),(1,5),(6,1)] [.slice none 0 0,.slice none 0 0,.slice none 0 0,.int .i64 0,.slice none 0 0,.slice none 0 0,.slice none 0 0]:=⟨by kernel_rfl,by kernel_rfl⟩
instance:bu Tryz.prog 44 0 0 36:=⟨by kernel_rfl,by kernel_rfl⟩
instance:bu Tryz.prog 44 1 1 41:=⟨by kernel_rfl,by kernel_rfl⟩
instance:bu Tryz.prog 44 2 6 42:=⟨by kernel_rfl,by kernel_rfl⟩
instance:bj Tryz.prog 45 55 3:=⟨by kernel_rfl,by kernel_rfl⟩
instance:gH Tryz.prog 51:=⟨by kernel_rfl,by kernel_rfl⟩
instance:dj Tryz.prog 55 (.agg #[.int .i64 0,.int .i64 0,.slice none 0 0]) 3 40:=⟨by kernel_rfl,by kernel_rfl,by decide⟩
instance:fj Tryz.prog 55 3:=⟨by kernel_rfl,by kernel_rfl⟩
instance:gJ Tryz.prog 55 [(0,1),(1,1),(2,1)] [.int .i64 0,.int .i64 0,.slice none 0 0]:=⟨by kernel_rfl,by kernel_rfl⟩
instance:bu Tryz.prog 55 0 0 51:=⟨by kernel_rfl,by kernel_rfl⟩
instance:bu Tryz.prog 55 1 1 3:=⟨by kernel_rfl,by kernel_rfl⟩
instance:gH Tryz.prog 61:=⟨by kernel_rfl,by kernel_rfl⟩
instance:bj Tryz.prog 61 9 1:=⟨by kernel_rfl,by kernel_rfl⟩
instance:gH Tryz.prog 87:=⟨by kernel_rfl,by kernel_rfl⟩
instance:bj Tryz.prog 87 91 3:=⟨by kernel_rfl,by kernel_rfl⟩
instance:dj Tryz.prog 89 (.agg #[.slice none 0 0,.int .i64 0,.int .i64 0,.int .i64 0,.slice none 0 0,.slice none 0 0]) 6 96:=⟨by kernel_rfl,by kernel_rfl,by decide⟩
instance:fj Tryz.prog 89 6:=⟨by kernel_rfl,by kernel_rfl⟩
instance:gJ Tryz.prog 89 [(0,1),(1,1),(2,1),(3,1),(4,1),(5,1)] [.slice none 0 0,.int .i64 0,.int .i64 0,.int .i64 0,.slice none 0 0,.slice none 0 0]:=⟨by kernel_rfl,by kernel_rfl⟩
instance:bu Tryz.prog 89 0 0 61:=⟨by kernel_rfl,by kernel_rfl⟩
instance:bu Tryz.prog 89 1 1 3:=⟨by kernel_rfl,by kernel_rfl⟩
instance:bu Tryz.prog 89 2 2 3:=⟨by kernel_rfl,by kernel_rfl⟩
instance:bu Tryz.prog 89 3 3 3:=⟨by kernel_rfl,by kernel_rfl⟩
instance:bu Tryz.prog 89 4 4 87:=⟨by kernel_rfl,by kernel_rfl⟩
instance:bu Tryz.prog 89 5 5 36:=⟨by kernel_rfl,by kernel_rfl⟩
instance:dj Tryz.prog 91 (.agg #[.int .i64 0,.int .i64 0,.int .i64 0]) 3 24:=⟨by kernel_rfl,by kernel_rfl,by decide⟩
instance:fj Tryz.prog 91 3:=⟨by kernel_rfl,by kernel_rfl⟩
instance:gJ Tryz.prog 91 [(0,1),(1,1),(2,1)] [.int .i64 0,.int .i64 0,.int .i64 0]:=⟨by kernel_rfl,by kernel_rfl⟩
instance:bu Tryz.prog 91 0 0 3:=⟨by kernel_rfl,by kernel_rfl⟩
instance:bu Tryz.prog 91 1 1 3:=⟨by kernel_rfl,by kernel_rfl⟩
instance:bu Tryz.prog 91 2 2 3:=⟨by kernel_rfl,by kernel_rfl⟩
instance:va Tryz.prog 111 6 3 1:=⟨by kernel_rfl,by kernel_rfl⟩
instance:fj Tryz.prog 111 6:=⟨by kernel_rfl,by kernel_rfl⟩
instance:dj Tryz.prog 123 (.agg #[.int .i64 0,.int .i64 0]) 2 16:=⟨by kernel_rfl,by kernel_rfl,by decide⟩
instance:fj Tryz.prog 123 2:=⟨by kernel_rfl,by kernel_rfl⟩
instance:gJ Tryz.prog 123 [(0,1),(1,1)] [.int .i64 0,.int .i64 0]:=⟨by kernel_rfl,by kernel_rfl⟩
instance:bu Tryz.prog 123 0 0 3:=⟨by kernel_rfl,by kernel_rfl⟩
instance:bu Tryz.prog 123 1 1 3:=⟨by kernel_rfl,by kernel_rfl⟩
instance:dj Tryz.prog 139 (.agg #[.int .i64 0,.int .i64 0,.slice none 0 0,.slice none 0 0]) 4 64:=⟨by kernel_rfl,by kernel_rfl,by decide⟩
instance:fj Tryz.prog 139 4:=⟨by kernel_rfl,by kernel_rfl⟩
instance:gJ Tryz.prog 139 [(0,1),(1,1),(2,1),(3,1)] [.int .i64 0,.int .i64 0,.slice none 0 0,.slice none 0 0]:=⟨by kernel_rfl,by kernel_rfl⟩
instance:bu Tryz.prog 139 0 0 3:=⟨by kernel_rfl,by kernel_rfl⟩
instance:bu Tryz.prog 139 1 1 3:=⟨by kernel_rfl,by kernel_rfl⟩
instance:bu Tryz.prog 139 2 2 39:=⟨by kernel_rfl,by kernel_rfl⟩
instance:bu Tryz.prog 139 3 3 36:=⟨by kernel_rfl,by kernel_rfl⟩
instance:dj Tryz.prog 142 (.agg #[.int .i64 0,.int .i64 0,.int .i64 0,.slice none 0 0]) 4 48:=⟨by kernel_rfl,by kernel_rfl,by decide⟩
instance:fj Tryz.prog 142 4:=⟨by kernel_rfl,by kernel_rfl⟩
instance:gJ Tryz.prog 142 [(0,1),(1,1),(2,1),(3,1)] [.int .i64 0,.int .i64 0,.int .i64 0,.slice none 0 0]:=⟨by kernel_rfl,by kernel_rfl⟩
instance:bu Tryz.prog 142 0 0 3:=⟨by kernel_rfl,by kernel_rfl⟩
instance:bu Tryz.prog 142 1 1 3:=⟨by kernel_rfl,by kernel_rfl⟩
instance:bu Tryz.prog 142 2 2 3:=⟨by kernel_rfl,by kernel_rfl⟩
instance:bu Tryz.prog 142 3 3 36:=⟨by kernel_rfl,by kernel_rfl⟩
instance:gH Tryz.prog 156:=⟨by kernel_rfl,by kernel_rfl⟩
instance:dj Tryz.prog 156 (.pointer none) 1 8:=⟨by kernel_rfl,by kernel_rfl,by decide⟩
instance:dj Tryz.prog 165 (.agg #[.int .i64 0,.int .i64 0,.int .i64 0]) 3 24:=⟨by kernel_rfl,by kernel_rfl,by decide⟩
instance:fj Tryz.prog 165 3:=⟨by kernel_rfl,by kernel_rfl⟩
instance:gJ Tryz.prog 165 [(0,1),(1,1),(2,1)] [.int .i64 0,.int .i64 0,.int .i64 0]:=⟨by kernel_rfl,by kernel_rfl⟩
instance:bu Tryz.prog 165 0 0 3:=⟨by kernel_rfl,by kernel_rfl⟩
instance:bu Tryz.prog 165 1 1 3:=⟨by kernel_rfl,by kernel_rfl⟩
instance:bu Tryz.prog 165 2 2 3:=⟨by kernel_rfl,by kernel_rfl⟩
instance:bj Tryz.prog 189 4 1:=⟨by kernel_rfl,by kernel_rfl⟩
instance:va Tryz.prog 222 256 4 1:=⟨by kernel_rfl,by kernel_rfl⟩
instance:gJ Tryz.prog 224 [(0,256),(256,1)] [.bool false,.bool false,.bool false,.bool false,.bool false,.bool false,.bool false,.bool false,.bool false,.bool false,.bool false,.bool false,.bool false,.bool false,.bool false,.bool false,.bool false,.bool false,.bool false,.bool false,.bool false,.bool false,.bool false,.bool false,.bool false,.bool false,.bool false,.bool false,.bool false,.bool false,.bool false,.bool false,.bool false,.bool false,.bool false,.bool false,.bool false,.bool false,.bool false,.bool false,.bool false,.bool false,.bool false,.bool false,.bool false,.bool false,.bool false,.bool false,.bool false,.bool false,.bool false,.bool false,.bool false,.bool false,.bool false,.bool false,.bool false,.bool false,.bool false,.bool false,.bool false,.bool false,.bool false,.bool false,.bool false,.bool false,.bool false,.bool false,.bool false,.bool false,.bool false,.bool false,.bool false,.bool false,.bool false,.bool false,.bool false,.bool false,.bool false,.bool false,.bool false,.bool false,.bool false,.bool false,.bool false,.bool false,.bool false,.bool false,.bool false,.bool false,.bool false,.bool false,.bool false,.bool false,.bool false,.bool false,.bool false,.bool false,.bool false,.bool false,.bool false,.bool false,.bool false,.bool false,.bool false,.bool false,.bool false,.bool false,.bool false,.bool false,.bool false,.bool false,.bool false,.bool false,.bool false,.bool false,.bool false,.bool false,.bool false,.bool false,.bool false,.bool false,.bool false,.bool false,.bool false,.bool false,.bool false,.bool false,.bool false,.bool false,.bool false,.bool false,.bool false,.bool false,.bool false,.bool false,.bool false,.bool false,.bool false,.bool false,.bool false,.bool false,.bool false,.bool false,.bool false,.bool false,.bool false,.bool false,.bool false,.bool false,.bool false,.bool false,.bool false,.bool false,.bool false,.bool false,.bool false,.bool false,.bool false,.bool false,.bool false,.bool false,.bool false,.bool false,.bool false,.bool false,.bool false,.bool false,.bool false,.bool false,.bool false,.bool false,.bool false,.bool false,.bool false,.bool false,.bool false,.bool false,.bool false,.bool false,.bool false,.bool false,.bool false,.bool false,.bool false,.bool false,.bool false,.bool false,.bool false,.bool false,.bool false,.bool false,.bool false,.bool false,.bool false,.bool false,.bool false,.bool false,.bool false,.bool false,.bool false,.bool false,.bool false,.bool false,.bool false,.bool false,.bool false,.bool false,.bool false,.bool false,.bool false,.bool false,.bool false,.bool false,.bool false,.bool false,.bool false,.bool false,.bool false,.bool false,.bool false,.bool false,.bool false,.bool false,.bool false,.bool false,.bool false,.bool false,.bool false,.bool false,.bool false,.bool false,.bool false,.bool false,.bool false,.bool false,.bool false,.bool false,.bool false,.bool false,.bool false,.bool false,.bool false,.bool false,.bool false,.bool false,.bool false,.bool false,.bool false,.bool false,.bool false,.bool false,.bool false,.bool false,.bool false,.bool false,.bool false]:=⟨by kernel_rfl,by kernel_rfl⟩
instance:bu Tryz.prog 224 0 0 222:=⟨by kernel_rfl,by kernel_rfl⟩
instance:bu Tryz.prog 224 1 256 4:=⟨by kernel_rfl,by kernel_rfl⟩
instance:bj Tryz.prog 229 5 1:=⟨by kernel_rfl,by kernel_rfl⟩
instance:va Tryz.prog 280 2 3 1:=⟨by kernel_rfl,by kernel_rfl⟩
instance:fj Tryz.prog 280 2:=⟨by kernel_rfl,by kernel_rfl⟩
instance:va Tryz.prog 281 3 280 2:=⟨by kernel_rfl,by kernel_rfl⟩
instance:Body Tryz.prog 13:=az Tryz.func13 (by kernel_rfl) (by kernel_rfl)
instance:Body Tryz.prog 16:=az Tryz.func16 (by kernel_rfl) (by kernel_rfl)
instance:Body Tryz.prog 17:=az Tryz.func17 (by kernel_rfl) (by kernel_rfl)
instance:Body Tryz.prog 21:=az Tryz.func21 (by kernel_rfl) (by kernel_rfl)
instance:Body Tryz.prog 24:=az Tryz.func24 (by kernel_rfl) (by kernel_rfl)
instance:Body Tryz.prog 26:=az Tryz.func26 (by kernel_rfl) (by kernel_rfl)
instance:Body Tryz.prog 32:=az Tryz.func32 (by kernel_rfl) (by kernel_rfl)
instance:Body Tryz.prog 35:=az Tryz.func35 (by kernel_rfl) (by kernel_rfl)
instance:Body Tryz.prog 36:=az Tryz.func36 (by kernel_rfl) (by kernel_rfl)
instance:Body Tryz.prog 37:=az Tryz.func37 (by kernel_rfl) (by kernel_rfl)
instance:Body Tryz.prog 41:=az Tryz.func41 (by kernel_rfl) (by kernel_rfl)
instance:Body Tryz.prog 42:=az Tryz.func42 (by kernel_rfl) (by kernel_rfl)
instance:Body Tryz.prog 43:=az Tryz.func43 (by kernel_rfl) (by kernel_rfl)
instance:Body Tryz.prog 44:=az Tryz.func44 (by kernel_rfl) (by kernel_rfl)
instance:Body Tryz.prog 45:=az Tryz.func45 (by kernel_rfl) (by kernel_rfl)
instance:Body Tryz.prog 46:=az Tryz.func46 (by kernel_rfl) (by kernel_rfl)
instance:Body Tryz.prog 48:=az Tryz.func48 (by kernel_rfl) (by kernel_rfl)
instance:Body Tryz.prog 55:=az Tryz.func55 (by kernel_rfl) (by kernel_rfl)
instance:Body Tryz.prog 56:=az Tryz.func56 (by kernel_rfl) (by kernel_rfl)
instance:Body Tryz.prog 57:=az Tryz.func57 (by kernel_rfl) (by kernel_rfl)
instance:Body Tryz.prog 58:=az Tryz.func58 (by kernel_rfl) (by kernel_rfl)
instance:Body Tryz.prog 59:=az Tryz.func59 (by kernel_rfl) (by kernel_rfl)
instance:Body Tryz.prog 65:=az Tryz.func65 (by kernel_rfl) (by kernel_rfl)
instance:Body Tryz.prog 66:=az Tryz.func66 (by kernel_rfl) (by kernel_rfl)
instance:Body Tryz.prog 67:=az Tryz.func67 (by kernel_rfl) (by kernel_rfl)
instance:Body Tryz.prog 69:=az Tryz.func69 (by kernel_rfl) (by kernel_rfl)
instance:Body Tryz.prog 71:=az Tryz.func71 (by kernel_rfl) (by kernel_rfl)
instance:Body Tryz.prog 80:=az Tryz.func80 (by kernel_rfl) (by kernel_rfl)
instance:Body Tryz.prog 82:=az Tryz.func82 (by kernel_rfl) (by kernel_rfl)
instance:Body Tryz.prog 83:=az Tryz.func83 (by kernel_rfl) (by kernel_rfl)
instance:Body Tryz.prog 84:=az Tryz.func84 (by kernel_rfl) (by kernel_rfl)
instance:Body Tryz.prog 85:=az Tryz.func85 (by kernel_rfl) (by kernel_rfl)
instance:Body Tryz.prog 88:=az Tryz.func88 (by kernel_rfl) (by kernel_rfl)
instance:Body Tryz.prog 89:=az Tryz.func89 (by kernel_rfl) (by kernel_rfl)
instance:Body Tryz.prog 90:=az Tryz.func90 (by kernel_rfl) (by kernel_rfl)
instance:Body Tryz.prog 91:=az Tryz.func91 (by kernel_rfl) (by kernel_rfl)
instance:Body Tryz.prog 92:=az Tryz.func92 (by kernel_rfl) (by kernel_rfl)
instance:Body Tryz.prog 93:=az Tryz.func93 (by kernel_rfl) (by kernel_rfl)
instance:Body Tryz.prog 94:=az Tryz.func94 (by kernel_rfl) (by kernel_rfl)
instance:Body Tryz.prog 95:=az Tryz.func95 (by kernel_rfl) (by kernel_rfl)
instance:Body Tryz.prog 96:=az Tryz.func96 (by kernel_rfl) (by kernel_rfl)
instance:Body Tryz.prog 97:=az Tryz.func97 (by kernel_rfl) (by kernel_rfl)
instance:Body Tryz.prog 98:=az Tryz.func98 (by kernel_rfl) (by kernel_rfl)
instance:Body Tryz.prog 99:=az Tryz.func99 (by kernel_rfl) (by kernel_rfl)
instance:Body Tryz.prog 100:=az Tryz.func100 (by kernel_rfl) (by kernel_rfl)
instance:Body Tryz.prog 101:=az Tryz.func101 (by kernel_rfl) (by kernel_rfl)
instance:Body Tryz.prog 102:=az Tryz.func102 (by kernel_rfl) (by kernel_rfl)
instance:Body Tryz.prog 103:=az Tryz.func103 (by kernel_rfl) (by kernel_rfl)
instance:Body Tryz.prog 104:=az Tryz.func104 (by kernel_rfl) (by kernel_rfl)
instance:Body Tryz.prog 105:=az Tryz.func105 (by kernel_rfl) (by kernel_rfl)
instance:Body Tryz.prog 106:=az Tryz.func106 (by kernel_rfl) (by kernel_rfl)
instance:Body Tryz.prog 107:=az Tryz.func107 (by kernel_rfl) (by kernel_rfl)
instance:Body Tryz.prog 108:=az Tryz.func108 (by kernel_rfl) (by kernel_rfl)
instance:Body Tryz.prog 109:=az Tryz.func109 (by kernel_rfl) (by kernel_rfl)
instance:Body Tryz.prog 110:=az Tryz.func110 (by kernel_rfl) (by kernel_rfl)
instance:Body Tryz.prog 111:=az Tryz.func111 (by kernel_rfl) (by kernel_rfl)
instance:Body Tryz.prog 112:=az Tryz.func112 (by kernel_rfl) (by kernel_rfl)
instance:Body Tryz.prog 113:=az Tryz.func113 (by kernel_rfl) (by kernel_rfl)
instance:Body Tryz.prog 131:=az Tryz.func131 (by kernel_rfl) (by kernel_rfl)
instance:Body Tryz.prog 132:=az Tryz.func132 (by kernel_rfl) (by kernel_rfl)
instance:Body Tryz.prog 133:=az Tryz.func133 (by kernel_rfl) (by kernel_rfl)
instance:Body Tryz.prog 134:=az Tryz.func134 (by kernel_rfl) (by kernel_rfl)
instance:Body Tryz.prog 135:=az Tryz.func135 (by kernel_rfl) (by kernel_rfl)
instance:Body Tryz.prog 136:=az Tryz.func136 (by kernel_rfl) (by kernel_rfl)
instance:Body Tryz.prog 137:=az Tryz.func137 (by kernel_rfl) (by kernel_rfl)
instance:Body Tryz.prog 138:=az Tryz.func138 (by kernel_rfl) (by kernel_rfl)
instance:Body Tryz.prog 139:=az Tryz.func139 (by kernel_rfl) (by kernel_rfl)
instance:Body Tryz.prog 140:=az Tryz.func140 (by kernel_rfl) (by kernel_rfl)
instance:Body Tryz.prog 141:=az Tryz.func141 (by kernel_rfl) (by kernel_rfl)
instance:Body Tryz.prog 142:=az Tryz.func142 (by kernel_rfl) (by kernel_rfl)
instance:Body Tryz.prog 148:=az Tryz.func148 (by kernel_rfl) (by kernel_rfl)
instance:Body Tryz.prog 151:=az Tryz.func151 (by kernel_rfl) (by kernel_rfl)
instance:Body Tryz.prog 152:=az Tryz.func152 (by kernel_rfl) (by kernel_rfl)
instance:Body Tryz.prog 153:=az Tryz.func153 (by kernel_rfl) (by kernel_rfl)
instance:Body Tryz.prog 154:=az Tryz.func154 (by kernel_rfl) (by kernel_rfl)
instance:Body Tryz.prog 155:=az Tryz.func155 (by kernel_rfl) (by kernel_rfl)
instance:Body Tryz.prog 161:=az Tryz.func161 (by kernel_rfl) (by kernel_rfl)
instance:Body Tryz.prog 174:=az Tryz.func174 (by kernel_rfl) (by kernel_rfl)
instance:Body Tryz.prog 175:=az Tryz.func175 (by kernel_rfl) (by kernel_rfl)
instance:Body Tryz.prog 176:=az Tryz.func176 (by kernel_rfl) (by kernel_rfl)
instance:Body Tryz.prog 177:=az Tryz.func177 (by kernel_rfl) (by kernel_rfl)
instance:Body Tryz.prog 178:=az Tryz.func178 (by kernel_rfl) (by kernel_rfl)
instance:Body Tryz.prog 179:=az Tryz.func179 (by kernel_rfl) (by kernel_rfl)
instance:Body Tryz.prog 180:=az Tryz.func180 (by kernel_rfl) (by kernel_rfl)
instance:Body Tryz.prog 181:=az Tryz.func181 (by kernel_rfl) (by kernel_rfl)
instance:Body Tryz.prog 182:=az Tryz.func182 (by kernel_rfl) (by kernel_rfl)
instance:Body Tryz.prog 183:=az Tryz.func183 (by kernel_rfl) (by kernel_rfl)
instance:Body Tryz.prog 184:=az Tryz.func184 (by kernel_rfl) (by kernel_rfl)
instance:Body Tryz.prog 185:=az Tryz.func185 (by kernel_rfl) (by kernel_rfl)
instance:Body Tryz.prog 186:=az Tryz.func186 (by kernel_rfl) (by kernel_rfl)
instance:Body Tryz.prog 187:=az Tryz.func187 (by kernel_rfl) (by kernel_rfl)
instance:Body Tryz.prog 188:=az Tryz.func188 (by kernel_rfl) (by kernel_rfl)
instance:Body Tryz.prog 189:=az Tryz.func189 (by kernel_rfl) (by kernel_rfl)
instance:Body Tryz.prog 190:=az Tryz.func190 (by kernel_rfl) (by kernel_rfl)
instance:Body Tryz.prog 191:=az Tryz.func191 (by kernel_rfl) (by kernel_rfl)
instance:Body Tryz.prog 192:=az Tryz.func192 (by kernel_rfl) (by kernel_rfl)
instance:Body Tryz.prog 193:=az Tryz.func193 (by kernel_rfl) (by kernel_rfl)
instance:Body Tryz.prog 194:=az Tryz.func194 (by kernel_rfl) (by kernel_rfl)
instance:Body Tryz.prog 202:=az Tryz.func202 (by kernel_rfl) (by kernel_rfl)
instance:Body Tryz.prog 203:=az Tryz.func203 (by kernel_rfl) (by kernel_rfl)
instance:Body Tryz.prog 204:=az Tryz.func204 (by kernel_rfl) (by kernel_rfl)
instance:Body Tryz.prog 205:=az Tryz.func205 (by kernel_rfl) (by kernel_rfl)
instance:Body Tryz.prog 206:=az Tryz.func206 (by kernel_rfl) (by kernel_rfl)
instance:Body Tryz.prog 209:=az Tryz.func209 (by kernel_rfl) (by kernel_rfl)
instance:Body Tryz.prog 211:=az Tryz.func211 (by kernel_rfl) (by kernel_rfl)
instance:Body Tryz.prog 212:=az Tryz.func212 (by kernel_rfl) (by kernel_rfl)
instance:Body Tryz.prog 213:=az Tryz.func213 (by kernel_rfl) (by kernel_rfl)
instance:Body Tryz.prog 214:=az Tryz.func214 (by kernel_rfl) (by kernel_rfl)
instance:Body Tryz.prog 226:=az Tryz.func226 (by kernel_rfl) (by kernel_rfl)
instance:Body Tryz.prog 228:=az Tryz.func228 (by kernel_rfl) (by kernel_rfl)
instance:Body Tryz.prog 229:=az Tryz.func229 (by kernel_rfl) (by kernel_rfl)
instance:Body Tryz.prog 230:=az Tryz.func230 (by kernel_rfl) (by kernel_rfl)
instance:Body Tryz.prog 231:=az Tryz.func231 (by kernel_rfl) (by kernel_rfl)
instance:Body Tryz.prog 232:=az Tryz.func232 (by kernel_rfl) (by kernel_rfl)
instance:Body Tryz.prog 233:=az Tryz.func233 (by kernel_rfl) (by kernel_rfl)
instance:Body Tryz.prog 234:=az Tryz.func234 (by kernel_rfl) (by kernel_rfl)
instance:Body Tryz.prog 238:=az Tryz.func238 (by kernel_rfl) (by kernel_rfl)
instance:Body Tryz.prog 239:=az Tryz.func239 (by kernel_rfl) (by kernel_rfl)
instance:Body Tryz.prog 241:=az Tryz.func241 (by kernel_rfl) (by kernel_rfl)
instance:Body Tryz.prog 242:=az Tryz.func242 (by kernel_rfl) (by kernel_rfl)
instance:Body Tryz.prog 243:=az Tryz.func243 (by kernel_rfl) (by kernel_rfl)
instance:Body Tryz.prog 244:=az Tryz.func244 (by kernel_rfl) (by kernel_rfl)
instance:Body Tryz.prog 245:=az Tryz.func245 (by kernel_rfl) (by kernel_rfl)
instance:Body Tryz.prog 246:=az Tryz.func246 (by kernel_rfl) (by kernel_rfl)
instance:Body Tryz.prog 247:=az Tryz.func247 (by kernel_rfl) (by kernel_rfl)
instance:Body Tryz.prog 254:=az Tryz.func254 (by kernel_rfl) (by kernel_rfl)
instance:Body Tryz.prog 255:=az Tryz.func255 (by kernel_rfl) (by kernel_rfl)
instance:Body Tryz.prog 258:=az Tryz.func258 (by kernel_rfl) (by kernel_rfl)
instance:Body Tryz.prog 262:=az Tryz.func262 (by kernel_rfl) (by kernel_rfl)
instance:Body Tryz.prog 263:=az Tryz.func263 (by kernel_rfl) (by kernel_rfl)
instance:Body Tryz.prog 264:=az Tryz.func264 (by kernel_rfl) (by kernel_rfl)
instance:Body Tryz.prog 265:=az Tryz.func265 (by kernel_rfl) (by kernel_rfl)
instance:Body Tryz.prog 275:=az Tryz.func275 (by kernel_rfl) (by kernel_rfl)
theorem mixed:Tryz.prog.follows .mixedOrders=true:=by kernel_rfl
structure Region where
 aK:Int
 aE:Int
 deriving DecidableEq
structure Block where
 At:Int
 Order:Int
 Ty:Int
 deriving DecidableEq
structure ao where
 aK:Int
 To:Int
 aj:List Block
 Types:List Int
 deriving DecidableEq
structure ay where
 fT:Int
 ao:Int
 Ty:Int
 av:List Int
structure Heap where
 bf:List ao
 dk:List Int
 bw:Int
 au:List ay
 Live:List Block
structure Slab where
 At:Int
 aj:Int
 cr:Int
 deriving DecidableEq
open Go.RowKit
theorem jD (x lo hi:Int) (w:World) : bq Tryz.prog 48 [.int .i64 x,.int .i64 lo,.int .i64 hi] w fun v _=>v = .bool (decide (lo≤x∧x≤hi)):=by
 refine aG Tryz.func48 rfl Tryz.ntmps48 rfl ?_;repeat' (first|refine Wz ?_|refine SW.cw rfl rfl rfl (fun h => ?_) (fun h => ?_))
 all_goals refine ah.aY rfl rfl ⟨_,rfl,Ext.refl _,?_⟩
 all_goals simp [*]
open Go.RowKit
theorem vp (A:Option Addr) (n c:Nat) (x k:Int) (w:World) (hn:n≤2305843009213693952) : bq Tryz.prog 161 [.slice A n c,.int .i64 x,.int .i64 k] w fun v _=>v = .bool (decide (0≤x∧0≤k∧k≤n∧x+k≤n)):=by
 refine aG Tryz.func161 rfl Tryz.ntmps161 rfl ?_;repeat' (first|refine Wz ?_|refine SW.cw rfl rfl rfl (fun h => ?_) (fun h => ?_))
 all_goals refine ah.aY rfl rfl ⟨_,rfl,Ext.refl _,?_⟩
 all_goals congr 1
 all_goals symm
 all_goals first|(refine decide_eq_true ?_;omega)|(refine decide_eq_false ?_;omega)|(rw [decide_eq_decide];omega)
def y7 (w:World) (e sz:Nat) {α:Type} (enc : α → List Value) (n:Nat) (l:List α) : Value→World→Prop:=fun v w' => ∃ A c,v = .slice A n c∧Own w' w.heap.size e sz enc A n c l
theorem dw (A:Option Addr) (n c:Nat) (l:List Int) (w:World) (hl:Sl w 1 bK A n l) (hn:n*8≤140737488355328) : bq Tryz.prog 82 [.slice A n c] w (y7 w 3 1 bK n l):=by
 refine aG Tryz.func82 rfl Tryz.ntmps82 rfl ?_;have hw:=Ext.refl w;refine Wz ?_;refine SW.st (qR rfl rfl) rfl ?_;repeat' (first|refine Wz ?_|(refine CW.cond rfl (fun h => ?_) (fun h => ?_)))
 ·have Gx:n=0:=by
   rcases Nat.eq_zero_or_pos n with h0|h0
   ·exact h0
   ·have:=hl.base h0;simp_all
  subst Gx;have:l=[]:=List.eq_nil_of_length_eq_zero hl.len
  subst this;exact ah.aY rfl rfl ⟨_,rfl,hw,none,0,rfl,Own.gz _ _ _ _ _ _⟩
 ·refine SW.yV rfl fun b w1 ae hb => ?_
  replace hw:=Ext.trans hw ae;refine Wz ?_;refine SW.uy (Nat.zero_add n) (List.nil_append l) (Own.gz w1 w.heap.size _ _ bK (some ⟨b,0,none⟩)) (hl.ext hw) hw.size rfl rfl rfl (by omega) (by omega) fun A2 c2 w2 hO hg => ?_
  replace hw:=aO hw hg (Nat.le_refl _) (by simp [aM]);refine Wz ?_;exact ah.aY rfl rfl ⟨_,rfl,hw,A2,c2,rfl,hO⟩
theorem I9 (k:Int) (w:World) : bq Tryz.prog 57 [.int .i64 k] w fun v w' =>
 if 0≤k∧k≤256 then ∃ A c,v = .tuple #[.slice A (16*k).toNat c,.int .i64 0]∧Own w' w.heap.size 3 1 bK A (16*k).toNat c (List.replicate (16*k).toNat 0) else v = .tuple #[.slice none 0 0,.int .i64 1]:=by
 refine aG Tryz.func57 rfl Tryz.ntmps57 rfl ?_;have hw:=Ext.refl w;repeat' (first|refine Wz ?_|(first|refine CW.gG rfl (fun h => ?_) (fun h => ?_)|refine CW.jB rfl (fun h => ?_) (fun h => ?_)|refine CW.dh rfl ?_|refine CW.di rfl ?_|refine CW.cond rfl (fun h => ?_) (fun h => ?_))|refine SW.cw rfl rfl rfl (fun h => ?_) (fun h => ?_)|refine SW.fa rfl rfl rfl (fun h => ?_) (fun h => ?_)|refine SW.want rfl rfl ?_|refine SW.skip rfl rfl rfl rfl ?_|refine SW.j5 rfl rfl rfl ?_|refine SW.split rfl rfl rfl (fun h => ?_) (fun h => ?_))
 ·refine ah.cb rfl rfl rfl ⟨_,rfl,hw,?_⟩;rw [if_neg (by omega)]
 ·refine ah.cb rfl rfl rfl ⟨_,rfl,hw,?_⟩;rw [if_neg (by omega)]
 ·refine SW.make (enc:=bK) (k:=(16*k).toNat) 0 rfl rfl (by omega) (by omega) (by omega) rfl fun A c w1 ae hO => ?_
  replace hw:=Ext.trans hw ae;repeat' (first|refine Wz ?_|(first|refine CW.gG rfl (fun h => ?_) (fun h => ?_)|refine CW.jB rfl (fun h => ?_) (fun h => ?_)|refine CW.dh rfl ?_|refine CW.di rfl ?_|refine CW.cond rfl (fun h => ?_) (fun h => ?_))|refine SW.cw rfl rfl rfl (fun h => ?_) (fun h => ?_)|refine SW.fa rfl rfl rfl (fun h => ?_) (fun h => ?_)|refine SW.want rfl rfl ?_|refine SW.skip rfl rfl rfl rfl ?_|refine SW.j5 rfl rfl rfl ?_|refine SW.split rfl rfl rfl (fun h => ?_) (fun h => ?_))
  refine ah.cb rfl rfl rfl ⟨_,rfl,hw,?_⟩;rw [if_pos (by omega)];exact ⟨A,c,rfl,hO⟩
open Go.RowKit
def Region.ok (r:Region) : Prop:=0≤r.aK∧1≤r.aE∧r.aE≤256∧r.aK+r.aE≤256
instance (r:Region) : Decidable r.ok:=inferInstanceAs (Decidable (_∧_))
def iM (r:Region) : List Value:=[.int .i64 r.aK,.int .i64 r.aE]
theorem n6 (r:Region) (w:World) : bq Tryz.prog 238 [.agg (iM r).toArray] w fun v _=>v = .int .i64 (if r.ok then 0 else 1):=by
 refine aG Tryz.func238 rfl Tryz.ntmps238 rfl ?_;refine CW.seq (CW.region (SW.box rfl rfl fun b w1 hw hb hB => ?_));repeat' (first|refine Wz ?_|(refine CW.gG rfl (fun h => ?_) (fun h => ?_))|refine SW.cw rfl rfl rfl (fun h => ?_) (fun h => ?_))
 all_goals refine ah.aY rfl rfl ⟨_,rfl,hw,?_⟩
 all_goals first|rw [if_pos (by unfold Region.ok;omega)] | rw [if_neg (by unfold Region.ok;omega)]
open Go.RowKit
instance:fP iM 2:=⟨fun _=>rfl,fun r u hu=>by simp [iM] at hu;rcases hu with rfl|rfl<;>rfl⟩
def fh (l:List Region) : Prop:=l.length≤40 ∧ ∀ (i:Nat) (h:i<l.length),(l[i]).ok ∧ ∀ (h0 : 0<i),(l[i-1]'(by omega)).aK+(l[i-1]'(by omega)).aE<(l[i]).aK
noncomputable def dH (l:List Region) : Bool := @decide (fh l) (Classical.propDecidable _)
theorem j9 {l:List Region} (h:fh l) : dH l=true:=by unfold dH;exact @decide_eq_true _ (Classical.propDecidable _) h
theorem ni {l:List Region} (h : ¬ fh l) : dH l=false:=by unfold dH;exact @decide_eq_false _ (Classical.propDecidable _) h
theorem qV {l:List Region}:dH l=true↔fh l:=by
 by_cases h:fh l
 ·simp [j9 h,h]
 ·simp [ni h,h]
theorem oC {r:Region} (h:r.ok) (w:World) : bq Tryz.prog 238 [.agg (iM r).toArray] w fun v _=>v = .int .i64 0:=(n6 r w).mono fun _ _ _ hv=>by rw [hv,if_pos h]
theorem vq {r:Region} (h : ¬ r.ok) (w:World) : bq Tryz.prog 238 [.agg (iM r).toArray] w fun v _=>v = .int .i64 1:=(n6 r w).mono fun _ _ _ hv=>by rw [hv,if_neg h]
theorem vr {r:Region} (h:r.ok) (w:World) : bq Tryz.prog 203 [.agg (iM r).toArray] w fun v _=>v = .int .i64 (r.aK+r.aE):=by
 obtain ⟨h1,h2,h3,h4⟩:=h;refine aG Tryz.func203 rfl Tryz.ntmps203 rfl ?_;refine CW.seq (CW.region (SW.box rfl rfl fun b w1 hw hb hB => ?_));refine Wz ?_;exact ah.aY rfl rfl ⟨_,rfl,hw,rfl⟩
open Go.RowKit
def aL (b:Block) : List Value:=[.int .i64 b.At,.int .i64 b.Order,.int .i64 b.Ty]
instance:fP aL 3:=⟨fun _=>rfl,fun r u hu=>by simp [aL] at hu;rcases hu with rfl|rfl|rfl<;>rfl⟩
def aX (b:Slab) : List Value:=[.int .i64 b.At,.int .i64 b.aj,.int .i64 b.cr]
instance:fP aX 3:=⟨fun _=>rfl,fun r u hu=>by simp [aX] at hu;rcases hu with rfl|rfl|rfl<;>rfl⟩
theorem jE (A:Option Addr) (n c:Nat) (l:List Block) (w:World) (hl:Sl w 3 aL A n l) (hn:n*24≤140737488355328) : bq Tryz.prog 174 [.slice A n c] w (y7 w 165 3 aL n l):=by
 refine aG Tryz.func174 rfl Tryz.ntmps174 rfl ?_;have hw:=Ext.refl w;refine Wz ?_;refine SW.st (qR rfl rfl) rfl ?_;repeat' (first|refine Wz ?_|(refine CW.cond rfl (fun h => ?_) (fun h => ?_)))
 ·have Gx:n=0:=by
   rcases Nat.eq_zero_or_pos n with h0|h0
   ·exact h0
   ·have:=hl.base h0;simp_all
  subst Gx;have:l=[]:=List.eq_nil_of_length_eq_zero hl.len
  subst this;exact ah.aY rfl rfl ⟨_,rfl,hw,none,0,rfl,Own.gz _ _ _ _ _ _⟩
 ·refine SW.yV rfl fun b w1 ae hb => ?_
  replace hw:=Ext.trans hw ae;refine Wz ?_;refine SW.uy (Nat.zero_add n) (List.nil_append l) (Own.gz w1 w.heap.size _ _ aL (some ⟨b,0,none⟩)) (hl.ext hw) hw.size rfl rfl rfl (by omega) (by omega) fun A2 c2 w2 hO hg => ?_
  replace hw:=aO hw hg (Nat.le_refl _) (by simp [aM]);refine Wz ?_;exact ah.aY rfl rfl ⟨_,rfl,hw,A2,c2,rfl,hO⟩
def pw (o:Int) : Int:=2 ^ o.toNat
theorem dU {o:Int} (h0 : 0≤o) (h4:o≤4) : (o=0∧pw o=1)∨(o=1∧pw o=2)∨(o=2∧pw o=4)∨(o=3∧pw o=8)∨(o=4∧pw o=16):=by
 have:o=0∨o=1∨o=2∨o=3∨o=4:=by omega
 rcases this with rfl|rfl|rfl|rfl|rfl<;>decide
theorem bT {o:Int} (h0 : 0≤o) (h4:o≤4) : 1≤pw o∧pw o≤16:=by rcases dU h0 h4 with h|h|h|h|h<;>omega
theorem ks {o:Int} (h0 : 0≤o) (h4:o≤4) : pw (o+1)=2*pw o:=by
 have:o=0∨o=1∨o=2∨o=3∨o=4:=by omega
 rcases this with rfl|rfl|rfl|rfl|rfl<;>decide
def beside (a o:Int) : Int:=if a % (2*pw o)=0 then a+pw o else a-pw o
theorem qW:∀ a<256,∀ o<4,a % 2 ^ o=0→((a ^^^ 2 ^ o:Nat) : Int)=if (a:Int) % (2*2 ^ o)=0 then (a:Int)+2 ^ o else (a:Int)-2 ^ o:=by decide +kernel
theorem Cm {a:Nat} {o:Int} (ha:a<256) (h0 : 0≤o) (h4:o<4) (h:(a:Int) % pw o=0) : ((a ^^^ 2 ^ o.toNat:Nat) : Int)=beside a o:=by
 have:o=0∨o=1∨o=2∨o=3:=by omega
 rcases this with rfl|rfl|rfl|rfl
 ·exact qW a ha 0 (by omega) (by simp only [pw] at h;omega)
 ·exact qW a ha 1 (by omega) (by
   rw [show pw 1=2 by decide] at h;simp;omega)
 ·exact qW a ha 2 (by omega) (by
   rw [show pw 2=4 by decide] at h;simp;omega)
 ·exact qW a ha 3 (by omega) (by
   rw [show pw 3=8 by decide] at h;simp;omega)
def fU (f t a o:Int) : Prop:=0≤o∧o≤4∧f≤a∧a<t∧a % pw o=0
instance (f t a o:Int) : Decidable (fU f t a o):=inferInstanceAs (Decidable (_∧_))
def ik (t:Int) : Prop:=0≤t∧t≤2
instance (t:Int) : Decidable (ik t):=inferInstanceAs (Decidable (_∧_))
def je (a b:Block) : Prop:=a.At+pw a.Order≤b.At ∧ ¬ (b.Order<4∧a.Order=b.Order∧a.At=beside b.At b.Order)
instance (a b:Block) : Decidable (je a b):=inferInstanceAs (Decidable (_∧_))
def gl (f t:Int) (b:Block) : Prop:=fU f t b.At b.Order∧ik b.Ty
instance (f t:Int) (b:Block) : Decidable (gl f t b):=inferInstanceAs (Decidable (_∧_))
def dI (f t:Int) : Prop:=0≤f∧f≤t∧t≤256∧f % 16=0∧t % 16=0
instance (f t:Int) : Decidable (dI f t):=inferInstanceAs (Decidable (_∧_))
structure bD (z:ao) : Prop where
 ok:dI z.aK z.To
 len : 8*(z.Types.length:Int)=z.To-z.aK
 types:∀ t∈z.Types,ik t
 dD:∀ (i:Nat) (h:i<z.aj.length),gl z.aK z.To z.aj[i]
 next:∀ (i:Nat) (h:i+1<z.aj.length),je z.aj[i] z.aj[i+1]
noncomputable def dO (z:ao) : Bool := @decide (bD z) (Classical.propDecidable _)
theorem qX {z:ao} (h:bD z) : dO z=true:=by unfold dO;exact @decide_eq_true _ (Classical.propDecidable _) h
theorem il {z:ao} (h : ¬ bD z) : dO z=false:=by unfold dO;exact @decide_eq_false _ (Classical.propDecidable _) h
theorem ed {z:ao}:dO z=true↔bD z:=by
 by_cases h:bD z
 ·simp [qX h,h]
 ·simp [il h,h]
theorem Gy {f t:Int} {a b:Block} (ha:gl f t a) (hb:gl f t b) (h:a.At+pw a.Order≤b.At) :
 (b.Order<4∧a.Order=b.Order∧a.At=beside b.At b.Order)↔(b.Order<4∧a.Order=b.Order∧a.At+pw b.Order=b.At∧a.At % pw (b.Order+1)=0):=by
 obtain ⟨⟨h1,h2,h3,h4,h5⟩,_⟩:=ha;obtain ⟨⟨g1,g2,g3,g4,g5⟩,_⟩:=hb;rw [ks g1 g2];unfold beside;constructor
 ·rintro ⟨e1,e2,e3⟩
  refine ⟨e1,e2,?_⟩;rw [e2] at h5 h;have hp:=dU g1 g2;generalize pw b.Order=q at *
  rcases hp with ⟨e,rfl⟩|⟨e,rfl⟩|⟨e,rfl⟩|⟨e,rfl⟩|⟨e,rfl⟩<;>split at e3<;>omega
 ·rintro ⟨e1,e2,e3,e4⟩
  refine ⟨e1,e2,?_⟩;rw [e2] at h5 h;have hp:=dU g1 g2;generalize pw b.Order=q at *
  rcases hp with ⟨e,rfl⟩|⟨e,rfl⟩|⟨e,rfl⟩|⟨e,rfl⟩|⟨e,rfl⟩<;>split<;>omega
def idxOf {α:Type} (p : α → Bool) (l:List α) : Int:=if l.any p then (l.findIdx p:Int) else -1
def im (l:List Block) : Int:=(l.map fun b=>pw b.Order).sum
theorem qY (l:List Block) (k:Nat) (h:k<l.length) : im (l.take (k+1))=im (l.take k)+pw l[k].Order:=by
 unfold im;rw [List.take_succ_eq_append_getElem h,List.map_append,List.sum_append];simp
theorem mm {z:ao} (h:bD z) : ∀ k,k≤z.aj.length→0≤im (z.aj.take k)∧im (z.aj.take k)≤16*(k:Int)
 | 0,_=>by simp [im]
 | k+1,hk=>by
   have ih:=mm h k (by omega);have hb:=(h.dD k (by omega)).1;have:=bT hb.1 hb.2.1
   rw [qY _ _ (by omega)];omega
theorem DS {z:ao} {a:Int} (hz:bD z) (h1:z.aK≤a) (h2:a<z.To) : ∃ k:Nat,(a-z.aK) / 8=k∧k<z.Types.length:=by
 have:=hz.len
 exact ⟨((a-z.aK) / 8).toNat,by omega,by omega⟩
open Go.RowKit
structure gg where
 A:Option Addr
 n:Nat
 c:Nat
def gg.v (s:gg) : Value := .slice s.A s.n s.c
def gg.nil:gg:=⟨none,0,0⟩
structure cU where
 aK:Int
 To:Int
 aj:gg
 Types:gg
def bX (z:cU) : List Value:=[.int .i64 z.aK,.int .i64 z.To,z.aj.v,z.Types.v]
instance:fP bX 4:=⟨fun _=>rfl,fun r u hu=>by simp [bX,gg.v] at hu;rcases hu with rfl|rfl|rfl|rfl<;>rfl⟩
theorem dr (r:cU) : ∀ v∈bX r,v.oneCell'=true:=fP.one (enc:=bX) r
structure Ca (w:World) (r:cU) (z:ao) : Prop where
 from_:r.aK=z.aK
 lV:r.To=z.To
 free:Sl w 3 aL r.aj.A r.aj.n z.aj
 types:Sl w 1 bK r.Types.A r.Types.n z.Types
structure fc (w:World) (lo:Nat) (r:cU) (z:ao) : Prop where
 from_:r.aK=z.aK
 lV:r.To=z.To
 free:Own w lo 165 3 aL r.aj.A r.aj.n r.aj.c z.aj
 types:Own w lo 3 1 bK r.Types.A r.Types.n r.Types.c z.Types
theorem Ca.ext {w w':World} {r:cU} {z:ao} (h:Ca w r z) (hx:Ext w w') : Ca w' r z:=⟨h.from_,h.lV,h.free.ext hx,h.types.ext hx⟩
theorem fc.ext {w w':World} {lo:Nat} {r:cU} {z:ao} (h:fc w lo r z) (hx:Ext w w') : fc w' lo r z:=⟨h.from_,h.lV,h.free.ext hx,h.types.ext hx⟩
theorem fc.low {w:World} {lo lj:Nat} {r:cU} {z:ao} (h:fc w lo r z) (hl:lj≤lo) : fc w lj r z:=⟨h.from_,h.lV,h.free.low hl,h.types.low hl⟩
theorem fc.rd {w:World} {lo:Nat} {r:cU} {z:ao} (h:fc w lo r z) : Ca w r z:=⟨h.from_,h.lV,h.free.sl,h.types.sl⟩
theorem fc.dD {w w':World} {lo b t:Nat} {r:cU} {z:ao} {cs:List Value} (h:fc w lo r z) (hB:aW w b t cs) (hg:w.grownBy w' (some b)) (h1:Nat.beq t 165=false) (h2:Nat.beq t 3=false) : fc w' lo r z :=
 ⟨h.from_,h.lV,h.free.grown hg (.inr (h.free.dq hB h1)),h.types.grown hg (.inr (h.types.dq hB h2))⟩
def ao.zero:ao:=⟨0,0,[],[]⟩
def cU.zero:cU:=⟨0,0,.nil,.nil⟩
theorem fc.zero (w:World) (lo:Nat) : fc w lo .zero .zero:=⟨rfl,rfl,Own.gz _ _ _ _ _ _,Own.gz _ _ _ _ _ _⟩
theorem pu (r:cU) (z:ao) (w:World) (hr:Ca w r z) (hn:r.aj.n*24≤140737488355328) (hm:r.Types.n*8≤140737488355328) :
 bq Tryz.prog 175 [.agg (bX r).toArray] w fun v w' => ∃ s,v = .agg (bX s).toArray∧fc w' w.heap.size s z∧s.aj.n=r.aj.n∧s.Types.n=r.Types.n:=by
 refine aG Tryz.func175 rfl Tryz.ntmps175 rfl ?_;refine CW.seq (CW.region (SW.box rfl rfl fun b w1 hw hb hB => ?_));refine SW.alloc rfl fun b2 w2 bF aD px => ?_
 have qZ:w.heap.size≤b2:=Nat.le_trans hw.size aD
 have bW:b2≠b:=by have:=hB.lt;omega
 replace hw:=Ext.trans hw bF;replace hB:=hB.ext bF;have z8:=hb;refine Wz ?_;refine CW.any 7 mixed (da (by kernel_rfl)) rfl fun w1 ae aJ => ?_
 replace hw:=Ext.trans hw ae;replace hB:=hB.ext ae;replace px:=px.ext ae;clear ae;refine Wa ?_;refine SA.one 2 rfl (by kernel_rfl) rfl ?_;refine SW.call rfl rfl (jE _ _ _ _ _ (hr.free.ext hw) hn) fun v w4 ap hv => ?_
 obtain ⟨X,c4,rfl,hX⟩:=hv;replace hX:=hX.low hw.size;replace hw:=Ext.trans hw ap;replace hB:=hB.ext ap;replace px:=px.ext ap;refine SW.nil (ah.sa ap ?_);refine Wa ?_;refine SA.one 5 rfl (by kernel_rfl) rfl ?_;refine SW.call rfl rfl (dw _ _ _ _ _ (hr.types.ext hw) hm) fun v w4 ap hv => ?_
 obtain ⟨Y,d4,rfl,hY⟩:=hv;replace hY:=hY.low hw.size;replace hX:=hX.ext ap;replace hw:=Ext.trans hw ap;replace hB:=hB.ext ap;replace px:=px.ext ap;refine SW.nil (ah.sa ap ?_);refine SA.done (by kernel_rfl) ?_;skip;refine SW.bz (i:=2) hB rfl rfl rfl rfl fun w5 tV hg => ?_
 replace hw:=hw.own z8 hg;replace hX:=hX.grown hg (.inr (hX.dq hB rfl));replace hY:=hY.grown hg (.inr (hY.dq hB rfl));replace px:=px.grown hg (by simpa using bW);refine Wz ?_;refine SW.bz (i:=3) tV rfl rfl rfl rfl fun w6 PL hg => ?_
 replace hw:=hw.own z8 hg;replace hX:=hX.grown hg (.inr (hX.dq tV rfl));replace hY:=hY.grown hg (.inr (hY.dq tV rfl));replace px:=px.grown hg (by simpa using bW);repeat' (first|refine Wz ?_|refine SW.st (aB rfl rfl ((fun _ _=>PL.cell))) rfl ?_)
 refine SW.ak px rfl rfl rfl rfl (dr ⟨r.aK,r.To,⟨X,r.aj.n,c4⟩,⟨Y,r.Types.n,d4⟩⟩) fun w7 bU hg => ?_
 replace hw:=hw.own qZ hg;replace hX:=hX.grown hg (.inr (hX.dq px rfl));replace hY:=hY.grown hg (.inr (hY.dq px rfl));refine Wz ?_;exact ah.Al rfl rfl bU rfl ⟨_,rfl,hw,⟨r.aK,r.To,⟨X,r.aj.n,c4⟩,⟨Y,r.Types.n,d4⟩⟩,rfl,⟨hr.from_,hr.lV,hX,hY⟩,rfl,rfl⟩
def fI (f t:Int) : Int×ao:=if dI f t then (0,⟨f,t,[],List.replicate ((t-f) / 8).toNat 1⟩) else (1,.zero)
def q9 (lo:Nat) (r:Int×ao) (v:Value) (w:World) : Prop := ∃ s:cU,v = .tuple #[.agg (bX s).toArray,.int .i64 r.1]∧fc w lo s r.2
theorem lu {f t:Int} (h : ¬ dI f t) : fI f t=(1,.zero):=if_neg h
theorem g9 {f t:Int} (h:dI f t) : fI f t=(0,⟨f,t,[],List.replicate ((t-f) / 8).toNat 1⟩):=if_pos h
theorem oD {x:Int} (h : 0≤x) : x.tmod 16=x % 16:=Int.tmod_eq_emod_of_nonneg h
theorem Ja (k i:Nat) (h:i<k) : (List.replicate i (1:Int)++List.replicate (k-i) 0).set i 1=List.replicate (i+1) 1++List.replicate (k-(i+1)) 0:=by
 apply List.ext_getElem (by simp;omega);intro j h1 h2;rw [List.getElem_set];by_cases hj:i=j
 ·subst hj;simp
 ·simp only [hj,if_false,List.getElem_append,List.length_replicate,List.getElem_replicate];by_cases h3:j<i
  ·simp [h3,show j<i+1 by omega]
  ·simp [h3,show ¬ j<i+1 by omega]
theorem vt (f t:Int) (w:World) (hf : -9223372036854775808≤f∧f≤9223372036854775807) (ht : -9223372036854775808≤t∧t≤9223372036854775807) : bq Tryz.prog 134 [.int .i64 f,.int .i64 t] w (q9 w.heap.size (fI f t)):=by
 refine aG Tryz.func134 rfl Tryz.ntmps134 rfl ?_;refine CW.seq (CW.region (SW.alloc rfl fun b4 w1 hw jF bd => ?_));have iN:=jF;by_cases jv:dI f t
 ·obtain ⟨h1,h2,h3,h4,h5⟩:=id jv;have m1:=oD h1;have m2:=oD (show 0≤t by omega);rw [g9 jv];obtain ⟨k,hk⟩ : ∃ k:Nat,(t-f) / 8=k:=⟨((t-f) / 8).toNat,by omega⟩;refine Wz ?_;refine SW.make (enc:=bK) (k:=k) 0 rfl rfl (by omega) (by omega) (by omega) rfl fun A c w2 bF hO => ?_
  replace hO:=hO.low hw.size;(replace hw:=Ext.trans hw bF;replace bd:=bd.ext bF);refine Wz ?_;refine SW.alloc rfl fun b6 w1 ae eu aA => ?_
  have dl:w.heap.size≤b6:=Nat.le_trans hw.size eu
  have y8:b4≠b6:=by have:=bd.lt;omega
  replace hw:=Ext.trans hw ae;replace bd:=bd.ext ae;replace hO:=hO.ext ae;refine SW.ak aA rfl rfl rfl rfl (dr ⟨f,t,.nil,⟨A,k,c⟩⟩) fun w2 dE hg => ?_
  replace hw:=hw.own dl hg;replace hO:=hO.grown hg (.inr (hO.dq aA rfl));replace bd:=bd.grown hg (by simpa using y8);replace aA:=dE;clear dE ae hg eu;have hA:=hO.sl.base;refine Wz ?_
  refine CW.loop (fun i:Nat=>[(4,.pointer (some ⟨b4,0,none⟩)),(6,.pointer (some ⟨b6,0,none⟩)),(40,.int .i64 (k:Int)),(41,.int .i64 (i:Int))])
   (fun i w'=>i≤k∧Ext w w'∧aW w' b4 139 (bX .zero)∧aW w' b6 139 (bX ⟨f,t,.nil,⟨A,k,c⟩⟩)∧Own w' w.heap.size 3 1 bK A k c (List.replicate i 1++List.replicate (k-i) 0)) (fun i=>k-i) 0
   ⟨rfl,rfl,rfl,rfl,trivial⟩ ⟨by omega,hw,bd,aA,by simpa using hO⟩ ?_
  clear hw bd aA hO;rintro i w' ⟨hi,hw,bd,aA,hO⟩
  have hA:=hO.sl.base;by_cases z9:i<k
  ·refine Wz ?_;refine SW.oB i hO rfl rfl z9 fun w3 Cn hg => ?_
   replace hw:=aO hw hg (Nat.le_refl _) hO.bc;replace bd:=bd.grown hg (fun e=>hO.dq bd rfl e.symm);replace aA:=aA.grown hg (fun e=>hO.dq aA rfl e.symm);rw [Ja k i z9] at Cn;refine Wz ?_;exact ah.again (i+1) ⟨rfl,rfl,rfl,rfl,trivial⟩ (by omega) ⟨by omega,hw,bd,aA,Cn⟩
  ·obtain rfl:i=k:=by omega
   simp only [Nat.sub_self,List.replicate_zero,List.append_nil] at hO;refine Wz ?_;refine SW.ak bd rfl rfl rfl rfl (dr ⟨f,t,.nil,⟨A,i,c⟩⟩) fun w5 bU hg => ?_
   replace hw:=hw.own iN hg;replace hO:=hO.grown hg (.inr (hO.dq bd rfl));refine Wz ?_;refine ah.cX rfl rfl rfl bU rfl ⟨_,rfl,hw,⟨f,t,.nil,⟨A,i,c⟩⟩,rfl,rfl,rfl,Own.gz _ _ _ _ _ _,?_⟩;simp only [hk,Int.toNat_natCast];exact hO
 ·rw [lu jv];unfold dI at jv;have m1:=fun h => @oD f h
  have m2:=fun h => @oD t h
  by_cases h1 : 0≤f
  ·have m1:=m1 h1;by_cases h2:f≤t
   ·have m2:=m2 (by omega);repeat' (first|refine Wz ?_|refine SW.cw rfl rfl rfl (fun h => ?_) (fun h => ?_)|refine SW.fa rfl rfl rfl (fun h => ?_) (fun h => ?_))
    all_goals
     first
      | (exfalso;omega)
      | (refine SW.ak bd rfl rfl rfl rfl (dr .zero) fun w5 bU hg => ?_
         replace hw:=hw.own iN hg;refine Wz ?_;exact ah.cX rfl rfl rfl bU rfl ⟨_,rfl,hw,.zero,rfl,fc.zero _ _⟩)
   ·repeat' (first|refine Wz ?_|refine SW.cw rfl rfl rfl (fun h => ?_) (fun h => ?_))
    all_goals
     refine SW.ak bd rfl rfl rfl rfl (dr .zero) fun w5 bU hg => ?_
     replace hw:=hw.own iN hg;refine Wz ?_;exact ah.cX rfl rfl rfl bU rfl ⟨_,rfl,hw,.zero,rfl,fc.zero _ _⟩
  ·refine Wz ?_
   all_goals
    refine SW.ak bd rfl rfl rfl rfl (dr .zero) fun w5 bU hg => ?_
    replace hw:=hw.own iN hg;refine Wz ?_;exact ah.cX rfl rfl rfl bU rfl ⟨_,rfl,hw,.zero,rfl,fc.zero _ _⟩
open Go.RowKit
theorem Am (f t:Int) (w:World) (hf : -9223372036854775808≤f∧f≤9223372036854775807) (ht : -9223372036854775808≤t∧t≤9223372036854775807) : bq Tryz.prog 148 [.int .i64 f,.int .i64 t] w (q9 w.heap.size (fI f t)):=by
 refine aG Tryz.func148 rfl Tryz.ntmps148 rfl ?_;refine CW.seq (CW.region (SW.alloc rfl fun b4 w1 hw jF bd => ?_));have iN:=jF;by_cases jv:dI f t
 ·obtain ⟨h1,h2,h3,h4,h5⟩:=id jv;have m1:=oD h1;have m2:=oD (show 0≤t by omega);rw [g9 jv];obtain ⟨k,hk⟩ : ∃ k:Nat,(t-f) / 8=k:=⟨((t-f) / 8).toNat,by omega⟩;repeat' (first|refine Wz ?_|(refine SW.call rfl rfl (jD _ _ _ _) ?_;intro v w1 ae hv;subst hv;replace hw:=Ext.trans hw ae;replace bd:=bd.ext ae;clear ae))
  refine SW.alloc rfl fun b6 w1 ae eu aA => ?_
  have dl:w.heap.size≤b6:=Nat.le_trans hw.size eu
  have y8:b4≠b6:=by have:=bd.lt;omega
  replace hw:=Ext.trans hw ae;replace bd:=bd.ext ae;refine SW.ak aA rfl rfl rfl rfl (dr ⟨f,t,.nil,.nil⟩) fun w2 dE hg => ?_
  replace hw:=hw.own dl hg;replace bd:=bd.grown hg (by simpa using y8);replace aA:=dE;clear dE ae hg eu;refine Wz ?_
  refine CW.loop (fun s:Nat×Option Addr×Nat=>[(1,.int .i64 t),(4,.pointer (some ⟨b4,0,none⟩)),(6,.pointer (some ⟨b6,0,none⟩)),(7,.int .i64 (f+8*(s.1:Int)))])
   (fun s w'=>s.1≤k∧Ext w w'∧aW w' b4 139 (bX .zero)∧aW w' b6 139 (bX ⟨f,t,.nil,⟨s.2.1,s.1,s.2.2⟩⟩)∧Own w' w.heap.size 3 1 bK s.2.1 s.1 s.2.2 (List.replicate s.1 1)) (fun s=>k-s.1) (0,none,0)
   ⟨rfl,rfl,rfl,by simp;rfl,trivial⟩ ⟨by omega,hw,bd,aA,Own.gz _ _ _ _ _ _⟩ ?_
  clear hw bd aA;rintro ⟨i,A,c⟩ w' ⟨hi,hw,bd,aA,hO⟩
  simp only at hi aA hO ⊢;by_cases z9:i<k
  ·refine Wz ?_;refine SW.dR rfl rfl rfl rfl rfl fun b w1 ae hb hB => ?_
   (replace hw:=Ext.trans hw ae;replace bd:=bd.ext ae;replace aA:=aA.ext ae;replace hO:=hO.ext ae);refine SW.append hO (aW.z7 (enc:=bK) (x:=1) hB) hw.size rfl rfl rfl (by omega) (by omega) fun A2 c2 w2 n7 hg => ?_
   replace hw:=aO hw hg (Nat.le_refl _) hO.bc;replace bd:=bd.grown hg (fun e=>hO.dq bd rfl e.symm);replace aA:=aA.grown hg (fun e=>hO.dq aA rfl e.symm);refine Wz ?_;refine SW.bz (i:=3) aA rfl rfl rfl rfl fun w5 dE hg => ?_
   replace hw:=hw.own dl hg;replace n7:=n7.grown hg (.inr (n7.dq aA rfl));replace bd:=bd.grown hg (by simpa using y8);refine Wz ?_;refine ah.again (i+1,A2,c2) ⟨rfl,rfl,rfl,by simp only [get];simp;omega,trivial⟩ (by simp only;omega) ⟨by simp only;omega,hw,bd,dE,?_⟩;simp only [List.replicate_succ'];exact n7
  ·obtain rfl:i=k:=by omega
   refine Wz ?_;refine SW.ak bd rfl rfl rfl rfl (dr ⟨f,t,.nil,⟨A,i,c⟩⟩) fun w5 bU hg => ?_
   replace hw:=hw.own iN hg;replace hO:=hO.grown hg (.inr (hO.dq bd rfl));refine Wz ?_;refine ah.cX rfl rfl rfl bU rfl ⟨_,rfl,hw,⟨f,t,.nil,⟨A,i,c⟩⟩,rfl,rfl,rfl,Own.gz _ _ _ _ _ _,?_⟩;simp only [hk,Int.toNat_natCast];exact hO
 ·rw [lu jv];unfold dI at jv;have m1:=fun h => @oD f h
  have m2:=fun h => @oD t h
  by_cases h1 : 0≤f
  ·have m1:=m1 h1;by_cases h2:f≤t
   ·have m2:=m2 (by omega);repeat' (first|refine Wz ?_|refine SW.fa rfl rfl rfl (fun h => ?_) (fun h => ?_)|(refine SW.call rfl rfl (jD _ _ _ _) ?_;intro v w1 ae hv;subst hv;replace hw:=Ext.trans hw ae;replace bd:=bd.ext ae;clear ae))
    all_goals
     first
      | (exfalso;omega)
      | (refine SW.ak bd rfl rfl rfl rfl (dr .zero) fun w5 bU hg => ?_
         replace hw:=hw.own iN hg;refine Wz ?_;exact ah.cX rfl rfl rfl bU rfl ⟨_,rfl,hw,.zero,rfl,fc.zero _ _⟩)
   ·repeat' (first|refine Wz ?_|refine SW.fa rfl rfl rfl (fun h => ?_) (fun h => ?_)|(refine SW.call rfl rfl (jD _ _ _ _) ?_;intro v w1 ae hv;subst hv;replace hw:=Ext.trans hw ae;replace bd:=bd.ext ae;clear ae))
    all_goals
     refine SW.ak bd rfl rfl rfl rfl (dr .zero) fun w5 bU hg => ?_
     replace hw:=hw.own iN hg;refine Wz ?_;exact ah.cX rfl rfl rfl bU rfl ⟨_,rfl,hw,.zero,rfl,fc.zero _ _⟩
  ·repeat' (first|refine Wz ?_|(refine SW.call rfl rfl (jD _ _ _ _) ?_;intro v w1 ae hv;subst hv;replace hw:=Ext.trans hw ae;replace bd:=bd.ext ae;clear ae))
   all_goals
    refine SW.ak bd rfl rfl rfl rfl (dr .zero) fun w5 bU hg => ?_
    replace hw:=hw.own iN hg;refine Wz ?_;exact ah.cX rfl rfl rfl bU rfl ⟨_,rfl,hw,.zero,rfl,fc.zero _ _⟩
end Go.Proofs.YtbidkghlpijecaaGreatDoor
