/-
  Texts of the claim SlabDestroys, part 2: what its theorem leans on.
-/
import Derived.Test.YtigikedbffjeiaaGreatPackSlabDestroys1
import Derived.Test.YtigikedbffjeiaaGreatChecked
import Derived.Test.YtigikedbffjeiaaGreatRows
import Derived.ProofKit
import Derived.SizedLaws
import Derived.JoinedCond
import Derived.Deep.Slices
import Derived.Deep.Fields
import Derived.Lib.SmallJoins
import Derived.OpenShut
namespace Go.Proofs.YtigikedbffjeiaaGreat
instance:OneTy Tryz.prog 3:=⟨by kernel_rfl,by kernel_rfl⟩
instance:ElemTy Tryz.prog 3 (.int .i64 0) 1 8:=⟨by kernel_rfl,by kernel_rfl,by decide⟩
instance:OneTy Tryz.prog 4:=⟨by kernel_rfl,by kernel_rfl⟩
instance:ElemTy Tryz.prog 4 (.bool false) 1 1:=⟨by kernel_rfl,by kernel_rfl,by decide⟩
instance:OneTy Tryz.prog 5:=⟨by kernel_rfl,by kernel_rfl⟩
instance:OneTy Tryz.prog 9:=⟨by kernel_rfl,by kernel_rfl⟩
instance:ElemTy Tryz.prog 9 (.string ByteArray.empty) 1 16:=⟨by kernel_rfl,by kernel_rfl,by decide⟩
instance:OneTy Tryz.prog 22:=⟨by kernel_rfl,by kernel_rfl⟩
instance:SliceTy Tryz.prog 22 3 1:=⟨by kernel_rfl,by kernel_rfl⟩
instance:OneTy Tryz.prog 23:=⟨by kernel_rfl,by kernel_rfl⟩
instance:SliceTy Tryz.prog 23 72 4:=⟨by kernel_rfl,by kernel_rfl⟩
instance:OneTy Tryz.prog 24:=⟨by kernel_rfl,by kernel_rfl⟩
instance:SliceTy Tryz.prog 24 75 4:=⟨by kernel_rfl,by kernel_rfl⟩
instance:OneTy Tryz.prog 25:=⟨by kernel_rfl,by kernel_rfl⟩
instance:ElemTy Tryz.prog 25 (.slice none 0 0) 1 24:=⟨by kernel_rfl,by kernel_rfl,by decide⟩
instance:SliceTy Tryz.prog 25 94 3:=⟨by kernel_rfl,by kernel_rfl⟩
instance:ElemTy Tryz.prog 27 (.agg #[.slice none 0 0,.slice none 0 0,.int .i64 0,.slice none 0 0,.slice none 0 0]) 5 104:=⟨by kernel_rfl,by kernel_rfl,by decide⟩
instance:AggTy Tryz.prog 27 5:=⟨by kernel_rfl,by kernel_rfl⟩
instance:BuildTy Tryz.prog 27 [(0,1),(1,1),(2,1),(3,1),(4,1)] [.slice none 0 0,.slice none 0 0,.int .i64 0,.slice none 0 0,.slice none 0 0]:=⟨by kernel_rfl,by kernel_rfl⟩
instance:FieldOf Tryz.prog 27 0 0 23:=⟨by kernel_rfl,by kernel_rfl⟩
instance:FieldOf Tryz.prog 27 1 1 22:=⟨by kernel_rfl,by kernel_rfl⟩
instance:FieldOf Tryz.prog 27 2 2 3:=⟨by kernel_rfl,by kernel_rfl⟩
instance:FieldOf Tryz.prog 27 3 3 24:=⟨by kernel_rfl,by kernel_rfl⟩
instance:FieldOf Tryz.prog 27 4 4 25:=⟨by kernel_rfl,by kernel_rfl⟩
instance:OneTy Tryz.prog 28:=⟨by kernel_rfl,by kernel_rfl⟩
instance:SliceTy Tryz.prog 28 44 6:=⟨by kernel_rfl,by kernel_rfl⟩
instance:ElemTy Tryz.prog 30 (.agg #[.slice none 0 0,.slice none 0 0,.slice none 0 0,.int .i64 0,.slice none 0 0,.slice none 0 0,.slice none 0 0]) 7 152:=⟨by kernel_rfl,by kernel_rfl,by decide⟩
instance:AggTy Tryz.prog 30 7:=⟨by kernel_rfl,by kernel_rfl⟩
instance:BuildTy Tryz.prog 30 [(0,1),(1,5),(6,1)] [.slice none 0 0,.slice none 0 0,.slice none 0 0,.int .i64 0,.slice none 0 0,.slice none 0 0,.slice none 0 0]:=⟨by kernel_rfl,by kernel_rfl⟩
instance:FieldOf Tryz.prog 30 0 0 22:=⟨by kernel_rfl,by kernel_rfl⟩
instance:FieldOf Tryz.prog 30 1 1 27:=⟨by kernel_rfl,by kernel_rfl⟩
instance:FieldOf Tryz.prog 30 2 6 28:=⟨by kernel_rfl,by kernel_rfl⟩
instance:OneTy Tryz.prog 41:=⟨by kernel_rfl,by kernel_rfl⟩
instance:SliceTy Tryz.prog 41 9 1:=⟨by kernel_rfl,by kernel_rfl⟩
instance:OneTy Tryz.prog 42:=⟨by kernel_rfl,by kernel_rfl⟩
instance:SliceTy Tryz.prog 42 46 3:=⟨by kernel_rfl,by kernel_rfl⟩
instance:ElemTy Tryz.prog 44 (.agg #[.slice none 0 0,.int .i64 0,.int .i64 0,.int .i64 0,.slice none 0 0,.slice none 0 0]) 6 96:=⟨by kernel_rfl,by kernel_rfl,by decide⟩
instance:AggTy Tryz.prog 44 6:=⟨by kernel_rfl,by kernel_rfl⟩
instance:FieldOf Tryz.prog 44 0 0 41:=⟨by kernel_rfl,by kernel_rfl⟩
instance:FieldOf Tryz.prog 44 1 1 3:=⟨by kernel_rfl,by kernel_rfl⟩
instance:FieldOf Tryz.prog 44 2 2 3:=⟨by kernel_rfl,by kernel_rfl⟩
instance:FieldOf Tryz.prog 44 3 3 3:=⟨by kernel_rfl,by kernel_rfl⟩
instance:FieldOf Tryz.prog 44 4 4 42:=⟨by kernel_rfl,by kernel_rfl⟩
instance:FieldOf Tryz.prog 44 5 5 22:=⟨by kernel_rfl,by kernel_rfl⟩
instance:ElemTy Tryz.prog 46 (.agg #[.int .i64 0,.int .i64 0,.int .i64 0]) 3 24:=⟨by kernel_rfl,by kernel_rfl,by decide⟩
instance:AggTy Tryz.prog 46 3:=⟨by kernel_rfl,by kernel_rfl⟩
instance:IntsTy Tryz.prog 46 3:=⟨by kernel_rfl,by kernel_rfl,by kernel_rfl,by kernel_rfl⟩
instance:FieldOf Tryz.prog 46 0 0 3:=⟨by kernel_rfl,by kernel_rfl⟩
instance:FieldOf Tryz.prog 46 1 1 3:=⟨by kernel_rfl,by kernel_rfl⟩
instance:FieldOf Tryz.prog 46 2 2 3:=⟨by kernel_rfl,by kernel_rfl⟩
instance:OneTy Tryz.prog 58:=⟨by kernel_rfl,by kernel_rfl⟩
instance:ElemTy Tryz.prog 58 (.pointer none) 1 8:=⟨by kernel_rfl,by kernel_rfl,by decide⟩
instance:ElemTy Tryz.prog 72 (.agg #[.int .i64 0,.int .i64 0,.slice none 0 0,.slice none 0 0]) 4 64:=⟨by kernel_rfl,by kernel_rfl,by decide⟩
instance:AggTy Tryz.prog 72 4:=⟨by kernel_rfl,by kernel_rfl⟩
instance:BuildTy Tryz.prog 72 [(0,1),(1,1),(2,1),(3,1)] [.int .i64 0,.int .i64 0,.slice none 0 0,.slice none 0 0]:=⟨by kernel_rfl,by kernel_rfl⟩
instance:FieldOf Tryz.prog 72 0 0 3:=⟨by kernel_rfl,by kernel_rfl⟩
instance:FieldOf Tryz.prog 72 1 1 3:=⟨by kernel_rfl,by kernel_rfl⟩
instance:FieldOf Tryz.prog 72 2 2 25:=⟨by kernel_rfl,by kernel_rfl⟩
instance:FieldOf Tryz.prog 72 3 3 22:=⟨by kernel_rfl,by kernel_rfl⟩
instance:ElemTy Tryz.prog 75 (.agg #[.int .i64 0,.int .i64 0,.int .i64 0,.slice none 0 0]) 4 48:=⟨by kernel_rfl,by kernel_rfl,by decide⟩
instance:AggTy Tryz.prog 75 4:=⟨by kernel_rfl,by kernel_rfl⟩
instance:BuildTy Tryz.prog 75 [(0,1),(1,1),(2,1),(3,1)] [.int .i64 0,.int .i64 0,.int .i64 0,.slice none 0 0]:=⟨by kernel_rfl,by kernel_rfl⟩
instance:FieldOf Tryz.prog 75 0 0 3:=⟨by kernel_rfl,by kernel_rfl⟩
instance:FieldOf Tryz.prog 75 1 1 3:=⟨by kernel_rfl,by kernel_rfl⟩
instance:FieldOf Tryz.prog 75 2 2 3:=⟨by kernel_rfl,by kernel_rfl⟩
instance:FieldOf Tryz.prog 75 3 3 22:=⟨by kernel_rfl,by kernel_rfl⟩
instance:ElemTy Tryz.prog 94 (.agg #[.int .i64 0,.int .i64 0,.int .i64 0]) 3 24:=⟨by kernel_rfl,by kernel_rfl,by decide⟩
instance:AggTy Tryz.prog 94 3:=⟨by kernel_rfl,by kernel_rfl⟩
instance:BuildTy Tryz.prog 94 [(0,1),(1,1),(2,1)] [.int .i64 0,.int .i64 0,.int .i64 0]:=⟨by kernel_rfl,by kernel_rfl⟩
instance:IntsTy Tryz.prog 94 3:=⟨by kernel_rfl,by kernel_rfl,by kernel_rfl,by kernel_rfl⟩
instance:FieldOf Tryz.prog 94 0 0 3:=⟨by kernel_rfl,by kernel_rfl⟩
instance:FieldOf Tryz.prog 94 1 1 3:=⟨by kernel_rfl,by kernel_rfl⟩
instance:FieldOf Tryz.prog 94 2 2 3:=⟨by kernel_rfl,by kernel_rfl⟩
instance:ArrTy Tryz.prog 127 256 4 1:=⟨by kernel_rfl,by kernel_rfl⟩
instance:BuildTy Tryz.prog 129 [(0,256),(256,1)] [.bool false,.bool false,.bool false,.bool false,.bool false,.bool false,.bool false,.bool false,.bool false,.bool false,.bool false,.bool false,.bool false,.bool false,.bool false,.bool false,.bool false,.bool false,.bool false,.bool false,.bool false,.bool false,.bool false,.bool false,.bool false,.bool false,.bool false,.bool false,.bool false,.bool false,.bool false,.bool false,.bool false,.bool false,.bool false,.bool false,.bool false,.bool false,.bool false,.bool false,.bool false,.bool false,.bool false,.bool false,.bool false,.bool false,.bool false,.bool false,.bool false,.bool false,.bool false,.bool false,.bool false,.bool false,.bool false,.bool false,.bool false,.bool false,.bool false,.bool false,.bool false,.bool false,.bool false,.bool false,.bool false,.bool false,.bool false,.bool false,.bool false,.bool false,.bool false,.bool false,.bool false,.bool false,.bool false,.bool false,.bool false,.bool false,.bool false,.bool false,.bool false,.bool false,.bool false,.bool false,.bool false,.bool false,.bool false,.bool false,.bool false,.bool false,.bool false,.bool false,.bool false,.bool false,.bool false,.bool false,.bool false,.bool false,.bool false,.bool false,.bool false,.bool false,.bool false,.bool false,.bool false,.bool false,.bool false,.bool false,.bool false,.bool false,.bool false,.bool false,.bool false,.bool false,.bool false,.bool false,.bool false,.bool false,.bool false,.bool false,.bool false,.bool false,.bool false,.bool false,.bool false,.bool false,.bool false,.bool false,.bool false,.bool false,.bool false,.bool false,.bool false,.bool false,.bool false,.bool false,.bool false,.bool false,.bool false,.bool false,.bool false,.bool false,.bool false,.bool false,.bool false,.bool false,.bool false,.bool false,.bool false,.bool false,.bool false,.bool false,.bool false,.bool false,.bool false,.bool false,.bool false,.bool false,.bool false,.bool false,.bool false,.bool false,.bool false,.bool false,.bool false,.bool false,.bool false,.bool false,.bool false,.bool false,.bool false,.bool false,.bool false,.bool false,.bool false,.bool false,.bool false,.bool false,.bool false,.bool false,.bool false,.bool false,.bool false,.bool false,.bool false,.bool false,.bool false,.bool false,.bool false,.bool false,.bool false,.bool false,.bool false,.bool false,.bool false,.bool false,.bool false,.bool false,.bool false,.bool false,.bool false,.bool false,.bool false,.bool false,.bool false,.bool false,.bool false,.bool false,.bool false,.bool false,.bool false,.bool false,.bool false,.bool false,.bool false,.bool false,.bool false,.bool false,.bool false,.bool false,.bool false,.bool false,.bool false,.bool false,.bool false,.bool false,.bool false,.bool false,.bool false,.bool false,.bool false,.bool false,.bool false,.bool false,.bool false,.bool false,.bool false,.bool false,.bool false,.bool false,.bool false,.bool false,.bool false,.bool false,.bool false,.bool false,.bool false,.bool false,.bool false,.bool false,.bool false,.bool false,.bool false,.bool false,.bool false,.bool false,.bool false]:=⟨by kernel_rfl,by kernel_rfl⟩
instance:FieldOf Tryz.prog 129 0 0 127:=⟨by kernel_rfl,by kernel_rfl⟩
instance:FieldOf Tryz.prog 129 1 256 4:=⟨by kernel_rfl,by kernel_rfl⟩
instance:SliceTy Tryz.prog 137 5 1:=⟨by kernel_rfl,by kernel_rfl⟩
instance:SliceTy Tryz.prog 150 4 1:=⟨by kernel_rfl,by kernel_rfl⟩
instance:Body Tryz.prog 6:=body_of Tryz.func6 (by kernel_rfl) (by kernel_rfl)
instance:Body Tryz.prog 9:=body_of Tryz.func9 (by kernel_rfl) (by kernel_rfl)
instance:Body Tryz.prog 12:=body_of Tryz.func12 (by kernel_rfl) (by kernel_rfl)
instance:Body Tryz.prog 13:=body_of Tryz.func13 (by kernel_rfl) (by kernel_rfl)
instance:Body Tryz.prog 14:=body_of Tryz.func14 (by kernel_rfl) (by kernel_rfl)
instance:Body Tryz.prog 15:=body_of Tryz.func15 (by kernel_rfl) (by kernel_rfl)
instance:Body Tryz.prog 16:=body_of Tryz.func16 (by kernel_rfl) (by kernel_rfl)
instance:Body Tryz.prog 17:=body_of Tryz.func17 (by kernel_rfl) (by kernel_rfl)
instance:Body Tryz.prog 18:=body_of Tryz.func18 (by kernel_rfl) (by kernel_rfl)
instance:Body Tryz.prog 19:=body_of Tryz.func19 (by kernel_rfl) (by kernel_rfl)
instance:Body Tryz.prog 20:=body_of Tryz.func20 (by kernel_rfl) (by kernel_rfl)
instance:Body Tryz.prog 21:=body_of Tryz.func21 (by kernel_rfl) (by kernel_rfl)
instance:Body Tryz.prog 22:=body_of Tryz.func22 (by kernel_rfl) (by kernel_rfl)
instance:Body Tryz.prog 25:=body_of Tryz.func25 (by kernel_rfl) (by kernel_rfl)
instance:Body Tryz.prog 28:=body_of Tryz.func28 (by kernel_rfl) (by kernel_rfl)
instance:Body Tryz.prog 29:=body_of Tryz.func29 (by kernel_rfl) (by kernel_rfl)
instance:Body Tryz.prog 30:=body_of Tryz.func30 (by kernel_rfl) (by kernel_rfl)
instance:Body Tryz.prog 31:=body_of Tryz.func31 (by kernel_rfl) (by kernel_rfl)
instance:Body Tryz.prog 32:=body_of Tryz.func32 (by kernel_rfl) (by kernel_rfl)
instance:Body Tryz.prog 33:=body_of Tryz.func33 (by kernel_rfl) (by kernel_rfl)
instance:Body Tryz.prog 34:=body_of Tryz.func34 (by kernel_rfl) (by kernel_rfl)
instance:Body Tryz.prog 35:=body_of Tryz.func35 (by kernel_rfl) (by kernel_rfl)
instance:Body Tryz.prog 36:=body_of Tryz.func36 (by kernel_rfl) (by kernel_rfl)
instance:Body Tryz.prog 37:=body_of Tryz.func37 (by kernel_rfl) (by kernel_rfl)
instance:Body Tryz.prog 38:=body_of Tryz.func38 (by kernel_rfl) (by kernel_rfl)
instance:Body Tryz.prog 39:=body_of Tryz.func39 (by kernel_rfl) (by kernel_rfl)
instance:Body Tryz.prog 40:=body_of Tryz.func40 (by kernel_rfl) (by kernel_rfl)
instance:Body Tryz.prog 41:=body_of Tryz.func41 (by kernel_rfl) (by kernel_rfl)
instance:Body Tryz.prog 42:=body_of Tryz.func42 (by kernel_rfl) (by kernel_rfl)
instance:Body Tryz.prog 43:=body_of Tryz.func43 (by kernel_rfl) (by kernel_rfl)
instance:Body Tryz.prog 44:=body_of Tryz.func44 (by kernel_rfl) (by kernel_rfl)
instance:Body Tryz.prog 45:=body_of Tryz.func45 (by kernel_rfl) (by kernel_rfl)
instance:Body Tryz.prog 46:=body_of Tryz.func46 (by kernel_rfl) (by kernel_rfl)
instance:Body Tryz.prog 47:=body_of Tryz.func47 (by kernel_rfl) (by kernel_rfl)
instance:Body Tryz.prog 48:=body_of Tryz.func48 (by kernel_rfl) (by kernel_rfl)
instance:Body Tryz.prog 49:=body_of Tryz.func49 (by kernel_rfl) (by kernel_rfl)
instance:Body Tryz.prog 50:=body_of Tryz.func50 (by kernel_rfl) (by kernel_rfl)
instance:Body Tryz.prog 51:=body_of Tryz.func51 (by kernel_rfl) (by kernel_rfl)
instance:Body Tryz.prog 52:=body_of Tryz.func52 (by kernel_rfl) (by kernel_rfl)
instance:Body Tryz.prog 53:=body_of Tryz.func53 (by kernel_rfl) (by kernel_rfl)
instance:Body Tryz.prog 54:=body_of Tryz.func54 (by kernel_rfl) (by kernel_rfl)
instance:Body Tryz.prog 55:=body_of Tryz.func55 (by kernel_rfl) (by kernel_rfl)
instance:Body Tryz.prog 56:=body_of Tryz.func56 (by kernel_rfl) (by kernel_rfl)
instance:Body Tryz.prog 57:=body_of Tryz.func57 (by kernel_rfl) (by kernel_rfl)
instance:Body Tryz.prog 58:=body_of Tryz.func58 (by kernel_rfl) (by kernel_rfl)
instance:Body Tryz.prog 59:=body_of Tryz.func59 (by kernel_rfl) (by kernel_rfl)
instance:Body Tryz.prog 60:=body_of Tryz.func60 (by kernel_rfl) (by kernel_rfl)
instance:Body Tryz.prog 61:=body_of Tryz.func61 (by kernel_rfl) (by kernel_rfl)
instance:Body Tryz.prog 62:=body_of Tryz.func62 (by kernel_rfl) (by kernel_rfl)
instance:Body Tryz.prog 63:=body_of Tryz.func63 (by kernel_rfl) (by kernel_rfl)
instance:Body Tryz.prog 64:=body_of Tryz.func64 (by kernel_rfl) (by kernel_rfl)
instance:Body Tryz.prog 65:=body_of Tryz.func65 (by kernel_rfl) (by kernel_rfl)
instance:Body Tryz.prog 66:=body_of Tryz.func66 (by kernel_rfl) (by kernel_rfl)
instance:Body Tryz.prog 67:=body_of Tryz.func67 (by kernel_rfl) (by kernel_rfl)
instance:Body Tryz.prog 68:=body_of Tryz.func68 (by kernel_rfl) (by kernel_rfl)
instance:Body Tryz.prog 69:=body_of Tryz.func69 (by kernel_rfl) (by kernel_rfl)
instance:Body Tryz.prog 70:=body_of Tryz.func70 (by kernel_rfl) (by kernel_rfl)
instance:Body Tryz.prog 71:=body_of Tryz.func71 (by kernel_rfl) (by kernel_rfl)
instance:Body Tryz.prog 72:=body_of Tryz.func72 (by kernel_rfl) (by kernel_rfl)
instance:Body Tryz.prog 73:=body_of Tryz.func73 (by kernel_rfl) (by kernel_rfl)
instance:Body Tryz.prog 74:=body_of Tryz.func74 (by kernel_rfl) (by kernel_rfl)
instance:Body Tryz.prog 75:=body_of Tryz.func75 (by kernel_rfl) (by kernel_rfl)
instance:Body Tryz.prog 76:=body_of Tryz.func76 (by kernel_rfl) (by kernel_rfl)
instance:Body Tryz.prog 77:=body_of Tryz.func77 (by kernel_rfl) (by kernel_rfl)
instance:Body Tryz.prog 78:=body_of Tryz.func78 (by kernel_rfl) (by kernel_rfl)
instance:Body Tryz.prog 79:=body_of Tryz.func79 (by kernel_rfl) (by kernel_rfl)
instance:Body Tryz.prog 80:=body_of Tryz.func80 (by kernel_rfl) (by kernel_rfl)
instance:Body Tryz.prog 81:=body_of Tryz.func81 (by kernel_rfl) (by kernel_rfl)
instance:Body Tryz.prog 82:=body_of Tryz.func82 (by kernel_rfl) (by kernel_rfl)
instance:Body Tryz.prog 83:=body_of Tryz.func83 (by kernel_rfl) (by kernel_rfl)
instance:Body Tryz.prog 84:=body_of Tryz.func84 (by kernel_rfl) (by kernel_rfl)
instance:Body Tryz.prog 85:=body_of Tryz.func85 (by kernel_rfl) (by kernel_rfl)
instance:Body Tryz.prog 86:=body_of Tryz.func86 (by kernel_rfl) (by kernel_rfl)
instance:Body Tryz.prog 87:=body_of Tryz.func87 (by kernel_rfl) (by kernel_rfl)
instance:Body Tryz.prog 88:=body_of Tryz.func88 (by kernel_rfl) (by kernel_rfl)
instance:Body Tryz.prog 89:=body_of Tryz.func89 (by kernel_rfl) (by kernel_rfl)
instance:Body Tryz.prog 90:=body_of Tryz.func90 (by kernel_rfl) (by kernel_rfl)
instance:Body Tryz.prog 91:=body_of Tryz.func91 (by kernel_rfl) (by kernel_rfl)
instance:Body Tryz.prog 92:=body_of Tryz.func92 (by kernel_rfl) (by kernel_rfl)
instance:Body Tryz.prog 93:=body_of Tryz.func93 (by kernel_rfl) (by kernel_rfl)
instance:Body Tryz.prog 94:=body_of Tryz.func94 (by kernel_rfl) (by kernel_rfl)
instance:Body Tryz.prog 95:=body_of Tryz.func95 (by kernel_rfl) (by kernel_rfl)
instance:Body Tryz.prog 96:=body_of Tryz.func96 (by kernel_rfl) (by kernel_rfl)
instance:Body Tryz.prog 97:=body_of Tryz.func97 (by kernel_rfl) (by kernel_rfl)
instance:Body Tryz.prog 98:=body_of Tryz.func98 (by kernel_rfl) (by kernel_rfl)
instance:Body Tryz.prog 99:=body_of Tryz.func99 (by kernel_rfl) (by kernel_rfl)
instance:Body Tryz.prog 100:=body_of Tryz.func100 (by kernel_rfl) (by kernel_rfl)
instance:Body Tryz.prog 101:=body_of Tryz.func101 (by kernel_rfl) (by kernel_rfl)
instance:Body Tryz.prog 102:=body_of Tryz.func102 (by kernel_rfl) (by kernel_rfl)
instance:Body Tryz.prog 103:=body_of Tryz.func103 (by kernel_rfl) (by kernel_rfl)
instance:Body Tryz.prog 104:=body_of Tryz.func104 (by kernel_rfl) (by kernel_rfl)
instance:Body Tryz.prog 105:=body_of Tryz.func105 (by kernel_rfl) (by kernel_rfl)
instance:Body Tryz.prog 106:=body_of Tryz.func106 (by kernel_rfl) (by kernel_rfl)
instance:Body Tryz.prog 107:=body_of Tryz.func107 (by kernel_rfl) (by kernel_rfl)
instance:Body Tryz.prog 108:=body_of Tryz.func108 (by kernel_rfl) (by kernel_rfl)
instance:Body Tryz.prog 109:=body_of Tryz.func109 (by kernel_rfl) (by kernel_rfl)
instance:Body Tryz.prog 110:=body_of Tryz.func110 (by kernel_rfl) (by kernel_rfl)
instance:Body Tryz.prog 111:=body_of Tryz.func111 (by kernel_rfl) (by kernel_rfl)
instance:Body Tryz.prog 112:=body_of Tryz.func112 (by kernel_rfl) (by kernel_rfl)
instance:Body Tryz.prog 113:=body_of Tryz.func113 (by kernel_rfl) (by kernel_rfl)
instance:Body Tryz.prog 114:=body_of Tryz.func114 (by kernel_rfl) (by kernel_rfl)
instance:Body Tryz.prog 115:=body_of Tryz.func115 (by kernel_rfl) (by kernel_rfl)
instance:Body Tryz.prog 116:=body_of Tryz.func116 (by kernel_rfl) (by kernel_rfl)
instance:Body Tryz.prog 117:=body_of Tryz.func117 (by kernel_rfl) (by kernel_rfl)
instance:Body Tryz.prog 118:=body_of Tryz.func118 (by kernel_rfl) (by kernel_rfl)
instance:Body Tryz.prog 119:=body_of Tryz.func119 (by kernel_rfl) (by kernel_rfl)
instance:Body Tryz.prog 120:=body_of Tryz.func120 (by kernel_rfl) (by kernel_rfl)
instance:Body Tryz.prog 121:=body_of Tryz.func121 (by kernel_rfl) (by kernel_rfl)
instance:Body Tryz.prog 122:=body_of Tryz.func122 (by kernel_rfl) (by kernel_rfl)
instance:Body Tryz.prog 123:=body_of Tryz.func123 (by kernel_rfl) (by kernel_rfl)
instance:Body Tryz.prog 124:=body_of Tryz.func124 (by kernel_rfl) (by kernel_rfl)
instance:Body Tryz.prog 125:=body_of Tryz.func125 (by kernel_rfl) (by kernel_rfl)
instance:Body Tryz.prog 126:=body_of Tryz.func126 (by kernel_rfl) (by kernel_rfl)
instance:Body Tryz.prog 127:=body_of Tryz.func127 (by kernel_rfl) (by kernel_rfl)
instance:Body Tryz.prog 130:=body_of Tryz.func130 (by kernel_rfl) (by kernel_rfl)
instance:Body Tryz.prog 131:=body_of Tryz.func131 (by kernel_rfl) (by kernel_rfl)
instance:Body Tryz.prog 132:=body_of Tryz.func132 (by kernel_rfl) (by kernel_rfl)
theorem mixed:Tryz.prog.follows .mixedOrders=true:=by kernel_rfl
open Go.ChangeShapes Go.WideShapes Go.ChangeAt Go.RowKit Go.Deep Go.Joins
theorem own:ownKnob Tryz.prog.godebug=none:=by kernel_rfl
theorem laidOut:laidOutB Tryz.prog=true:=by kernel_rfl
theorem trodAll_stays {H:Type} {enc:TypeId×Value→H} {P:Program} (hl:laidOutB P=true) {W W':World} (hb:Below W.heap.size W W') :
  ∀ (ts:List TypeId) (vs:List Value) (ds:List (DataW H)) (ps:List MemPlace),(∀ t∈ts,P.readableRec t=true∧t<P.types.size) →
   DataW.TrodAll enc P W 0 (fun _=>true) true ts vs ds ps→(∀ x∈ps,x.block<W.heap.size)→DataW.TrodAll enc P W' 0 (fun b=>decide (b<W.heap.size)) true ts vs ds ps
 | [],[],[],_,_,h,_=>h
 | t::ts,v::vs,d::ds,ps,hts,h,hlt=>by
  obtain ⟨p,q,h1,h2,rfl⟩:=h
  exact ⟨p,q,Below.trod hl (hts t (by simp)).1 (hts t (by simp)).2 h1 hb (fun x hx=>hlt x (by simp [hx])),
   trodAll_stays hl hb ts vs ds q (fun u hu=>hts u (by simp [hu])) h2 (fun x hx=>hlt x (by simp [hx])),rfl⟩
 | [],_::_,_,_,_,h,_=>by simp [DataW.TrodAll] at h
 | [],[],_::_,_,_,h,_=>by simp [DataW.TrodAll] at h
 | _::_,[],_,_,_,h,_=>by simp [DataW.TrodAll] at h
 | _::_,_::_,[],_,_,h,_=>by simp [DataW.TrodAll] at h
theorem law_close {H:Type} {enc:TypeId×Value→H} {P:Program} {f:Func} {s:ChangeSpec} {fid:FuncId} {W:World} {args:Array Value} {ds gs:List (DataW H)} {before:List MemPlace} {tb:TypeId}
  (hl:laidOutB P=true) (hts:∀ t∈f.params.toList,P.readableRec t=true∧t<P.types.size) (hr:f.resultTypes = #[tb]) (hb:P.underlying tb=some .bool) (hv:s.vars=[])
  (hsp:(s.fn H (ds++[])).results=[.lit (.bool true)]∧(s.fn H (ds++[])).args=ds∧(s.fn H (ds++[])).vars=[])
  (hW:DataW.Whole enc P f.params.toList s.vars false W args.toList ds gs before) (h:Ans P fid args.toList W fun v _=>v = .bool true) :
  Calls P fid args W fun e W' => ∃ v,e = .returned v∧s.post enc P f false true false false W args v W':=by
 have hW':=hW
 obtain ⟨p,q,hA,hV,rfl,_,_⟩:=hW
 rw [hv] at hV
 obtain ⟨rfl,rfl⟩:=trodVars_none hV
 simp only [List.append_nil] at hW'
 have hlt:∀ x∈p,x.block<W.heap.size:=fun x hx=>by simpa using hW'.lt x hx
 refine Calls.mono h.out ?_
 rintro e W' ⟨v,rfl,hx,rfl⟩
 obtain ⟨s1,s2,s3⟩:=hsp
 refine ⟨_,rfl,ds,[],p,[],p,[],hW',?_,?_,?_,Below.frame hx _,fun h=>by cases h⟩
 ·rw [s1,hr]
  exact trodAll_mk1 (shut_bool hb true)
 ·rw [s2]
  exact trodAll_stays hl hx _ _ _ _ hts hA hlt
 ·rw [s3,hv]
  rfl
structure Block where
 At:Int
 Order:Int
 Ty:Int
 deriving DecidableEq
structure Zone where
 From:Int
 To:Int
 Free:List Block
 Types:List Int
 deriving DecidableEq
structure PList where
 Cpu:Int
 Zone:Int
 Ty:Int
 Pages:List Int
structure Heap where
 Zones:List Zone
 Mins:List Int
 Cpus:Int
 Lists:List PList
 Live:List Block
structure Slab where
 At:Int
 Free:Int
 First:Int
 deriving DecidableEq
open Go.RowKit
theorem In_ans (x lo hi:Int) (w:World) : Ans Tryz.prog 40 [.int .i64 x,.int .i64 lo,.int .i64 hi] w fun v _=>v = .bool (decide (lo≤x∧x≤hi)):=by
 refine ans_of Tryz.func40 rfl Tryz.ntmps40 rfl ?_
 repeat' (first|(first|refine CW.seq ?_|refine CW.region ?_|refine CW.ret ?_)|(refine Post.seq ?_)|refine SW.nil ?_|(show SW _ _ _ _ (⟨_,_,_,_,_,some _⟩::_) _ _;first|refine SW.want_t rfl rfl (by with_reducible rfl) ?_|refine SW.skip_t rfl rfl (by with_reducible rfl) rfl ?_|refine SW.splitd rfl rfl rfl (fun h => ?_) (fun h => ?_))|refine SW.pure rfl rfl ?_)
 all_goals refine Post.ret1 rfl rfl ⟨_,rfl,Ext.refl _,?_⟩
 all_goals simp [*]
theorem sameInts_ans (A B:Option Addr) (n m c d:Nat) (xs ys:List Int) (w:World) (hx:Sl w 1 encI A n xs) (hy:Sl w 1 encI B m ys) (hn:n≤2305843009213693952) :
  Ans Tryz.prog 21 [.slice A n c,.slice B m d] w fun v _=>v = .bool (decide (xs=ys)):=by
 refine ans_of Tryz.func21 rfl Tryz.ntmps21 rfl ?_
 have hl:=hx.len
 have hl':=hy.len
 have hA:=hx.base
 have hB:=hy.base
 have hw:=Ext.refl w
 repeat' (first|(first|refine CW.seq ?_|refine CW.region ?_|refine CW.block ?_|refine CW.condn rfl (fun h => ?_) (fun h => ?_)|refine CW.skip ?_|refine CW.ret ?_)|(first|refine Post.seq ?_|refine Post.seq_ret ?_)|refine SW.nil ?_|refine SW.pure rfl rfl ?_|(show SW _ _ _ _ (⟨_,Op.call ⟨.builtin .len,_,_⟩,_,_,_,none⟩::_) _ _;refine SW.st (st_len rfl) rfl ?_))
 ·refine Post.ret1 rfl rfl ⟨_,rfl,hw,?_⟩
  have:xs≠ys:=fun e=>by subst e;omega
  simp [this]
 ·have hnm:n=m:=by omega
  refine CW.loop (fun k:Nat=>[(0,.slice A n c),(1,.slice B m d),(5,.int .i64 (k:Int))])
   (fun k w'=>k≤n∧Ext w w' ∧ ∀ j (h1:j<xs.length) (h2:j<ys.length),j<k→xs[j]=ys[j]) (fun k=>n-k) 0 ⟨rfl,rfl,rfl,trivial⟩ ⟨by omega,hw,fun j _ _ h=>by omega⟩ ?_
  clear hw
  rintro k w' ⟨hk,hw,heq⟩
  by_cases hkn:k<n
  ·repeat' (first|(first|refine CW.seq ?_|refine CW.region ?_|refine CW.block ?_|refine CW.condd_t rfl (by omega) ?_|refine CW.condn rfl (fun h => ?_) (fun h => ?_)|refine CW.skip ?_|refine CW.ret ?_|(apply CW.quiet1 mixed;(· kernel_rfl);rotate_left;intro w1 hw1;replace hw:=Ext.trans hw hw1;clear hw1;rotate_right))|(first|refine Post.seq ?_|refine Post.seq_ret ?_|refine Post.blk ?_|refine Post.blk_ret ?_|refine Post.again_ret ?_)|refine SW.nil ?_|refine SW.pure rfl rfl ?_|(show SW _ _ _ _ (⟨_,Op.binOp _ _ _ _ _,_,_,_,none⟩::_) _ _;refine SW.st (st_add rfl rfl (by omega) (by omega)) rfl ?_)|(show SW _ _ _ _ (⟨_,Op.indexAddr _ _ _,_,_,_,none⟩::_) _ _;refine SW.st (st_indexN rfl rfl (by assumption) (by omega)) rfl ?_)|(show SW _ _ _ _ (⟨_,Op.call ⟨.builtin .len,_,_⟩,_,_,_,none⟩::_) _ _;refine SW.st (st_len rfl) rfl ?_)|(show SW _ _ _ _ (⟨_,Op.load _ _,_,_,_,none⟩::_) _ _;first|refine SW.st (st_loadx hw rfl (hx.one hkn rfl)) rfl ?_|refine SW.st (st_loadx hw rfl (hy.one (hnm ▸ hkn) rfl)) rfl ?_)|exact SW.qnil rfl)
   ·refine Post.ret1 rfl rfl ⟨_,rfl,hw,?_⟩
    have:xs≠ys:=fun e=>by subst e;exact h rfl
    simp [this]
   ·refine Post.again (k+1) ⟨rfl,rfl,rfl,trivial⟩ (by omega) ⟨by omega,hw,fun j h1 h2 hj => ?_⟩
    by_cases hjk:j=k
    ·subst hjk;assumption
    ·exact heq j h1 h2 (by omega)
  ·repeat' (first|(first|refine CW.seq ?_|refine CW.region ?_|refine CW.condd_f rfl (by omega) ?_|refine CW.ret ?_|refine CW.exit ?_)|(first|refine Post.seq ?_|refine Post.seq_exit ?_|refine Post.hit ?_|refine Post.again_exit ?_)|refine SW.nil ?_|refine SW.pure rfl rfl ?_|(show SW _ _ _ _ (⟨_,Op.call ⟨.builtin .len,_,_⟩,_,_,_,none⟩::_) _ _;refine SW.st (st_len rfl) rfl ?_))
   refine Post.ret1 rfl rfl ⟨_,rfl,hw,?_⟩
   have:xs=ys:=List.ext_getElem (by omega) fun j h1 h2=>heq j h1 h2 (by omega)
   simp [this]
open Go.RowKit
open Go.RowKit
theorem in_ans (A:Option Addr) (n c:Nat) (x k:Int) (w:World) (hn:n≤2305843009213693952) : Ans Tryz.prog 108 [.slice A n c,.int .i64 x,.int .i64 k] w fun v _=>v = .bool (decide (0≤x∧0≤k∧k≤n∧x+k≤n)):=by
 refine ans_of Tryz.func108 rfl Tryz.ntmps108 rfl ?_
 repeat' (first|(first|refine CW.seq ?_|refine CW.region ?_|refine CW.ret ?_)|(refine Post.seq ?_)|refine SW.nil ?_|(show SW _ _ _ _ (⟨_,_,_,_,_,some _⟩::_) _ _;first|refine SW.want_t rfl rfl (by with_reducible rfl) ?_|refine SW.skip_t rfl rfl (by with_reducible rfl) rfl ?_|refine SW.splitd rfl rfl rfl (fun h => ?_) (fun h => ?_))|refine SW.pure rfl rfl ?_|(show SW _ _ _ _ (⟨_,Op.binOp _ _ _ _ _,_,_,_,none⟩::_) _ _;refine SW.st (st_sub rfl rfl (by omega) (by omega)) rfl ?_)|(show SW _ _ _ _ (⟨_,Op.call ⟨.builtin .len,_,_⟩,_,_,_,none⟩::_) _ _;refine SW.st (st_len rfl) rfl ?_))
 all_goals refine Post.ret1 rfl rfl ⟨_,rfl,Ext.refl _,?_⟩
 all_goals congr 1
 all_goals symm
 all_goals first|(refine decide_eq_true ?_;omega)|(refine decide_eq_false ?_;omega)|(rw [decide_eq_decide];omega)
theorem there_ans (A:Option Addr) (n c:Nat) (x k:Int) (w:World) (hn:n≤2305843009213693952) : Ans Tryz.prog 114 [.slice A n c,.int .i64 x,.int .i64 k] w fun v _=>v = .bool (decide (0≤x∧0≤k∧k≤n∧x+k≤n)):=by
 refine ans_of Tryz.func114 rfl Tryz.ntmps114 rfl ?_
 have hw:=Ext.refl w
 repeat' (first|(first|refine CW.seq ?_|refine CW.region ?_|refine CW.ret ?_)|(refine Post.seq ?_)|refine SW.nil ?_|(show SW _ _ _ _ (⟨_,_,_,_,_,some _⟩::_) _ _;first|refine SW.want_t rfl rfl (by with_reducible rfl) ?_|refine SW.skip_t rfl rfl (by with_reducible rfl) rfl ?_|refine SW.splitd rfl rfl rfl (fun h => ?_) (fun h => ?_))|refine SW.pure rfl rfl ?_|(show SW _ _ _ _ (⟨_,Op.binOp _ _ _ _ _,_,_,_,none⟩::_) _ _;refine SW.st (st_add rfl rfl (by omega) (by omega)) rfl ?_)|(show SW _ _ _ _ (⟨_,Op.call ⟨.builtin .len,_,_⟩,_,_,_,none⟩::_) _ _;refine SW.st (st_len rfl) rfl ?_)|(show SW _ _ _ _ (⟨_,Op.call ⟨.value (.func _),_,_⟩,_,_,_,none⟩::_) _ _;(refine SW.call rfl rfl (In_ans _ _ _ _) ?_;intro v w1 hw1 hv;subst hv;replace hw:=Ext.trans hw hw1;clear hw1)))
 all_goals refine Post.ret1 rfl rfl ⟨_,rfl,hw,?_⟩
 all_goals congr 1
 all_goals symm
 all_goals first|(refine decide_eq_true ?_;omega)|(refine decide_eq_false ?_;omega)|(rw [decide_eq_decide];omega)
def Copied (w:World) (e sz:Nat) {α : Type} (enc : α → List Value) (n:Nat) (l:List α) : Value→World→Prop:=fun v w' => ∃ A c,v = .slice A n c∧Own w' w.heap.size e sz enc A n c l
theorem words_ans (A:Option Addr) (n c:Nat) (l:List Int) (w:World) (hl:Sl w 1 encI A n l) (hn:n*8≤140737488355328) : Ans Tryz.prog 14 [.slice A n c] w (Copied w 3 1 encI n l):=by
 refine ans_of Tryz.func14 rfl Tryz.ntmps14 rfl ?_
 have hw:=Ext.refl w
 have hA:=hl.base
 repeat' (first|(first|refine CW.seq ?_|refine CW.region ?_|refine CW.block ?_)|(refine Post.seq ?_)|refine SW.nil ?_|refine SW.pure rfl rfl ?_)
 refine CW.loop (fun s:Nat×Option Addr×Nat=>[(0,.slice A n c),(3,.slice s.2.1 s.1 s.2.2),(4,.int .i64 (s.1:Int))])
  (fun s w'=>s.1≤n∧Ext w w'∧Own w' w.heap.size 3 1 encI s.2.1 s.1 s.2.2 (l.take s.1)) (fun s=>n-s.1) (0,none,0) ⟨rfl,rfl,rfl,trivial⟩ ⟨by omega,hw,by simpa using Own.nil_ _ _ _ _ _ _⟩ ?_
 clear hw
 rintro ⟨k,A1,c1⟩ w' ⟨hk,hw,hO⟩
 simp only at hk hO ⊢
 by_cases hkn:k<n
 ·repeat' (first|(first|refine CW.seq ?_|refine CW.region ?_|refine CW.block ?_|refine CW.condd_t rfl (by omega) ?_|refine CW.skip ?_)|(refine Post.seq ?_)|refine SW.nil ?_|refine SW.pure rfl rfl ?_|(show SW _ _ _ _ (⟨_,Op.indexAddr _ _ _,_,_,_,none⟩::_) _ _;refine SW.st (st_indexN rfl rfl (by assumption) (by omega)) rfl ?_)|(show SW _ _ _ _ (⟨_,Op.call ⟨.builtin .len,_,_⟩,_,_,_,none⟩::_) _ _;refine SW.st (st_len rfl) rfl ?_)|(show SW _ _ _ _ (⟨_,Op.load _ _,_,_,_,none⟩::_) _ _;refine SW.st (st_loadx hw rfl (hl.one hkn rfl)) rfl ?_))
  refine SW.build1 rfl rfl rfl rfl rfl fun b w1 hw1 hb hB => ?_
  replace hw:=Ext.trans hw hw1
  replace hO:=hO.ext hw1
  refine SW.append hO (Blk.sl1 (enc:=encI) hB) hw.size rfl rfl rfl (by omega) (by omega) fun A2 c2 w2 hO1 hg => ?_
  replace hw:=ext_grown hw hg (Nat.le_refl _) hO.row_ge
  repeat' (first|(refine CW.region ?_)|(first|refine Post.seq ?_|refine Post.blk ?_)|refine SW.nil ?_|refine SW.pure rfl rfl ?_|(show SW _ _ _ _ (⟨_,Op.binOp _ _ _ _ _,_,_,_,none⟩::_) _ _;refine SW.st (st_add rfl rfl (by omega) (by omega)) rfl ?_))
  refine Post.again (k+1,A2,c2) ⟨rfl,rfl,rfl,trivial⟩ (by simp only;omega) ⟨by simp only;omega,hw,?_⟩
  rw [List.take_succ_eq_append_getElem (hl.lt hkn)]
  exact hO1
 ·repeat' (first|(first|refine CW.seq ?_|refine CW.region ?_|refine CW.condd_f rfl (by omega) ?_|refine CW.ret ?_|refine CW.exit ?_)|(first|refine Post.seq ?_|refine Post.seq_exit ?_|refine Post.hit ?_|refine Post.again_exit ?_)|refine SW.nil ?_|refine SW.pure rfl rfl ?_|(show SW _ _ _ _ (⟨_,Op.call ⟨.builtin .len,_,_⟩,_,_,_,none⟩::_) _ _;refine SW.st (st_len rfl) rfl ?_))
  obtain rfl:k=n:=by omega
  refine Post.ret1 rfl rfl ⟨_,rfl,hw,A1,c1,rfl,?_⟩
  rwa [List.take_of_length_le (by have:=hl.len;omega)] at hO
theorem CloneInt_ans (A:Option Addr) (n c:Nat) (l:List Int) (w:World) (hl:Sl w 1 encI A n l) (hn:n*8≤140737488355328) : Ans Tryz.prog 62 [.slice A n c] w (Copied w 3 1 encI n l):=by
 refine ans_of Tryz.func62 rfl Tryz.ntmps62 rfl ?_
 have hw:=Ext.refl w
 repeat' (first|(first|refine CW.seq ?_|refine CW.region ?_)|(refine Post.seq ?_)|refine SW.nil ?_|refine SW.pure rfl rfl ?_)
 refine SW.st (st_eqnil rfl rfl) rfl ?_
 repeat' (first|(first|refine CW.seq ?_|refine CW.region ?_|refine CW.cond rfl (fun h => ?_) (fun h => ?_)|refine CW.skip ?_|refine CW.ret ?_)|(first|refine Post.seq ?_|refine Post.seq_ret ?_)|refine SW.nil ?_|refine SW.pure rfl rfl ?_)
 ·have hn0:n=0:=by
   rcases Nat.eq_zero_or_pos n with h0|h0
   ·exact h0
   ·have:=hl.base h0;simp_all
  subst hn0
  have:l=[]:=List.eq_nil_of_length_eq_zero hl.len
  subst this
  exact Post.ret1 rfl rfl ⟨_,rfl,hw,none,0,rfl,Own.nil_ _ _ _ _ _ _⟩
 ·refine SW.build0 rfl fun b w1 hw1 hb => ?_
  replace hw:=Ext.trans hw hw1
  repeat' (refine SW.pure rfl rfl ?_)
  refine SW.appendR (Nat.zero_add n) (List.nil_append l) (Own.nil_ w1 w.heap.size _ _ encI (some ⟨b,0,none⟩)) (hl.ext hw) hw.size rfl rfl rfl (by omega) (by omega) fun A2 c2 w2 hO hg => ?_
  replace hw:=ext_grown hw hg (Nat.le_refl _) (by simp [ownB])
  repeat' (first|(refine CW.ret ?_)|(refine Post.seq ?_)|refine SW.nil ?_|refine SW.pure rfl rfl ?_)
  exact Post.ret1 rfl rfl ⟨_,rfl,hw,A2,c2,rfl,hO⟩
open Go.RowKit
open Go.RowKit
def encBk (b:Block) : List Value:=[.int .i64 b.At,.int .i64 b.Order,.int .i64 b.Ty]
instance:Enc encBk 3:=⟨fun _=>rfl,fun r u hu=>by simp [encBk] at hu;rcases hu with rfl|rfl|rfl<;>rfl⟩
def encSb (b:Slab) : List Value:=[.int .i64 b.At,.int .i64 b.Free,.int .i64 b.First]
instance:Enc encSb 3:=⟨fun _=>rfl,fun r u hu=>by simp [encSb] at hu;rcases hu with rfl|rfl|rfl<;>rfl⟩
def Block.nums (r:Block) : List Int:=[r.At,r.Order,r.Ty]
theorem Block.nums_inj {r s:Block}:r.nums=s.nums↔r=s:=by cases r;cases s;simp [Block.nums]
theorem CloneBlock_ans (A:Option Addr) (n c:Nat) (l:List Block) (w:World) (hl:Sl w 3 encBk A n l) (hn:n*24≤140737488355328) : Ans Tryz.prog 98 [.slice A n c] w (Copied w 94 3 encBk n l):=by
 refine ans_of Tryz.func98 rfl Tryz.ntmps98 rfl ?_
 have hw:=Ext.refl w
 repeat' (first|(first|refine CW.seq ?_|refine CW.region ?_)|(refine Post.seq ?_)|refine SW.nil ?_|refine SW.pure rfl rfl ?_)
 refine SW.st (st_eqnil rfl rfl) rfl ?_
 repeat' (first|(first|refine CW.seq ?_|refine CW.region ?_|refine CW.cond rfl (fun h => ?_) (fun h => ?_)|refine CW.skip ?_|refine CW.ret ?_)|(first|refine Post.seq ?_|refine Post.seq_ret ?_)|refine SW.nil ?_|refine SW.pure rfl rfl ?_)
 ·have hn0:n=0:=by
   rcases Nat.eq_zero_or_pos n with h0|h0
   ·exact h0
   ·have:=hl.base h0;simp_all
  subst hn0
  have:l=[]:=List.eq_nil_of_length_eq_zero hl.len
  subst this
  exact Post.ret1 rfl rfl ⟨_,rfl,hw,none,0,rfl,Own.nil_ _ _ _ _ _ _⟩
 ·refine SW.build0 rfl fun b w1 hw1 hb => ?_
  replace hw:=Ext.trans hw hw1
  repeat' (refine SW.pure rfl rfl ?_)
  refine SW.appendR (Nat.zero_add n) (List.nil_append l) (Own.nil_ w1 w.heap.size _ _ encBk (some ⟨b,0,none⟩)) (hl.ext hw) hw.size rfl rfl rfl (by omega) (by omega) fun A2 c2 w2 hO hg => ?_
  replace hw:=ext_grown hw hg (Nat.le_refl _) (by simp [ownB])
  repeat' (first|(refine CW.ret ?_)|(refine Post.seq ?_)|refine SW.nil ?_|refine SW.pure rfl rfl ?_)
  exact Post.ret1 rfl rfl ⟨_,rfl,hw,A2,c2,rfl,hO⟩
theorem blocks_ans (A:Option Addr) (n c:Nat) (l:List Block) (w:World) (hl:Sl w 3 encBk A n l) (hn:n*24≤140737488355328) : Ans Tryz.prog 34 [.slice A n c] w (Copied w 94 3 encBk n l):=by
 refine ans_of Tryz.func34 rfl Tryz.ntmps34 rfl ?_
 have hw:=Ext.refl w
 have hA:=hl.base
 repeat' (first|(first|refine CW.seq ?_|refine CW.region ?_|refine CW.block ?_)|(refine Post.seq ?_)|refine SW.nil ?_|refine SW.pure rfl rfl ?_)
 refine CW.loop (fun s:Nat×Option Addr×Nat=>[(0,.slice A n c),(3,.slice s.2.1 s.1 s.2.2),(4,.int .i64 (s.1:Int))])
  (fun s w'=>s.1≤n∧Ext w w'∧Own w' w.heap.size 94 3 encBk s.2.1 s.1 s.2.2 (l.take s.1)) (fun s=>n-s.1) (0,none,0) ⟨rfl,rfl,rfl,trivial⟩ ⟨by omega,hw,by simpa using Own.nil_ _ _ _ _ _ _⟩ ?_
 clear hw
 rintro ⟨k,A1,c1⟩ w' ⟨hk,hw,hO⟩
 simp only at hk hO ⊢
 by_cases hkn:k<n
 ·repeat' (first|(first|refine CW.seq ?_|refine CW.region ?_|refine CW.block ?_|refine CW.condd_t rfl (by omega) ?_|refine CW.skip ?_)|(refine Post.seq ?_)|refine SW.nil ?_|refine SW.pure rfl rfl ?_|(show SW _ _ _ _ (⟨_,Op.indexAddr _ _ _,_,_,_,none⟩::_) _ _;refine SW.st (st_indexN rfl rfl (by assumption) (by omega)) rfl ?_)|(show SW _ _ _ _ (⟨_,Op.call ⟨.builtin .len,_,_⟩,_,_,_,none⟩::_) _ _;refine SW.st (st_len rfl) rfl ?_)|(show SW _ _ _ _ (⟨_,Op.load _ _,_,_,_,none⟩::_) _ _;refine SW.st (st_loadsx hw rfl rfl ((hl.all hkn))) rfl ?_))
  refine SW.build1 rfl rfl rfl rfl rfl fun b w1 hw1 hb hB => ?_
  replace hw:=Ext.trans hw hw1
  replace hO:=hO.ext hw1
  refine SW.append hO (Blk.sl1 (enc:=encBk) hB) hw.size rfl rfl rfl (by omega) (by omega) fun A2 c2 w2 hO1 hg => ?_
  replace hw:=ext_grown hw hg (Nat.le_refl _) hO.row_ge
  repeat' (first|(refine CW.region ?_)|(first|refine Post.seq ?_|refine Post.blk ?_)|refine SW.nil ?_|refine SW.pure rfl rfl ?_|(show SW _ _ _ _ (⟨_,Op.binOp _ _ _ _ _,_,_,_,none⟩::_) _ _;refine SW.st (st_add rfl rfl (by omega) (by omega)) rfl ?_))
  refine Post.again (k+1,A2,c2) ⟨rfl,rfl,rfl,trivial⟩ (by simp only;omega) ⟨by simp only;omega,hw,?_⟩
  rw [List.take_succ_eq_append_getElem (hl.lt hkn)]
  exact hO1
 ·repeat' (first|(first|refine CW.seq ?_|refine CW.region ?_|refine CW.condd_f rfl (by omega) ?_|refine CW.ret ?_|refine CW.exit ?_)|(first|refine Post.seq ?_|refine Post.seq_exit ?_|refine Post.hit ?_|refine Post.again_exit ?_)|refine SW.nil ?_|refine SW.pure rfl rfl ?_|(show SW _ _ _ _ (⟨_,Op.call ⟨.builtin .len,_,_⟩,_,_,_,none⟩::_) _ _;refine SW.st (st_len rfl) rfl ?_))
  obtain rfl:k=n:=by omega
  refine Post.ret1 rfl rfl ⟨_,rfl,hw,A1,c1,rfl,?_⟩
  rwa [List.take_of_length_le (by have:=hl.len;omega)] at hO
theorem sameBlocks_ans (A B:Option Addr) (n m c d:Nat) (xs ys:List Block) (w:World) (hx:Sl w 3 encBk A n xs) (hy:Sl w 3 encBk B m ys) (hn:n≤2305843009213693952) :
  Ans Tryz.prog 41 [.slice A n c,.slice B m d] w fun v _=>v = .bool (decide (xs=ys)):=by
 refine ans_of Tryz.func41 rfl Tryz.ntmps41 rfl ?_
 have hl:=hx.len
 have hl':=hy.len
 have hA:=hx.base
 have hB:=hy.base
 have hw:=Ext.refl w
 repeat' (first|(first|refine CW.seq ?_|refine CW.region ?_|refine CW.block ?_|refine CW.condn rfl (fun h => ?_) (fun h => ?_)|refine CW.skip ?_|refine CW.ret ?_)|(first|refine Post.seq ?_|refine Post.seq_ret ?_)|refine SW.nil ?_|refine SW.pure rfl rfl ?_|(show SW _ _ _ _ (⟨_,Op.call ⟨.builtin .len,_,_⟩,_,_,_,none⟩::_) _ _;refine SW.st (st_len rfl) rfl ?_))
 ·refine Post.ret1 rfl rfl ⟨_,rfl,hw,?_⟩
  have:xs≠ys:=fun e=>by subst e;omega
  simp [this]
 ·have hnm:n=m:=by omega
  refine CW.loop (fun k:Nat=>[(0,.slice A n c),(1,.slice B m d),(5,.int .i64 (k:Int))])
   (fun k w'=>k≤n∧Ext w w' ∧ ∀ j (h1:j<xs.length) (h2:j<ys.length),j<k→xs[j]=ys[j]) (fun k=>n-k) 0 ⟨rfl,rfl,rfl,trivial⟩ ⟨by omega,hw,fun j _ _ h=>by omega⟩ ?_
  clear hw
  rintro k w' ⟨hk,hw,heq⟩
  by_cases hkn:k<n
  ·repeat' (first|(first|refine CW.seq ?_|refine CW.region ?_|refine CW.block ?_|refine CW.condd_t rfl (by omega) ?_|refine CW.condn rfl (fun h => ?_) (fun h => ?_)|refine CW.skip ?_|refine CW.ret ?_|(apply CW.quiet1 mixed;(· kernel_rfl);rotate_left;intro w1 hw1;replace hw:=Ext.trans hw hw1;clear hw1;rotate_right))|(first|refine Post.seq ?_|refine Post.seq_ret ?_|refine Post.blk ?_|refine Post.blk_ret ?_|refine Post.again_ret ?_)|refine SW.nil ?_|refine SW.pure rfl rfl ?_|(show SW _ _ _ _ (⟨_,Op.binOp _ _ _ _ _,_,_,_,none⟩::_) _ _;refine SW.st (st_add rfl rfl (by omega) (by omega)) rfl ?_)|(show SW _ _ _ _ (⟨_,Op.indexAddr _ _ _,_,_,_,none⟩::_) _ _;refine SW.st (st_indexN rfl rfl (by assumption) (by omega)) rfl ?_)|(show SW _ _ _ _ (⟨_,Op.call ⟨.builtin .len,_,_⟩,_,_,_,none⟩::_) _ _;refine SW.st (st_len rfl) rfl ?_)|(show SW _ _ _ _ (⟨_,Op.load _ _,_,_,_,none⟩::_) _ _;first|refine SW.st (st_loadsx hw rfl rfl ((hx.all hkn))) rfl ?_|refine SW.st (st_loadsx hw rfl rfl ((hy.all (hnm ▸ hkn)))) rfl ?_)|(refine SW.st (st_neS (xs[k]'(hx.lt hkn)).nums (ys[k]'(hy.lt (hnm ▸ hkn))).nums rfl rfl rfl rfl) rfl ?_)|exact SW.qnil rfl)
   ·refine Post.ret1 rfl rfl ⟨_,rfl,hw,?_⟩
    have:xs≠ys:=fun e=>by subst e;exact h rfl
    simp [this]
   ·refine Post.again (k+1) ⟨rfl,rfl,rfl,trivial⟩ (by omega) ⟨by omega,hw,fun j h1 h2 hj => ?_⟩
    by_cases hjk:j=k
    ·subst hjk;exact Block.nums_inj.1 (by assumption)
    ·exact heq j h1 h2 (by omega)
  ·repeat' (first|(first|refine CW.seq ?_|refine CW.region ?_|refine CW.condd_f rfl (by omega) ?_|refine CW.ret ?_|refine CW.exit ?_)|(first|refine Post.seq ?_|refine Post.seq_exit ?_|refine Post.hit ?_|refine Post.again_exit ?_)|refine SW.nil ?_|refine SW.pure rfl rfl ?_|(show SW _ _ _ _ (⟨_,Op.call ⟨.builtin .len,_,_⟩,_,_,_,none⟩::_) _ _;refine SW.st (st_len rfl) rfl ?_))
   refine Post.ret1 rfl rfl ⟨_,rfl,hw,?_⟩
   have:xs=ys:=by
    apply List.ext_getElem (by omega)
    intro j h1 h2
    exact heq j h1 h2 (by omega)
   simp [this]
end Go.Proofs.YtigikedbffjeiaaGreat
set_option linter.unusedVariables false
set_option linter.unusedSimpArgs false
set_option maxRecDepth 100000
namespace Go.Proofs.YtigikedbffjeiaaGreat
open Go.ChangeShapes Go.WideShapes Go.ChangeAt Go.RowKit Go.Deep Go.Joins
def in64 (z:Int) : Prop := -9223372036854775808≤z∧z≤9223372036854775807
section
variable {H:Type} {enc:TypeId×Value→H} {W:World} {base:Nat} {spare:Nat→Bool} {held:Bool} {fuel:Nat} {cs:List Value} {x:DataW H×List MemPlace}
theorem in64_of_wf {z:Int} (h:(Lit.int .i64 z).wf=true) : in64 z:=by
 have h1:IntKind.i64.min = -9223372036854775808:=rfl
 have h2:IntKind.i64.max=9223372036854775807:=rfl
 simp only [Lit.wf,Bool.and_eq_true,decide_eq_true_eq] at h
 unfold in64
 omega
theorem el_int {t:TypeId} (ht:Tryz.prog.underlying t=some (.int .i64)) (h:DataW.trod enc Tryz.prog W base spare held fuel t cs=some x) : ∃ z:Int,cs=encI z∧in64 z:=by
 obtain ⟨z,rfl,_,hw⟩:=DataW.trod_int ht h
 exact ⟨z,rfl,in64_of_wf hw⟩
end
section
variable {H:Type} {P:Program}
theorem bd_arg {ts:List TypeId} {ds:List (DataW H)} (h:(DataW.weightsEach P ts ds).all (· ≤ reachBytes)=true) {j:Nat} {t:TypeId} {d:DataW H} (ht:ts[j]?=some t) (hd:ds[j]?=some d) : ∀ y∈d.weights P t,y≤reachBytes:=fun y hy=>by
 simpa using List.all_eq_true.1 h _ (DataW.weights_mem_each ht hd y hy)
theorem bd_field {t:TypeId} {fs:Array Field} {parts:List (DataW H)} (hu:P.underlying t=some (.struct fs)) {j:Nat} {tj:TypeId} {dj:DataW H} (ht:(fs.toList.map (·.type))[j]?=some tj) (hd:parts[j]?=some dj) (h:∀ y∈(DataW.agg parts).weights P t,y≤reachBytes) : ∀ y∈dj.weights P tj,y≤reachBytes:=fun y hy=>by
 apply h
 simp only [DataW.weights,hu]
 exact DataW.weights_mem_each ht hd y hy
end
section
variable {H:Type} {enc:TypeId×Value→H} {W:World} {base:Nat} {spare:Nat→Bool} {held:Bool} {fuel:Nat} {cs:List Value} {x:DataW H×List MemPlace}
theorem el_block (h:DataW.trod enc Tryz.prog W base spare held fuel 94 cs=some x) : ∃ r:Block,cs=encBk r∧True:=by
 obtain ⟨xs,n,_,_,hlen,hxl,hf⟩:=DataW.trod_struct Tryz.underlying94 h
 have hc:Tryz.prog.cellsOf 94=3:=by kernel_rfl
 have hi:Tryz.prog.cellsOf 3=1:=by kernel_rfl
 rw [hc] at hlen
 match cs,hlen with
 | [c0,c1,c2],_ =>
  match xs,hxl with
  | [y0,y1,y2],_ =>
   have h0:DataW.trod enc Tryz.prog W base spare held n 3 (List.take (Tryz.prog.cellsOf 3) (List.drop 0 [c0,c1,c2]))=some y0:=hf 0 _ rfl
   have h1:DataW.trod enc Tryz.prog W base spare held n 3 (List.take (Tryz.prog.cellsOf 3) (List.drop 1 [c0,c1,c2]))=some y1:=hf 1 _ rfl
   have h2:DataW.trod enc Tryz.prog W base spare held n 3 (List.take (Tryz.prog.cellsOf 3) (List.drop 2 [c0,c1,c2]))=some y2:=hf 2 _ rfl
   rw [hi] at h0 h1 h2
   obtain ⟨a,ha,wa⟩:=el_int Tryz.underlying3 h0
   obtain ⟨b,hb,wb⟩:=el_int Tryz.underlying3 h1
   obtain ⟨c,hcc,wc⟩:=el_int Tryz.underlying3 h2
   simp [encI] at ha hb hcc
   subst ha hb hcc
   exact ⟨⟨a,b,c⟩,rfl,trivial⟩
end
def pw (o:Int) : Int:=2 ^ o.toNat
theorem pw_cases {o:Int} (h0 : 0≤o) (h4:o≤4) : (o=0∧pw o=1)∨(o=1∧pw o=2)∨(o=2∧pw o=4)∨(o=3∧pw o=8)∨(o=4∧pw o=16):=by
  have:o=0∨o=1∨o=2∨o=3∨o=4:=by omega
  rcases this with rfl|rfl|rfl|rfl|rfl<;>decide
theorem pw_le {o:Int} (h0 : 0≤o) (h4:o≤4) : 1≤pw o∧pw o≤16:=by rcases pw_cases h0 h4 with h|h|h|h|h<;>omega
theorem pw_succ {o:Int} (h0 : 0≤o) (h4:o≤4) : pw (o+1)=2*pw o:=by
  have:o=0∨o=1∨o=2∨o=3∨o=4:=by omega
  rcases this with rfl|rfl|rfl|rfl|rfl<;>decide
def beside (a o:Int) : Int:=if a % (2*pw o)=0 then a+pw o else a-pw o
theorem xor_fact:∀ a<256,∀ o<4,a % 2 ^ o=0→((a ^^^ 2 ^ o:Nat) : Int)=if (a:Int) % (2*2 ^ o)=0 then (a:Int)+2 ^ o else (a:Int)-2 ^ o:=by decide +kernel
theorem xor_beside {a:Nat} {o:Int} (ha:a<256) (h0 : 0≤o) (h4:o<4) (h:(a:Int) % pw o=0) : ((a ^^^ 2 ^ o.toNat:Nat) : Int)=beside a o:=by
  have:o=0∨o=1∨o=2∨o=3:=by omega
  rcases this with rfl|rfl|rfl|rfl
  · exact xor_fact a ha 0 (by omega) (by simp only [pw] at h;omega)
  · exact xor_fact a ha 1 (by omega) (by have:pw 1=2:=by decide
                                         rw [this] at h;simp;omega)
  · exact xor_fact a ha 2 (by omega) (by have:pw 2=4:=by decide
                                         rw [this] at h;simp;omega)
  · exact xor_fact a ha 3 (by omega) (by have:pw 3=8:=by decide
                                         rw [this] at h;simp;omega)
def fitsZ (f t a o:Int) : Prop:=0≤o∧o≤4∧f≤a∧a<t∧a % pw o=0
instance (f t a o:Int) : Decidable (fitsZ f t a o):=inferInstanceAs (Decidable (_∧_))
def tyOk (t:Int) : Prop:=0≤t∧t≤2
instance (t:Int) : Decidable (tyOk t):=inferInstanceAs (Decidable (_∧_))
def nextOk (a b:Block) : Prop:=a.At+pw a.Order≤b.At ∧ ¬ (b.Order<4∧a.Order=b.Order∧a.At=beside b.At b.Order)
instance (a b:Block) : Decidable (nextOk a b):=inferInstanceAs (Decidable (_∧_))
def blkOk (f t:Int) (b:Block) : Prop:=fitsZ f t b.At b.Order∧tyOk b.Ty
instance (f t:Int) (b:Block) : Decidable (blkOk f t b):=inferInstanceAs (Decidable (_∧_))
def zoneOk (f t:Int) : Prop:=0≤f∧f≤t∧t≤256∧f % 16=0∧t % 16=0
instance (f t:Int) : Decidable (zoneOk f t):=inferInstanceAs (Decidable (_∧_))
structure ZoneMay (z:Zone) : Prop where
  ok:zoneOk z.From z.To
  len : 8*(z.Types.length:Int)=z.To-z.From
  types:∀ t∈z.Types,tyOk t
  blk:∀ (i:Nat) (h:i<z.Free.length),blkOk z.From z.To z.Free[i]
  next:∀ (i:Nat) (h:i+1<z.Free.length),nextOk z.Free[i] z.Free[i+1]
noncomputable def zoneB (z:Zone) : Bool := @decide (ZoneMay z) (Classical.propDecidable _)
theorem zoneB_t {z:Zone} (h:ZoneMay z) : zoneB z=true:=by unfold zoneB;exact @decide_eq_true _ (Classical.propDecidable _) h
theorem zoneB_f {z:Zone} (h : ¬ ZoneMay z) : zoneB z=false:=by unfold zoneB;exact @decide_eq_false _ (Classical.propDecidable _) h
theorem zoneB_iff {z:Zone}:zoneB z=true↔ZoneMay z:=by
  by_cases h:ZoneMay z
  · simp [zoneB_t h,h]
  · simp [zoneB_f h,h]
theorem next_ref {f t:Int} {a b:Block} (ha:blkOk f t a) (hb:blkOk f t b) (h:a.At+pw a.Order≤b.At) :
    (b.Order<4∧a.Order=b.Order∧a.At=beside b.At b.Order)↔(b.Order<4∧a.Order=b.Order∧a.At+pw b.Order=b.At∧a.At % pw (b.Order+1)=0):=by
  obtain ⟨⟨h1,h2,h3,h4,h5⟩,_⟩:=ha
  obtain ⟨⟨g1,g2,g3,g4,g5⟩,_⟩:=hb
  rw [pw_succ g1 g2]
  unfold beside
  constructor
  · rintro ⟨e1,e2,e3⟩
    refine ⟨e1,e2,?_⟩
    rw [e2] at h5 h
    have hp:=pw_cases g1 g2
    generalize pw b.Order=q at *
    rcases hp with ⟨e,rfl⟩|⟨e,rfl⟩|⟨e,rfl⟩|⟨e,rfl⟩|⟨e,rfl⟩<;>split at e3<;>omega
  · rintro ⟨e1,e2,e3,e4⟩
    refine ⟨e1,e2,?_⟩
    rw [e2] at h5 h
    have hp:=pw_cases g1 g2
    generalize pw b.Order=q at *
    rcases hp with ⟨e,rfl⟩|⟨e,rfl⟩|⟨e,rfl⟩|⟨e,rfl⟩|⟨e,rfl⟩<;>split<;>omega
def idxOf {α : Type} (p : α → Bool) (l:List α) : Int:=if l.any p then (l.findIdx p:Int) else -1
theorem typeIdx {z:Zone} {a:Int} (hz:ZoneMay z) (h1:z.From≤a) (h2:a<z.To) : ∃ k:Nat,(a-z.From) / 8=k∧k<z.Types.length:=by
  have:=hz.len
  exact ⟨((a-z.From) / 8).toNat,by omega,by omega⟩
end Go.Proofs.YtigikedbffjeiaaGreat
