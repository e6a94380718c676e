/-
  The instances on types and functions of this seat's translation (printed by gen_ty.py).
-/
import Derived.Test.YtfommgdbahemfaaDoorPackKmemSizes2
import Derived.Test.YtfommgdbahemfaaDoorChecked
namespace Go.Proofs.YtfommgdbahemfaaDoor
instance : OneTy Tryd.prog 1 := ⟨by kernel_rfl, by kernel_rfl⟩
instance : ElemTy Tryd.prog 1 (.nilFunc) 1 8 := ⟨by kernel_rfl, by kernel_rfl, by decide⟩
instance : OneTy Tryd.prog 2 := ⟨by kernel_rfl, by kernel_rfl⟩
instance : ElemTy Tryd.prog 2 (.int .i64 0) 1 8 := ⟨by kernel_rfl, by kernel_rfl, by decide⟩
instance : OneTy Tryd.prog 3 := ⟨by kernel_rfl, by kernel_rfl⟩
instance : ElemTy Tryd.prog 3 (.int .i64 0) 1 8 := ⟨by kernel_rfl, by kernel_rfl, by decide⟩
instance : OneTy Tryd.prog 4 := ⟨by kernel_rfl, by kernel_rfl⟩
instance : ElemTy Tryd.prog 4 (.bool false) 1 1 := ⟨by kernel_rfl, by kernel_rfl, by decide⟩
instance : OneTy Tryd.prog 5 := ⟨by kernel_rfl, by kernel_rfl⟩
instance : ElemTy Tryd.prog 5 (.int .u8 0) 1 1 := ⟨by kernel_rfl, by kernel_rfl, by decide⟩
instance : OneTy Tryd.prog 9 := ⟨by kernel_rfl, by kernel_rfl⟩
instance : ElemTy Tryd.prog 9 (.string ByteArray.empty) 1 16 := ⟨by kernel_rfl, by kernel_rfl, by decide⟩
instance : OneTy Tryd.prog 12 := ⟨by kernel_rfl, by kernel_rfl⟩
instance : ElemTy Tryd.prog 12 (.int .u64 0) 1 8 := ⟨by kernel_rfl, by kernel_rfl, by decide⟩
instance : OneTy Tryd.prog 21 := ⟨by kernel_rfl, by kernel_rfl⟩
instance : ElemTy Tryd.prog 21 (.int .i32 0) 1 4 := ⟨by kernel_rfl, by kernel_rfl, by decide⟩
instance : OneTy Tryd.prog 22 := ⟨by kernel_rfl, by kernel_rfl⟩
instance : ElemTy Tryd.prog 22 (.slice none 0 0) 1 24 := ⟨by kernel_rfl, by kernel_rfl, by decide⟩
instance : SliceTy Tryd.prog 22 55 3 := ⟨by kernel_rfl, by kernel_rfl⟩
instance : OneTy Tryd.prog 23 := ⟨by kernel_rfl, by kernel_rfl⟩
instance : ElemTy Tryd.prog 23 (.slice none 0 0) 1 24 := ⟨by kernel_rfl, by kernel_rfl, by decide⟩
instance : SliceTy Tryd.prog 23 3 1 := ⟨by kernel_rfl, by kernel_rfl⟩
instance : ElemTy Tryd.prog 24 (.agg #[.int .i64 0, .int .i64 0, .slice none 0 0, .slice none 0 0]) 4 64 := ⟨by kernel_rfl, by kernel_rfl, by decide⟩
instance : AggTy Tryd.prog 24 4 := ⟨by kernel_rfl, by kernel_rfl⟩
instance : BuildTy Tryd.prog 24 [(0, 1), (1, 1), (2, 1), (3, 1)] [.int .i64 0, .int .i64 0, .slice none 0 0, .slice none 0 0] := ⟨by kernel_rfl, by kernel_rfl⟩
instance : FieldOf Tryd.prog 24 0 0 3 := ⟨by kernel_rfl, by kernel_rfl⟩
instance : FieldOf Tryd.prog 24 1 1 3 := ⟨by kernel_rfl, by kernel_rfl⟩
instance : FieldOf Tryd.prog 24 2 2 22 := ⟨by kernel_rfl, by kernel_rfl⟩
instance : FieldOf Tryd.prog 24 3 3 23 := ⟨by kernel_rfl, by kernel_rfl⟩
instance : ElemTy Tryd.prog 25 (.agg #[.int .i64 0, .int .i64 0, .slice none 0 0, .slice none 0 0]) 4 64 := ⟨by kernel_rfl, by kernel_rfl, by decide⟩
instance : AggTy Tryd.prog 25 4 := ⟨by kernel_rfl, by kernel_rfl⟩
instance : BuildTy Tryd.prog 25 [(0, 1), (1, 1), (2, 1), (3, 1)] [.int .i64 0, .int .i64 0, .slice none 0 0, .slice none 0 0] := ⟨by kernel_rfl, by kernel_rfl⟩
instance : FieldOf Tryd.prog 25 0 0 3 := ⟨by kernel_rfl, by kernel_rfl⟩
instance : FieldOf Tryd.prog 25 1 1 3 := ⟨by kernel_rfl, by kernel_rfl⟩
instance : FieldOf Tryd.prog 25 2 2 22 := ⟨by kernel_rfl, by kernel_rfl⟩
instance : FieldOf Tryd.prog 25 3 3 23 := ⟨by kernel_rfl, by kernel_rfl⟩
instance : OneTy Tryd.prog 26 := ⟨by kernel_rfl, by kernel_rfl⟩
instance : ElemTy Tryd.prog 26 (.nilFunc) 1 8 := ⟨by kernel_rfl, by kernel_rfl, by decide⟩
instance : OneTy Tryd.prog 27 := ⟨by kernel_rfl, by kernel_rfl⟩
instance : ElemTy Tryd.prog 27 (.int .i64 0) 1 8 := ⟨by kernel_rfl, by kernel_rfl, by decide⟩
instance : OneTy Tryd.prog 29 := ⟨by kernel_rfl, by kernel_rfl⟩
instance : ElemTy Tryd.prog 29 (.nilFunc) 1 8 := ⟨by kernel_rfl, by kernel_rfl, by decide⟩
instance : OneTy Tryd.prog 30 := ⟨by kernel_rfl, by kernel_rfl⟩
instance : ElemTy Tryd.prog 30 (.nilFunc) 1 8 := ⟨by kernel_rfl, by kernel_rfl, by decide⟩
instance : OneTy Tryd.prog 31 := ⟨by kernel_rfl, by kernel_rfl⟩
instance : ElemTy Tryd.prog 31 (.nilFunc) 1 8 := ⟨by kernel_rfl, by kernel_rfl, by decide⟩
instance : OneTy Tryd.prog 32 := ⟨by kernel_rfl, by kernel_rfl⟩
instance : ElemTy Tryd.prog 32 (.slice none 0 0) 1 24 := ⟨by kernel_rfl, by kernel_rfl, by decide⟩
instance : SliceTy Tryd.prog 32 25 4 := ⟨by kernel_rfl, by kernel_rfl⟩
instance : OneTy Tryd.prog 33 := ⟨by kernel_rfl, by kernel_rfl⟩
instance : ElemTy Tryd.prog 33 (.slice none 0 0) 1 24 := ⟨by kernel_rfl, by kernel_rfl, by decide⟩
instance : SliceTy Tryd.prog 33 84 4 := ⟨by kernel_rfl, by kernel_rfl⟩
instance : ElemTy Tryd.prog 34 (.agg #[.slice none 0 0, .slice none 0 0, .int .i64 0, .slice none 0 0, .slice none 0 0]) 5 104 := ⟨by kernel_rfl, by kernel_rfl, by decide⟩
instance : AggTy Tryd.prog 34 5 := ⟨by kernel_rfl, by kernel_rfl⟩
instance : BuildTy Tryd.prog 34 [(0, 1), (1, 1), (2, 1), (3, 1), (4, 1)] [.slice none 0 0, .slice none 0 0, .int .i64 0, .slice none 0 0, .slice none 0 0] := ⟨by kernel_rfl, by kernel_rfl⟩
instance : FieldOf Tryd.prog 34 0 0 32 := ⟨by kernel_rfl, by kernel_rfl⟩
instance : FieldOf Tryd.prog 34 1 1 23 := ⟨by kernel_rfl, by kernel_rfl⟩
instance : FieldOf Tryd.prog 34 2 2 3 := ⟨by kernel_rfl, by kernel_rfl⟩
instance : FieldOf Tryd.prog 34 3 3 33 := ⟨by kernel_rfl, by kernel_rfl⟩
instance : FieldOf Tryd.prog 34 4 4 22 := ⟨by kernel_rfl, by kernel_rfl⟩
instance : ElemTy Tryd.prog 35 (.agg #[.slice none 0 0, .slice none 0 0, .int .i64 0, .slice none 0 0, .slice none 0 0]) 5 104 := ⟨by kernel_rfl, by kernel_rfl, by decide⟩
instance : AggTy Tryd.prog 35 5 := ⟨by kernel_rfl, by kernel_rfl⟩
instance : BuildTy Tryd.prog 35 [(0, 1), (1, 1), (2, 1), (3, 1), (4, 1)] [.slice none 0 0, .slice none 0 0, .int .i64 0, .slice none 0 0, .slice none 0 0] := ⟨by kernel_rfl, by kernel_rfl⟩
instance : FieldOf Tryd.prog 35 0 0 32 := ⟨by kernel_rfl, by kernel_rfl⟩
instance : FieldOf Tryd.prog 35 1 1 23 := ⟨by kernel_rfl, by kernel_rfl⟩
instance : FieldOf Tryd.prog 35 2 2 3 := ⟨by kernel_rfl, by kernel_rfl⟩
instance : FieldOf Tryd.prog 35 3 3 33 := ⟨by kernel_rfl, by kernel_rfl⟩
instance : FieldOf Tryd.prog 35 4 4 22 := ⟨by kernel_rfl, by kernel_rfl⟩
instance : OneTy Tryd.prog 36 := ⟨by kernel_rfl, by kernel_rfl⟩
instance : ElemTy Tryd.prog 36 (.slice none 0 0) 1 24 := ⟨by kernel_rfl, by kernel_rfl, by decide⟩
instance : SliceTy Tryd.prog 36 79 6 := ⟨by kernel_rfl, by kernel_rfl⟩
instance : ElemTy Tryd.prog 37 (.agg #[.slice none 0 0, .slice none 0 0, .slice none 0 0, .int .i64 0, .slice none 0 0, .slice none 0 0, .slice none 0 0]) 7 152 := ⟨by kernel_rfl, by kernel_rfl, by decide⟩
instance : AggTy Tryd.prog 37 7 := ⟨by kernel_rfl, by kernel_rfl⟩
instance : BuildTy Tryd.prog 37 [(0, 1), (1, 5), (6, 1)] [.slice none 0 0, .slice none 0 0, .slice none 0 0, .int .i64 0, .slice none 0 0, .slice none 0 0, .slice none 0 0] := ⟨by kernel_rfl, by kernel_rfl⟩
instance : FieldOf Tryd.prog 37 0 0 23 := ⟨by kernel_rfl, by kernel_rfl⟩
instance : FieldOf Tryd.prog 37 1 1 35 := ⟨by kernel_rfl, by kernel_rfl⟩
instance : FieldOf Tryd.prog 37 2 6 36 := ⟨by kernel_rfl, by kernel_rfl⟩
instance : ElemTy Tryd.prog 38 (.agg #[.slice none 0 0, .slice none 0 0, .slice none 0 0, .int .i64 0, .slice none 0 0, .slice none 0 0, .slice none 0 0]) 7 152 := ⟨by kernel_rfl, by kernel_rfl, by decide⟩
instance : AggTy Tryd.prog 38 7 := ⟨by kernel_rfl, by kernel_rfl⟩
instance : BuildTy Tryd.prog 38 [(0, 1), (1, 5), (6, 1)] [.slice none 0 0, .slice none 0 0, .slice none 0 0, .int .i64 0, .slice none 0 0, .slice none 0 0, .slice none 0 0] := ⟨by kernel_rfl, by kernel_rfl⟩
instance : FieldOf Tryd.prog 38 0 0 23 := ⟨by kernel_rfl, by kernel_rfl⟩
instance : FieldOf Tryd.prog 38 1 1 35 := ⟨by kernel_rfl, by kernel_rfl⟩
instance : FieldOf Tryd.prog 38 2 6 36 := ⟨by kernel_rfl, by kernel_rfl⟩
instance : OneTy Tryd.prog 40 := ⟨by kernel_rfl, by kernel_rfl⟩
instance : ElemTy Tryd.prog 40 (.nilFunc) 1 8 := ⟨by kernel_rfl, by kernel_rfl, by decide⟩
instance : OneTy Tryd.prog 41 := ⟨by kernel_rfl, by kernel_rfl⟩
instance : ElemTy Tryd.prog 41 (.nilFunc) 1 8 := ⟨by kernel_rfl, by kernel_rfl, by decide⟩
instance : OneTy Tryd.prog 42 := ⟨by kernel_rfl, by kernel_rfl⟩
instance : ElemTy Tryd.prog 42 (.nilFunc) 1 8 := ⟨by kernel_rfl, by kernel_rfl, by decide⟩
instance : OneTy Tryd.prog 44 := ⟨by kernel_rfl, by kernel_rfl⟩
instance : ElemTy Tryd.prog 44 (.nilFunc) 1 8 := ⟨by kernel_rfl, by kernel_rfl, by decide⟩
instance : OneTy Tryd.prog 45 := ⟨by kernel_rfl, by kernel_rfl⟩
instance : ElemTy Tryd.prog 45 (.nilFunc) 1 8 := ⟨by kernel_rfl, by kernel_rfl, by decide⟩
instance : OneTy Tryd.prog 46 := ⟨by kernel_rfl, by kernel_rfl⟩
instance : ElemTy Tryd.prog 46 (.nilFunc) 1 8 := ⟨by kernel_rfl, by kernel_rfl, by decide⟩
instance : OneTy Tryd.prog 47 := ⟨by kernel_rfl, by kernel_rfl⟩
instance : ElemTy Tryd.prog 47 (.nilFunc) 1 8 := ⟨by kernel_rfl, by kernel_rfl, by decide⟩
instance : OneTy Tryd.prog 48 := ⟨by kernel_rfl, by kernel_rfl⟩
instance : ElemTy Tryd.prog 48 (.nilFunc) 1 8 := ⟨by kernel_rfl, by kernel_rfl, by decide⟩
instance : OneTy Tryd.prog 49 := ⟨by kernel_rfl, by kernel_rfl⟩
instance : ElemTy Tryd.prog 49 (.nilFunc) 1 8 := ⟨by kernel_rfl, by kernel_rfl, by decide⟩
instance : OneTy Tryd.prog 50 := ⟨by kernel_rfl, by kernel_rfl⟩
instance : ElemTy Tryd.prog 50 (.nilFunc) 1 8 := ⟨by kernel_rfl, by kernel_rfl, by decide⟩
instance : ElemTy Tryd.prog 51 (.agg #[.int .i64 0, .int .i64 0]) 2 16 := ⟨by kernel_rfl, by kernel_rfl, by decide⟩
instance : ArrTy Tryd.prog 51 2 3 1 := ⟨by kernel_rfl, by kernel_rfl⟩
instance : AggTy Tryd.prog 51 2 := ⟨by kernel_rfl, by kernel_rfl⟩
instance : ElemTy Tryd.prog 52 (.agg #[.int .i64 0, .int .i64 0, .int .i64 0, .int .i64 0, .int .i64 0, .int .i64 0]) 6 48 := ⟨by kernel_rfl, by kernel_rfl, by decide⟩
instance : ArrTy Tryd.prog 52 3 51 2 := ⟨by kernel_rfl, by kernel_rfl⟩
instance : AggTy Tryd.prog 52 6 := ⟨by kernel_rfl, by kernel_rfl⟩
instance : OneTy Tryd.prog 53 := ⟨by kernel_rfl, by kernel_rfl⟩
instance : ElemTy Tryd.prog 53 (.nilFunc) 1 8 := ⟨by kernel_rfl, by kernel_rfl, by decide⟩
instance : ElemTy Tryd.prog 54 (.agg #[.int .i64 0, .int .i64 0, .int .i64 0]) 3 24 := ⟨by kernel_rfl, by kernel_rfl, by decide⟩
instance : AggTy Tryd.prog 54 3 := ⟨by kernel_rfl, by kernel_rfl⟩
instance : BuildTy Tryd.prog 54 [(0, 1), (1, 1), (2, 1)] [.int .i64 0, .int .i64 0, .int .i64 0] := ⟨by kernel_rfl, by kernel_rfl⟩
instance : IntsTy Tryd.prog 54 3 := ⟨by kernel_rfl, by kernel_rfl, by kernel_rfl, by kernel_rfl⟩
instance : FieldOf Tryd.prog 54 0 0 3 := ⟨by kernel_rfl, by kernel_rfl⟩
instance : FieldOf Tryd.prog 54 1 1 3 := ⟨by kernel_rfl, by kernel_rfl⟩
instance : FieldOf Tryd.prog 54 2 2 3 := ⟨by kernel_rfl, by kernel_rfl⟩
instance : ElemTy Tryd.prog 55 (.agg #[.int .i64 0, .int .i64 0, .int .i64 0]) 3 24 := ⟨by kernel_rfl, by kernel_rfl, by decide⟩
instance : AggTy Tryd.prog 55 3 := ⟨by kernel_rfl, by kernel_rfl⟩
instance : BuildTy Tryd.prog 55 [(0, 1), (1, 1), (2, 1)] [.int .i64 0, .int .i64 0, .int .i64 0] := ⟨by kernel_rfl, by kernel_rfl⟩
instance : IntsTy Tryd.prog 55 3 := ⟨by kernel_rfl, by kernel_rfl, by kernel_rfl, by kernel_rfl⟩
instance : FieldOf Tryd.prog 55 0 0 3 := ⟨by kernel_rfl, by kernel_rfl⟩
instance : FieldOf Tryd.prog 55 1 1 3 := ⟨by kernel_rfl, by kernel_rfl⟩
instance : FieldOf Tryd.prog 55 2 2 3 := ⟨by kernel_rfl, by kernel_rfl⟩
instance : OneTy Tryd.prog 56 := ⟨by kernel_rfl, by kernel_rfl⟩
instance : ElemTy Tryd.prog 56 (.nilFunc) 1 8 := ⟨by kernel_rfl, by kernel_rfl, by decide⟩
instance : OneTy Tryd.prog 57 := ⟨by kernel_rfl, by kernel_rfl⟩
instance : ElemTy Tryd.prog 57 (.nilFunc) 1 8 := ⟨by kernel_rfl, by kernel_rfl, by decide⟩
instance : OneTy Tryd.prog 59 := ⟨by kernel_rfl, by kernel_rfl⟩
instance : ElemTy Tryd.prog 59 (.nilFunc) 1 8 := ⟨by kernel_rfl, by kernel_rfl, by decide⟩
instance : OneTy Tryd.prog 60 := ⟨by kernel_rfl, by kernel_rfl⟩
instance : ElemTy Tryd.prog 60 (.nilFunc) 1 8 := ⟨by kernel_rfl, by kernel_rfl, by decide⟩
instance : OneTy Tryd.prog 61 := ⟨by kernel_rfl, by kernel_rfl⟩
instance : ElemTy Tryd.prog 61 (.nilFunc) 1 8 := ⟨by kernel_rfl, by kernel_rfl, by decide⟩
instance : OneTy Tryd.prog 62 := ⟨by kernel_rfl, by kernel_rfl⟩
instance : ElemTy Tryd.prog 62 (.nilFunc) 1 8 := ⟨by kernel_rfl, by kernel_rfl, by decide⟩
instance : OneTy Tryd.prog 64 := ⟨by kernel_rfl, by kernel_rfl⟩
instance : ElemTy Tryd.prog 64 (.nilFunc) 1 8 := ⟨by kernel_rfl, by kernel_rfl, by decide⟩
instance : OneTy Tryd.prog 65 := ⟨by kernel_rfl, by kernel_rfl⟩
instance : ElemTy Tryd.prog 65 (.nilFunc) 1 8 := ⟨by kernel_rfl, by kernel_rfl, by decide⟩
instance : OneTy Tryd.prog 66 := ⟨by kernel_rfl, by kernel_rfl⟩
instance : ElemTy Tryd.prog 66 (.nilFunc) 1 8 := ⟨by kernel_rfl, by kernel_rfl, by decide⟩
instance : OneTy Tryd.prog 68 := ⟨by kernel_rfl, by kernel_rfl⟩
instance : ElemTy Tryd.prog 68 (.nilFunc) 1 8 := ⟨by kernel_rfl, by kernel_rfl, by decide⟩
instance : OneTy Tryd.prog 69 := ⟨by kernel_rfl, by kernel_rfl⟩
instance : ElemTy Tryd.prog 69 (.nilFunc) 1 8 := ⟨by kernel_rfl, by kernel_rfl, by decide⟩
instance : OneTy Tryd.prog 70 := ⟨by kernel_rfl, by kernel_rfl⟩
instance : ElemTy Tryd.prog 70 (.nilFunc) 1 8 := ⟨by kernel_rfl, by kernel_rfl, by decide⟩
instance : OneTy Tryd.prog 71 := ⟨by kernel_rfl, by kernel_rfl⟩
instance : ElemTy Tryd.prog 71 (.nilFunc) 1 8 := ⟨by kernel_rfl, by kernel_rfl, by decide⟩
instance : OneTy Tryd.prog 72 := ⟨by kernel_rfl, by kernel_rfl⟩
instance : ElemTy Tryd.prog 72 (.nilFunc) 1 8 := ⟨by kernel_rfl, by kernel_rfl, by decide⟩
instance : OneTy Tryd.prog 74 := ⟨by kernel_rfl, by kernel_rfl⟩
instance : ElemTy Tryd.prog 74 (.nilFunc) 1 8 := ⟨by kernel_rfl, by kernel_rfl, by decide⟩
instance : OneTy Tryd.prog 75 := ⟨by kernel_rfl, by kernel_rfl⟩
instance : ElemTy Tryd.prog 75 (.nilFunc) 1 8 := ⟨by kernel_rfl, by kernel_rfl, by decide⟩
instance : OneTy Tryd.prog 76 := ⟨by kernel_rfl, by kernel_rfl⟩
instance : ElemTy Tryd.prog 76 (.slice none 0 0) 1 24 := ⟨by kernel_rfl, by kernel_rfl, by decide⟩
instance : SliceTy Tryd.prog 76 9 1 := ⟨by kernel_rfl, by kernel_rfl⟩
instance : OneTy Tryd.prog 77 := ⟨by kernel_rfl, by kernel_rfl⟩
instance : ElemTy Tryd.prog 77 (.slice none 0 0) 1 24 := ⟨by kernel_rfl, by kernel_rfl, by decide⟩
instance : SliceTy Tryd.prog 77 110 3 := ⟨by kernel_rfl, by kernel_rfl⟩
instance : ElemTy Tryd.prog 78 (.agg #[.slice none 0 0, .int .i64 0, .int .i64 0, .int .i64 0, .slice none 0 0, .slice none 0 0]) 6 96 := ⟨by kernel_rfl, by kernel_rfl, by decide⟩
instance : AggTy Tryd.prog 78 6 := ⟨by kernel_rfl, by kernel_rfl⟩
instance : BuildTy Tryd.prog 78 [(0, 1), (1, 1), (2, 1), (3, 1), (4, 1), (5, 1)] [.slice none 0 0, .int .i64 0, .int .i64 0, .int .i64 0, .slice none 0 0, .slice none 0 0] := ⟨by kernel_rfl, by kernel_rfl⟩
instance : FieldOf Tryd.prog 78 0 0 76 := ⟨by kernel_rfl, by kernel_rfl⟩
instance : FieldOf Tryd.prog 78 1 1 3 := ⟨by kernel_rfl, by kernel_rfl⟩
instance : FieldOf Tryd.prog 78 2 2 3 := ⟨by kernel_rfl, by kernel_rfl⟩
instance : FieldOf Tryd.prog 78 3 3 3 := ⟨by kernel_rfl, by kernel_rfl⟩
instance : FieldOf Tryd.prog 78 4 4 77 := ⟨by kernel_rfl, by kernel_rfl⟩
instance : FieldOf Tryd.prog 78 5 5 23 := ⟨by kernel_rfl, by kernel_rfl⟩
instance : ElemTy Tryd.prog 79 (.agg #[.slice none 0 0, .int .i64 0, .int .i64 0, .int .i64 0, .slice none 0 0, .slice none 0 0]) 6 96 := ⟨by kernel_rfl, by kernel_rfl, by decide⟩
instance : AggTy Tryd.prog 79 6 := ⟨by kernel_rfl, by kernel_rfl⟩
instance : BuildTy Tryd.prog 79 [(0, 1), (1, 1), (2, 1), (3, 1), (4, 1), (5, 1)] [.slice none 0 0, .int .i64 0, .int .i64 0, .int .i64 0, .slice none 0 0, .slice none 0 0] := ⟨by kernel_rfl, by kernel_rfl⟩
instance : FieldOf Tryd.prog 79 0 0 76 := ⟨by kernel_rfl, by kernel_rfl⟩
instance : FieldOf Tryd.prog 79 1 1 3 := ⟨by kernel_rfl, by kernel_rfl⟩
instance : FieldOf Tryd.prog 79 2 2 3 := ⟨by kernel_rfl, by kernel_rfl⟩
instance : FieldOf Tryd.prog 79 3 3 3 := ⟨by kernel_rfl, by kernel_rfl⟩
instance : FieldOf Tryd.prog 79 4 4 77 := ⟨by kernel_rfl, by kernel_rfl⟩
instance : FieldOf Tryd.prog 79 5 5 23 := ⟨by kernel_rfl, by kernel_rfl⟩
instance : OneTy Tryd.prog 80 := ⟨by kernel_rfl, by kernel_rfl⟩
instance : ElemTy Tryd.prog 80 (.nilFunc) 1 8 := ⟨by kernel_rfl, by kernel_rfl, by decide⟩
instance : OneTy Tryd.prog 81 := ⟨by kernel_rfl, by kernel_rfl⟩
instance : ElemTy Tryd.prog 81 (.nilFunc) 1 8 := ⟨by kernel_rfl, by kernel_rfl, by decide⟩
instance : OneTy Tryd.prog 82 := ⟨by kernel_rfl, by kernel_rfl⟩
instance : ElemTy Tryd.prog 82 (.nilFunc) 1 8 := ⟨by kernel_rfl, by kernel_rfl, by decide⟩
instance : ElemTy Tryd.prog 83 (.agg #[.int .i64 0, .int .i64 0, .int .i64 0, .slice none 0 0]) 4 48 := ⟨by kernel_rfl, by kernel_rfl, by decide⟩
instance : AggTy Tryd.prog 83 4 := ⟨by kernel_rfl, by kernel_rfl⟩
instance : BuildTy Tryd.prog 83 [(0, 1), (1, 1), (2, 1), (3, 1)] [.int .i64 0, .int .i64 0, .int .i64 0, .slice none 0 0] := ⟨by kernel_rfl, by kernel_rfl⟩
instance : FieldOf Tryd.prog 83 0 0 3 := ⟨by kernel_rfl, by kernel_rfl⟩
instance : FieldOf Tryd.prog 83 1 1 3 := ⟨by kernel_rfl, by kernel_rfl⟩
instance : FieldOf Tryd.prog 83 2 2 3 := ⟨by kernel_rfl, by kernel_rfl⟩
instance : FieldOf Tryd.prog 83 3 3 23 := ⟨by kernel_rfl, by kernel_rfl⟩
instance : ElemTy Tryd.prog 84 (.agg #[.int .i64 0, .int .i64 0, .int .i64 0, .slice none 0 0]) 4 48 := ⟨by kernel_rfl, by kernel_rfl, by decide⟩
instance : AggTy Tryd.prog 84 4 := ⟨by kernel_rfl, by kernel_rfl⟩
instance : BuildTy Tryd.prog 84 [(0, 1), (1, 1), (2, 1), (3, 1)] [.int .i64 0, .int .i64 0, .int .i64 0, .slice none 0 0] := ⟨by kernel_rfl, by kernel_rfl⟩
instance : FieldOf Tryd.prog 84 0 0 3 := ⟨by kernel_rfl, by kernel_rfl⟩
instance : FieldOf Tryd.prog 84 1 1 3 := ⟨by kernel_rfl, by kernel_rfl⟩
instance : FieldOf Tryd.prog 84 2 2 3 := ⟨by kernel_rfl, by kernel_rfl⟩
instance : FieldOf Tryd.prog 84 3 3 23 := ⟨by kernel_rfl, by kernel_rfl⟩
instance : OneTy Tryd.prog 85 := ⟨by kernel_rfl, by kernel_rfl⟩
instance : ElemTy Tryd.prog 85 (.nilFunc) 1 8 := ⟨by kernel_rfl, by kernel_rfl, by decide⟩
instance : OneTy Tryd.prog 86 := ⟨by kernel_rfl, by kernel_rfl⟩
instance : ElemTy Tryd.prog 86 (.nilFunc) 1 8 := ⟨by kernel_rfl, by kernel_rfl, by decide⟩
instance : OneTy Tryd.prog 87 := ⟨by kernel_rfl, by kernel_rfl⟩
instance : ElemTy Tryd.prog 87 (.nilFunc) 1 8 := ⟨by kernel_rfl, by kernel_rfl, by decide⟩
instance : OneTy Tryd.prog 88 := ⟨by kernel_rfl, by kernel_rfl⟩
instance : ElemTy Tryd.prog 88 (.pointer none) 1 8 := ⟨by kernel_rfl, by kernel_rfl, by decide⟩
instance : OneTy Tryd.prog 89 := ⟨by kernel_rfl, by kernel_rfl⟩
instance : ElemTy Tryd.prog 89 (.nilFunc) 1 8 := ⟨by kernel_rfl, by kernel_rfl, by decide⟩
instance : OneTy Tryd.prog 90 := ⟨by kernel_rfl, by kernel_rfl⟩
instance : ElemTy Tryd.prog 90 (.nilFunc) 1 8 := ⟨by kernel_rfl, by kernel_rfl, by decide⟩
instance : OneTy Tryd.prog 91 := ⟨by kernel_rfl, by kernel_rfl⟩
instance : ElemTy Tryd.prog 91 (.nilFunc) 1 8 := ⟨by kernel_rfl, by kernel_rfl, by decide⟩
instance : OneTy Tryd.prog 93 := ⟨by kernel_rfl, by kernel_rfl⟩
instance : ElemTy Tryd.prog 93 (.nilFunc) 1 8 := ⟨by kernel_rfl, by kernel_rfl, by decide⟩
instance : OneTy Tryd.prog 95 := ⟨by kernel_rfl, by kernel_rfl⟩
instance : ElemTy Tryd.prog 95 (.nilFunc) 1 8 := ⟨by kernel_rfl, by kernel_rfl, by decide⟩
instance : OneTy Tryd.prog 96 := ⟨by kernel_rfl, by kernel_rfl⟩
instance : ElemTy Tryd.prog 96 (.nilFunc) 1 8 := ⟨by kernel_rfl, by kernel_rfl, by decide⟩
instance : OneTy Tryd.prog 97 := ⟨by kernel_rfl, by kernel_rfl⟩
instance : ElemTy Tryd.prog 97 (.nilFunc) 1 8 := ⟨by kernel_rfl, by kernel_rfl, by decide⟩
instance : OneTy Tryd.prog 98 := ⟨by kernel_rfl, by kernel_rfl⟩
instance : ElemTy Tryd.prog 98 (.nilFunc) 1 8 := ⟨by kernel_rfl, by kernel_rfl, by decide⟩
instance : OneTy Tryd.prog 99 := ⟨by kernel_rfl, by kernel_rfl⟩
instance : ElemTy Tryd.prog 99 (.nilFunc) 1 8 := ⟨by kernel_rfl, by kernel_rfl, by decide⟩
instance : OneTy Tryd.prog 100 := ⟨by kernel_rfl, by kernel_rfl⟩
instance : ElemTy Tryd.prog 100 (.nilFunc) 1 8 := ⟨by kernel_rfl, by kernel_rfl, by decide⟩
instance : OneTy Tryd.prog 101 := ⟨by kernel_rfl, by kernel_rfl⟩
instance : ElemTy Tryd.prog 101 (.nilFunc) 1 8 := ⟨by kernel_rfl, by kernel_rfl, by decide⟩
instance : OneTy Tryd.prog 102 := ⟨by kernel_rfl, by kernel_rfl⟩
instance : ElemTy Tryd.prog 102 (.nilFunc) 1 8 := ⟨by kernel_rfl, by kernel_rfl, by decide⟩
instance : OneTy Tryd.prog 103 := ⟨by kernel_rfl, by kernel_rfl⟩
instance : ElemTy Tryd.prog 103 (.nilFunc) 1 8 := ⟨by kernel_rfl, by kernel_rfl, by decide⟩
instance : OneTy Tryd.prog 104 := ⟨by kernel_rfl, by kernel_rfl⟩
instance : ElemTy Tryd.prog 104 (.map none) 1 8 := ⟨by kernel_rfl, by kernel_rfl, by decide⟩
instance : OneTy Tryd.prog 105 := ⟨by kernel_rfl, by kernel_rfl⟩
instance : ElemTy Tryd.prog 105 (.map none) 1 8 := ⟨by kernel_rfl, by kernel_rfl, by decide⟩
instance : OneTy Tryd.prog 106 := ⟨by kernel_rfl, by kernel_rfl⟩
instance : ElemTy Tryd.prog 106 (.nilFunc) 1 8 := ⟨by kernel_rfl, by kernel_rfl, by decide⟩
instance : OneTy Tryd.prog 107 := ⟨by kernel_rfl, by kernel_rfl⟩
instance : ElemTy Tryd.prog 107 (.nilFunc) 1 8 := ⟨by kernel_rfl, by kernel_rfl, by decide⟩
instance : OneTy Tryd.prog 108 := ⟨by kernel_rfl, by kernel_rfl⟩
instance : ElemTy Tryd.prog 108 (.nilFunc) 1 8 := ⟨by kernel_rfl, by kernel_rfl, by decide⟩
instance : ElemTy Tryd.prog 109 (.agg #[.int .i64 0, .int .i64 0, .int .i64 0]) 3 24 := ⟨by kernel_rfl, by kernel_rfl, by decide⟩
instance : AggTy Tryd.prog 109 3 := ⟨by kernel_rfl, by kernel_rfl⟩
instance : BuildTy Tryd.prog 109 [(0, 1), (1, 1), (2, 1)] [.int .i64 0, .int .i64 0, .int .i64 0] := ⟨by kernel_rfl, by kernel_rfl⟩
instance : IntsTy Tryd.prog 109 3 := ⟨by kernel_rfl, by kernel_rfl, by kernel_rfl, by kernel_rfl⟩
instance : FieldOf Tryd.prog 109 0 0 3 := ⟨by kernel_rfl, by kernel_rfl⟩
instance : FieldOf Tryd.prog 109 1 1 3 := ⟨by kernel_rfl, by kernel_rfl⟩
instance : FieldOf Tryd.prog 109 2 2 3 := ⟨by kernel_rfl, by kernel_rfl⟩
instance : ElemTy Tryd.prog 110 (.agg #[.int .i64 0, .int .i64 0, .int .i64 0]) 3 24 := ⟨by kernel_rfl, by kernel_rfl, by decide⟩
instance : AggTy Tryd.prog 110 3 := ⟨by kernel_rfl, by kernel_rfl⟩
instance : BuildTy Tryd.prog 110 [(0, 1), (1, 1), (2, 1)] [.int .i64 0, .int .i64 0, .int .i64 0] := ⟨by kernel_rfl, by kernel_rfl⟩
instance : IntsTy Tryd.prog 110 3 := ⟨by kernel_rfl, by kernel_rfl, by kernel_rfl, by kernel_rfl⟩
instance : FieldOf Tryd.prog 110 0 0 3 := ⟨by kernel_rfl, by kernel_rfl⟩
instance : FieldOf Tryd.prog 110 1 1 3 := ⟨by kernel_rfl, by kernel_rfl⟩
instance : FieldOf Tryd.prog 110 2 2 3 := ⟨by kernel_rfl, by kernel_rfl⟩
instance : OneTy Tryd.prog 111 := ⟨by kernel_rfl, by kernel_rfl⟩
instance : ElemTy Tryd.prog 111 (.nilFunc) 1 8 := ⟨by kernel_rfl, by kernel_rfl, by decide⟩
instance : OneTy Tryd.prog 113 := ⟨by kernel_rfl, by kernel_rfl⟩
instance : ElemTy Tryd.prog 113 (.nilFunc) 1 8 := ⟨by kernel_rfl, by kernel_rfl, by decide⟩
instance : OneTy Tryd.prog 114 := ⟨by kernel_rfl, by kernel_rfl⟩
instance : ElemTy Tryd.prog 114 (.nilFunc) 1 8 := ⟨by kernel_rfl, by kernel_rfl, by decide⟩
instance : ElemTy Tryd.prog 115 (.agg #[.int .i64 0, .int .i64 0, .int .i64 0, .int .i64 0, .int .i64 0, .int .i64 0]) 6 48 := ⟨by kernel_rfl, by kernel_rfl, by decide⟩
instance : ArrTy Tryd.prog 115 6 3 1 := ⟨by kernel_rfl, by kernel_rfl⟩
instance : AggTy Tryd.prog 115 6 := ⟨by kernel_rfl, by kernel_rfl⟩
instance : OneTy Tryd.prog 116 := ⟨by kernel_rfl, by kernel_rfl⟩
instance : ElemTy Tryd.prog 116 (.nilFunc) 1 8 := ⟨by kernel_rfl, by kernel_rfl, by decide⟩
instance : OneTy Tryd.prog 117 := ⟨by kernel_rfl, by kernel_rfl⟩
instance : ElemTy Tryd.prog 117 (.nilFunc) 1 8 := ⟨by kernel_rfl, by kernel_rfl, by decide⟩
instance : OneTy Tryd.prog 118 := ⟨by kernel_rfl, by kernel_rfl⟩
instance : ElemTy Tryd.prog 118 (.nilFunc) 1 8 := ⟨by kernel_rfl, by kernel_rfl, by decide⟩
instance : OneTy Tryd.prog 119 := ⟨by kernel_rfl, by kernel_rfl⟩
instance : ElemTy Tryd.prog 119 (.nilFunc) 1 8 := ⟨by kernel_rfl, by kernel_rfl, by decide⟩
instance : OneTy Tryd.prog 120 := ⟨by kernel_rfl, by kernel_rfl⟩
instance : ElemTy Tryd.prog 120 (.nilFunc) 1 8 := ⟨by kernel_rfl, by kernel_rfl, by decide⟩
instance : OneTy Tryd.prog 121 := ⟨by kernel_rfl, by kernel_rfl⟩
instance : ElemTy Tryd.prog 121 (.nilFunc) 1 8 := ⟨by kernel_rfl, by kernel_rfl, by decide⟩
instance : OneTy Tryd.prog 122 := ⟨by kernel_rfl, by kernel_rfl⟩
instance : ElemTy Tryd.prog 122 (.pointer none) 1 8 := ⟨by kernel_rfl, by kernel_rfl, by decide⟩
instance : ArrTy Tryd.prog 123 256 4 1 := ⟨by kernel_rfl, by kernel_rfl⟩
instance : AggTy Tryd.prog 123 256 := ⟨by kernel_rfl, by kernel_rfl⟩
instance : AggTy Tryd.prog 124 257 := ⟨by kernel_rfl, by kernel_rfl⟩
instance : BuildTy Tryd.prog 124 [(0, 256), (256, 1)] [.bool false, .bool false, .bool false, .bool false, .bool false, .bool false, .bool false, .bool false, .bool false, .bool false, .bool false, .bool false, .bool false, .bool false, .bool false, .bool false, .bool false, .bool false, .bool false, .bool false, .bool false, .bool false, .bool false, .bool false, .bool false, .bool false, .bool false, .bool false, .bool false, .bool false, .bool false, .bool false, .bool false, .bool false, .bool false, .bool false, .bool false, .bool false, .bool false, .bool false, .bool false, .bool false, .bool false, .bool false, .bool false, .bool false, .bool false, .bool false, .bool false, .bool false, .bool false, .bool false, .bool false, .bool false, .bool false, .bool false, .bool false, .bool false, .bool false, .bool false, .bool false, .bool false, .bool false, .bool false, .bool false, .bool false, .bool false, .bool false, .bool false, .bool false, .bool false, .bool false, .bool false, .bool false, .bool false, .bool false, .bool false, .bool false, .bool false, .bool false, .bool false, .bool false, .bool false, .bool false, .bool false, .bool false, .bool false, .bool false, .bool false, .bool false, .bool false, .bool false, .bool false, .bool false, .bool false, .bool false, .bool false, .bool false, .bool false, .bool false, .bool false, .bool false, .bool false, .bool false, .bool false, .bool false, .bool false, .bool false, .bool false, .bool false, .bool false, .bool false, .bool false, .bool false, .bool false, .bool false, .bool false, .bool false, .bool false, .bool false, .bool false, .bool false, .bool false, .bool false, .bool false, .bool false, .bool false, .bool false, .bool false, .bool false, .bool false, .bool false, .bool false, .bool false, .bool false, .bool false, .bool false, .bool false, .bool false, .bool false, .bool false, .bool false, .bool false, .bool false, .bool false, .bool false, .bool false, .bool false, .bool false, .bool false, .bool false, .bool false, .bool false, .bool false, .bool false, .bool false, .bool false, .bool false, .bool false, .bool false, .bool false, .bool false, .bool false, .bool false, .bool false, .bool false, .bool false, .bool false, .bool false, .bool false, .bool false, .bool false, .bool false, .bool false, .bool false, .bool false, .bool false, .bool false, .bool false, .bool false, .bool false, .bool false, .bool false, .bool false, .bool false, .bool false, .bool false, .bool false, .bool false, .bool false, .bool false, .bool false, .bool false, .bool false, .bool false, .bool false, .bool false, .bool false, .bool false, .bool false, .bool false, .bool false, .bool false, .bool false, .bool false, .bool false, .bool false, .bool false, .bool false, .bool false, .bool false, .bool false, .bool false, .bool false, .bool false, .bool false, .bool false, .bool false, .bool false, .bool false, .bool false, .bool false, .bool false, .bool false, .bool false, .bool false, .bool false, .bool false, .bool false, .bool false, .bool false, .bool false, .bool false, .bool false, .bool false, .bool false, .bool false, .bool false, .bool false, .bool false, .bool false, .bool false, .bool false, .bool false, .bool false, .bool false, .bool false, .bool false, .bool false, .bool false, .bool false, .bool false, .bool false, .bool false, .bool false, .bool false, .bool false] := ⟨by kernel_rfl, by kernel_rfl⟩
instance : FieldOf Tryd.prog 124 0 0 123 := ⟨by kernel_rfl, by kernel_rfl⟩
instance : FieldOf Tryd.prog 124 1 256 4 := ⟨by kernel_rfl, by kernel_rfl⟩
instance : AggTy Tryd.prog 125 257 := ⟨by kernel_rfl, by kernel_rfl⟩
instance : BuildTy Tryd.prog 125 [(0, 256), (256, 1)] [.bool false, .bool false, .bool false, .bool false, .bool false, .bool false, .bool false, .bool false, .bool false, .bool false, .bool false, .bool false, .bool false, .bool false, .bool false, .bool false, .bool false, .bool false, .bool false, .bool false, .bool false, .bool false, .bool false, .bool false, .bool false, .bool false, .bool false, .bool false, .bool false, .bool false, .bool false, .bool false, .bool false, .bool false, .bool false, .bool false, .bool false, .bool false, .bool false, .bool false, .bool false, .bool false, .bool false, .bool false, .bool false, .bool false, .bool false, .bool false, .bool false, .bool false, .bool false, .bool false, .bool false, .bool false, .bool false, .bool false, .bool false, .bool false, .bool false, .bool false, .bool false, .bool false, .bool false, .bool false, .bool false, .bool false, .bool false, .bool false, .bool false, .bool false, .bool false, .bool false, .bool false, .bool false, .bool false, .bool false, .bool false, .bool false, .bool false, .bool false, .bool false, .bool false, .bool false, .bool false, .bool false, .bool false, .bool false, .bool false, .bool false, .bool false, .bool false, .bool false, .bool false, .bool false, .bool false, .bool false, .bool false, .bool false, .bool false, .bool false, .bool false, .bool false, .bool false, .bool false, .bool false, .bool false, .bool false, .bool false, .bool false, .bool false, .bool false, .bool false, .bool false, .bool false, .bool false, .bool false, .bool false, .bool false, .bool false, .bool false, .bool false, .bool false, .bool false, .bool false, .bool false, .bool false, .bool false, .bool false, .bool false, .bool false, .bool false, .bool false, .bool false, .bool false, .bool false, .bool false, .bool false, .bool false, .bool false, .bool false, .bool false, .bool false, .bool false, .bool false, .bool false, .bool false, .bool false, .bool false, .bool false, .bool false, .bool false, .bool false, .bool false, .bool false, .bool false, .bool false, .bool false, .bool false, .bool false, .bool false, .bool false, .bool false, .bool false, .bool false, .bool false, .bool false, .bool false, .bool false, .bool false, .bool false, .bool false, .bool false, .bool false, .bool false, .bool false, .bool false, .bool false, .bool false, .bool false, .bool false, .bool false, .bool false, .bool false, .bool false, .bool false, .bool false, .bool false, .bool false, .bool false, .bool false, .bool false, .bool false, .bool false, .bool false, .bool false, .bool false, .bool false, .bool false, .bool false, .bool false, .bool false, .bool false, .bool false, .bool false, .bool false, .bool false, .bool false, .bool false, .bool false, .bool false, .bool false, .bool false, .bool false, .bool false, .bool false, .bool false, .bool false, .bool false, .bool false, .bool false, .bool false, .bool false, .bool false, .bool false, .bool false, .bool false, .bool false, .bool false, .bool false, .bool false, .bool false, .bool false, .bool false, .bool false, .bool false, .bool false, .bool false, .bool false, .bool false, .bool false, .bool false, .bool false, .bool false, .bool false, .bool false, .bool false, .bool false, .bool false, .bool false, .bool false, .bool false, .bool false, .bool false, .bool false, .bool false, .bool false, .bool false] := ⟨by kernel_rfl, by kernel_rfl⟩
instance : FieldOf Tryd.prog 125 0 0 123 := ⟨by kernel_rfl, by kernel_rfl⟩
instance : FieldOf Tryd.prog 125 1 256 4 := ⟨by kernel_rfl, by kernel_rfl⟩
instance : OneTy Tryd.prog 126 := ⟨by kernel_rfl, by kernel_rfl⟩
instance : ElemTy Tryd.prog 126 (.nilFunc) 1 8 := ⟨by kernel_rfl, by kernel_rfl, by decide⟩
instance : OneTy Tryd.prog 127 := ⟨by kernel_rfl, by kernel_rfl⟩
instance : ElemTy Tryd.prog 127 (.nilFunc) 1 8 := ⟨by kernel_rfl, by kernel_rfl, by decide⟩
instance : OneTy Tryd.prog 128 := ⟨by kernel_rfl, by kernel_rfl⟩
instance : ElemTy Tryd.prog 128 (.nilFunc) 1 8 := ⟨by kernel_rfl, by kernel_rfl, by decide⟩
instance : OneTy Tryd.prog 129 := ⟨by kernel_rfl, by kernel_rfl⟩
instance : ElemTy Tryd.prog 129 (.nilFunc) 1 8 := ⟨by kernel_rfl, by kernel_rfl, by decide⟩
instance : OneTy Tryd.prog 130 := ⟨by kernel_rfl, by kernel_rfl⟩
instance : ElemTy Tryd.prog 130 (.nilFunc) 1 8 := ⟨by kernel_rfl, by kernel_rfl, by decide⟩
instance : OneTy Tryd.prog 131 := ⟨by kernel_rfl, by kernel_rfl⟩
instance : ElemTy Tryd.prog 131 (.nilFunc) 1 8 := ⟨by kernel_rfl, by kernel_rfl, by decide⟩
instance : OneTy Tryd.prog 132 := ⟨by kernel_rfl, by kernel_rfl⟩
instance : ElemTy Tryd.prog 132 (.nilFunc) 1 8 := ⟨by kernel_rfl, by kernel_rfl, by decide⟩
instance : OneTy Tryd.prog 133 := ⟨by kernel_rfl, by kernel_rfl⟩
instance : ElemTy Tryd.prog 133 (.nilFunc) 1 8 := ⟨by kernel_rfl, by kernel_rfl, by decide⟩
instance : OneTy Tryd.prog 134 := ⟨by kernel_rfl, by kernel_rfl⟩
instance : ElemTy Tryd.prog 134 (.nilFunc) 1 8 := ⟨by kernel_rfl, by kernel_rfl, by decide⟩
instance : OneTy Tryd.prog 135 := ⟨by kernel_rfl, by kernel_rfl⟩
instance : ElemTy Tryd.prog 135 (.int .u64 0) 1 8 := ⟨by kernel_rfl, by kernel_rfl, by decide⟩
instance : OneTy Tryd.prog 136 := ⟨by kernel_rfl, by kernel_rfl⟩
instance : ElemTy Tryd.prog 136 (.nilFunc) 1 8 := ⟨by kernel_rfl, by kernel_rfl, by decide⟩
instance : OneTy Tryd.prog 137 := ⟨by kernel_rfl, by kernel_rfl⟩
instance : ElemTy Tryd.prog 137 (.nilFunc) 1 8 := ⟨by kernel_rfl, by kernel_rfl, by decide⟩
instance : OneTy Tryd.prog 138 := ⟨by kernel_rfl, by kernel_rfl⟩
instance : ElemTy Tryd.prog 138 (.nilFunc) 1 8 := ⟨by kernel_rfl, by kernel_rfl, by decide⟩
instance : OneTy Tryd.prog 139 := ⟨by kernel_rfl, by kernel_rfl⟩
instance : ElemTy Tryd.prog 139 (.nilFunc) 1 8 := ⟨by kernel_rfl, by kernel_rfl, by decide⟩
instance : OneTy Tryd.prog 140 := ⟨by kernel_rfl, by kernel_rfl⟩
instance : ElemTy Tryd.prog 140 (.slice none 0 0) 1 24 := ⟨by kernel_rfl, by kernel_rfl, by decide⟩
instance : SliceTy Tryd.prog 140 5 1 := ⟨by kernel_rfl, by kernel_rfl⟩
instance : OneTy Tryd.prog 141 := ⟨by kernel_rfl, by kernel_rfl⟩
instance : ElemTy Tryd.prog 141 (.nilFunc) 1 8 := ⟨by kernel_rfl, by kernel_rfl, by decide⟩
instance : OneTy Tryd.prog 143 := ⟨by kernel_rfl, by kernel_rfl⟩
instance : ElemTy Tryd.prog 143 (.nilFunc) 1 8 := ⟨by kernel_rfl, by kernel_rfl, by decide⟩
instance : OneTy Tryd.prog 144 := ⟨by kernel_rfl, by kernel_rfl⟩
instance : ElemTy Tryd.prog 144 (.nilFunc) 1 8 := ⟨by kernel_rfl, by kernel_rfl, by decide⟩
instance : OneTy Tryd.prog 145 := ⟨by kernel_rfl, by kernel_rfl⟩
instance : ElemTy Tryd.prog 145 (.nilFunc) 1 8 := ⟨by kernel_rfl, by kernel_rfl, by decide⟩
instance : OneTy Tryd.prog 146 := ⟨by kernel_rfl, by kernel_rfl⟩
instance : ElemTy Tryd.prog 146 (.nilFunc) 1 8 := ⟨by kernel_rfl, by kernel_rfl, by decide⟩
instance : OneTy Tryd.prog 147 := ⟨by kernel_rfl, by kernel_rfl⟩
instance : ElemTy Tryd.prog 147 (.nilFunc) 1 8 := ⟨by kernel_rfl, by kernel_rfl, by decide⟩
instance : OneTy Tryd.prog 148 := ⟨by kernel_rfl, by kernel_rfl⟩
instance : ElemTy Tryd.prog 148 (.nilFunc) 1 8 := ⟨by kernel_rfl, by kernel_rfl, by decide⟩
instance : OneTy Tryd.prog 149 := ⟨by kernel_rfl, by kernel_rfl⟩
instance : ElemTy Tryd.prog 149 (.nilFunc) 1 8 := ⟨by kernel_rfl, by kernel_rfl, by decide⟩
instance : OneTy Tryd.prog 150 := ⟨by kernel_rfl, by kernel_rfl⟩
instance : ElemTy Tryd.prog 150 (.nilFunc) 1 8 := ⟨by kernel_rfl, by kernel_rfl, by decide⟩
instance : OneTy Tryd.prog 151 := ⟨by kernel_rfl, by kernel_rfl⟩
instance : ElemTy Tryd.prog 151 (.nilFunc) 1 8 := ⟨by kernel_rfl, by kernel_rfl, by decide⟩
instance : OneTy Tryd.prog 152 := ⟨by kernel_rfl, by kernel_rfl⟩
instance : ElemTy Tryd.prog 152 (.nilFunc) 1 8 := ⟨by kernel_rfl, by kernel_rfl, by decide⟩
instance : OneTy Tryd.prog 153 := ⟨by kernel_rfl, by kernel_rfl⟩
instance : ElemTy Tryd.prog 153 (.nilFunc) 1 8 := ⟨by kernel_rfl, by kernel_rfl, by decide⟩
instance : OneTy Tryd.prog 154 := ⟨by kernel_rfl, by kernel_rfl⟩
instance : ElemTy Tryd.prog 154 (.nilFunc) 1 8 := ⟨by kernel_rfl, by kernel_rfl, by decide⟩
instance : OneTy Tryd.prog 155 := ⟨by kernel_rfl, by kernel_rfl⟩
instance : ElemTy Tryd.prog 155 (.nilFunc) 1 8 := ⟨by kernel_rfl, by kernel_rfl, by decide⟩
instance : OneTy Tryd.prog 156 := ⟨by kernel_rfl, by kernel_rfl⟩
instance : ElemTy Tryd.prog 156 (.nilFunc) 1 8 := ⟨by kernel_rfl, by kernel_rfl, by decide⟩
instance : OneTy Tryd.prog 157 := ⟨by kernel_rfl, by kernel_rfl⟩
instance : ElemTy Tryd.prog 157 (.nilFunc) 1 8 := ⟨by kernel_rfl, by kernel_rfl, by decide⟩
instance : OneTy Tryd.prog 158 := ⟨by kernel_rfl, by kernel_rfl⟩
instance : ElemTy Tryd.prog 158 (.nilFunc) 1 8 := ⟨by kernel_rfl, by kernel_rfl, by decide⟩
instance : OneTy Tryd.prog 159 := ⟨by kernel_rfl, by kernel_rfl⟩
instance : ElemTy Tryd.prog 159 (.nilFunc) 1 8 := ⟨by kernel_rfl, by kernel_rfl, by decide⟩
instance : OneTy Tryd.prog 160 := ⟨by kernel_rfl, by kernel_rfl⟩
instance : ElemTy Tryd.prog 160 (.slice none 0 0) 1 24 := ⟨by kernel_rfl, by kernel_rfl, by decide⟩
instance : SliceTy Tryd.prog 160 4 1 := ⟨by kernel_rfl, by kernel_rfl⟩
instance : OneTy Tryd.prog 161 := ⟨by kernel_rfl, by kernel_rfl⟩
instance : ElemTy Tryd.prog 161 (.nilFunc) 1 8 := ⟨by kernel_rfl, by kernel_rfl, by decide⟩
instance : OneTy Tryd.prog 162 := ⟨by kernel_rfl, by kernel_rfl⟩
instance : ElemTy Tryd.prog 162 (.nilFunc) 1 8 := ⟨by kernel_rfl, by kernel_rfl, by decide⟩
instance : ElemTy Tryd.prog 163 (.agg #[.int .u8 0, .int .u8 0, .int .u8 0, .int .u8 0, .int .u8 0, .int .u8 0, .int .u8 0, .int .u8 0, .int .u8 0, .int .u8 0, .int .u8 0, .int .u8 0, .int .u8 0, .int .u8 0, .int .u8 0, .int .u8 0, .int .u8 0, .int .u8 0, .int .u8 0, .int .u8 0, .int .u8 0, .int .u8 0, .int .u8 0, .int .u8 0]) 24 24 := ⟨by kernel_rfl, by kernel_rfl, by decide⟩
instance : ArrTy Tryd.prog 163 24 5 1 := ⟨by kernel_rfl, by kernel_rfl⟩
instance : AggTy Tryd.prog 163 24 := ⟨by kernel_rfl, by kernel_rfl⟩
instance : OneTy Tryd.prog 164 := ⟨by kernel_rfl, by kernel_rfl⟩
instance : ElemTy Tryd.prog 164 (.int .u64 0) 1 8 := ⟨by kernel_rfl, by kernel_rfl, by decide⟩
instance : OneTy Tryd.prog 165 := ⟨by kernel_rfl, by kernel_rfl⟩
instance : ElemTy Tryd.prog 165 (.nilFunc) 1 8 := ⟨by kernel_rfl, by kernel_rfl, by decide⟩
instance : OneTy Tryd.prog 166 := ⟨by kernel_rfl, by kernel_rfl⟩
instance : ElemTy Tryd.prog 166 (.nilFunc) 1 8 := ⟨by kernel_rfl, by kernel_rfl, by decide⟩
instance : OneTy Tryd.prog 168 := ⟨by kernel_rfl, by kernel_rfl⟩
instance : ElemTy Tryd.prog 168 (.nilFunc) 1 8 := ⟨by kernel_rfl, by kernel_rfl, by decide⟩
instance : OneTy Tryd.prog 169 := ⟨by kernel_rfl, by kernel_rfl⟩
instance : ElemTy Tryd.prog 169 (.nilFunc) 1 8 := ⟨by kernel_rfl, by kernel_rfl, by decide⟩
instance : ElemTy Tryd.prog 170 (.agg #[.int .u64 0, .int .u64 0, .int .u64 0, .int .u64 0, .int .u64 0, .int .u64 0, .int .u64 0, .int .u64 0, .int .u64 0, .int .u64 0, .int .u64 0, .int .u64 0, .int .u64 0, .int .u64 0, .int .u64 0, .int .u64 0, .int .u64 0, .int .u64 0, .int .u64 0, .int .u64 0]) 20 160 := ⟨by kernel_rfl, by kernel_rfl, by decide⟩
instance : ArrTy Tryd.prog 170 20 164 1 := ⟨by kernel_rfl, by kernel_rfl⟩
instance : AggTy Tryd.prog 170 20 := ⟨by kernel_rfl, by kernel_rfl⟩
instance : OneTy Tryd.prog 171 := ⟨by kernel_rfl, by kernel_rfl⟩
instance : ElemTy Tryd.prog 171 (.int .u32 0) 1 4 := ⟨by kernel_rfl, by kernel_rfl, by decide⟩
instance : ArrTy Tryd.prog 172 65 5 1 := ⟨by kernel_rfl, by kernel_rfl⟩
instance : AggTy Tryd.prog 172 65 := ⟨by kernel_rfl, by kernel_rfl⟩
instance : OneTy Tryd.prog 173 := ⟨by kernel_rfl, by kernel_rfl⟩
instance : ElemTy Tryd.prog 173 (.nilFunc) 1 8 := ⟨by kernel_rfl, by kernel_rfl, by decide⟩
instance : OneTy Tryd.prog 174 := ⟨by kernel_rfl, by kernel_rfl⟩
instance : ElemTy Tryd.prog 174 (.nilFunc) 1 8 := ⟨by kernel_rfl, by kernel_rfl, by decide⟩
instance : OneTy Tryd.prog 175 := ⟨by kernel_rfl, by kernel_rfl⟩
instance : ElemTy Tryd.prog 175 (.nilFunc) 1 8 := ⟨by kernel_rfl, by kernel_rfl, by decide⟩
instance : ElemTy Tryd.prog 176 (.agg #[.int .u8 0, .int .u8 0, .int .u8 0, .int .u8 0, .int .u8 0, .int .u8 0, .int .u8 0, .int .u8 0, .int .u8 0, .int .u8 0, .int .u8 0, .int .u8 0, .int .u8 0, .int .u8 0, .int .u8 0, .int .u8 0, .int .u8 0, .int .u8 0, .int .u8 0, .int .u8 0, .int .u8 0, .int .u8 0, .int .u8 0, .int .u8 0, .int .u8 0, .int .u8 0, .int .u8 0, .int .u8 0, .int .u8 0, .int .u8 0, .int .u8 0, .int .u8 0]) 32 32 := ⟨by kernel_rfl, by kernel_rfl, by decide⟩
instance : ArrTy Tryd.prog 176 32 5 1 := ⟨by kernel_rfl, by kernel_rfl⟩
instance : AggTy Tryd.prog 176 32 := ⟨by kernel_rfl, by kernel_rfl⟩
instance : ElemTy Tryd.prog 177 (.agg #[.int .u8 0, .int .u8 0, .int .u8 0, .int .u8 0, .int .u8 0, .int .u8 0, .int .u8 0, .int .u8 0, .int .u8 0, .int .u8 0, .int .u8 0, .int .u8 0, .int .u8 0, .int .u8 0, .int .u8 0, .int .u8 0, .int .u8 0, .int .u8 0, .int .u8 0, .int .u8 0, .int .u8 0, .int .u8 0, .int .u8 0, .int .u8 0, .int .u8 0, .int .u8 0, .int .u8 0, .int .u8 0, .int .u8 0, .int .u8 0, .int .u8 0, .int .u8 0, .int .u8 0, .int .u8 0, .int .u8 0, .int .u8 0, .int .u8 0, .int .u8 0, .int .u8 0, .int .u8 0, .int .u8 0, .int .u8 0, .int .u8 0, .int .u8 0, .int .u8 0, .int .u8 0, .int .u8 0, .int .u8 0, .int .u8 0, .int .u8 0, .int .u8 0, .int .u8 0, .int .u8 0, .int .u8 0, .int .u8 0, .int .u8 0, .int .u8 0, .int .u8 0, .int .u8 0, .int .u8 0, .int .u8 0, .int .u8 0, .int .u8 0, .int .u8 0]) 64 64 := ⟨by kernel_rfl, by kernel_rfl, by decide⟩
instance : ArrTy Tryd.prog 177 64 5 1 := ⟨by kernel_rfl, by kernel_rfl⟩
instance : AggTy Tryd.prog 177 64 := ⟨by kernel_rfl, by kernel_rfl⟩
instance : OneTy Tryd.prog 178 := ⟨by kernel_rfl, by kernel_rfl⟩
instance : ElemTy Tryd.prog 178 (.nilFunc) 1 8 := ⟨by kernel_rfl, by kernel_rfl, by decide⟩
instance : OneTy Tryd.prog 184 := ⟨by kernel_rfl, by kernel_rfl⟩
instance : ElemTy Tryd.prog 184 (.nilFunc) 1 8 := ⟨by kernel_rfl, by kernel_rfl, by decide⟩
instance : OneTy Tryd.prog 187 := ⟨by kernel_rfl, by kernel_rfl⟩
instance : ElemTy Tryd.prog 187 (.nilFunc) 1 8 := ⟨by kernel_rfl, by kernel_rfl, by decide⟩
instance : OneTy Tryd.prog 188 := ⟨by kernel_rfl, by kernel_rfl⟩
instance : ElemTy Tryd.prog 188 (.pointer none) 1 8 := ⟨by kernel_rfl, by kernel_rfl, by decide⟩
instance : ElemTy Tryd.prog 193 (.pointer none) 1 8 := ⟨by kernel_rfl, by kernel_rfl, by decide⟩
instance : Body Tryd.prog 3 := body_of Tryd.func3 (by kernel_rfl) (by kernel_rfl)
instance : Body Tryd.prog 4 := body_of Tryd.func4 (by kernel_rfl) (by kernel_rfl)
instance : Body Tryd.prog 5 := body_of Tryd.func5 (by kernel_rfl) (by kernel_rfl)
instance : Body Tryd.prog 6 := body_of Tryd.func6 (by kernel_rfl) (by kernel_rfl)
instance : Body Tryd.prog 7 := body_of Tryd.func7 (by kernel_rfl) (by kernel_rfl)
instance : Body Tryd.prog 8 := body_of Tryd.func8 (by kernel_rfl) (by kernel_rfl)
instance : Body Tryd.prog 9 := body_of Tryd.func9 (by kernel_rfl) (by kernel_rfl)
instance : Body Tryd.prog 10 := body_of Tryd.func10 (by kernel_rfl) (by kernel_rfl)
instance : Body Tryd.prog 11 := body_of Tryd.func11 (by kernel_rfl) (by kernel_rfl)
instance : Body Tryd.prog 12 := body_of Tryd.func12 (by kernel_rfl) (by kernel_rfl)
instance : Body Tryd.prog 13 := body_of Tryd.func13 (by kernel_rfl) (by kernel_rfl)
instance : Body Tryd.prog 14 := body_of Tryd.func14 (by kernel_rfl) (by kernel_rfl)
instance : Body Tryd.prog 15 := body_of Tryd.func15 (by kernel_rfl) (by kernel_rfl)
instance : Body Tryd.prog 16 := body_of Tryd.func16 (by kernel_rfl) (by kernel_rfl)
instance : Body Tryd.prog 17 := body_of Tryd.func17 (by kernel_rfl) (by kernel_rfl)
instance : Body Tryd.prog 18 := body_of Tryd.func18 (by kernel_rfl) (by kernel_rfl)
instance : Body Tryd.prog 19 := body_of Tryd.func19 (by kernel_rfl) (by kernel_rfl)
instance : Body Tryd.prog 20 := body_of Tryd.func20 (by kernel_rfl) (by kernel_rfl)
instance : Body Tryd.prog 21 := body_of Tryd.func21 (by kernel_rfl) (by kernel_rfl)
instance : Body Tryd.prog 22 := body_of Tryd.func22 (by kernel_rfl) (by kernel_rfl)
instance : Body Tryd.prog 23 := body_of Tryd.func23 (by kernel_rfl) (by kernel_rfl)
instance : Body Tryd.prog 24 := body_of Tryd.func24 (by kernel_rfl) (by kernel_rfl)
instance : Body Tryd.prog 25 := body_of Tryd.func25 (by kernel_rfl) (by kernel_rfl)
instance : Body Tryd.prog 26 := body_of Tryd.func26 (by kernel_rfl) (by kernel_rfl)
instance : Body Tryd.prog 27 := body_of Tryd.func27 (by kernel_rfl) (by kernel_rfl)
instance : Body Tryd.prog 28 := body_of Tryd.func28 (by kernel_rfl) (by kernel_rfl)
instance : Body Tryd.prog 29 := body_of Tryd.func29 (by kernel_rfl) (by kernel_rfl)
instance : Body Tryd.prog 30 := body_of Tryd.func30 (by kernel_rfl) (by kernel_rfl)
instance : Body Tryd.prog 31 := body_of Tryd.func31 (by kernel_rfl) (by kernel_rfl)
instance : Body Tryd.prog 32 := body_of Tryd.func32 (by kernel_rfl) (by kernel_rfl)
instance : Body Tryd.prog 33 := body_of Tryd.func33 (by kernel_rfl) (by kernel_rfl)
instance : Body Tryd.prog 34 := body_of Tryd.func34 (by kernel_rfl) (by kernel_rfl)
instance : Body Tryd.prog 35 := body_of Tryd.func35 (by kernel_rfl) (by kernel_rfl)
instance : Body Tryd.prog 36 := body_of Tryd.func36 (by kernel_rfl) (by kernel_rfl)
instance : Body Tryd.prog 37 := body_of Tryd.func37 (by kernel_rfl) (by kernel_rfl)
instance : Body Tryd.prog 38 := body_of Tryd.func38 (by kernel_rfl) (by kernel_rfl)
instance : Body Tryd.prog 39 := body_of Tryd.func39 (by kernel_rfl) (by kernel_rfl)
instance : Body Tryd.prog 40 := body_of Tryd.func40 (by kernel_rfl) (by kernel_rfl)
instance : Body Tryd.prog 41 := body_of Tryd.func41 (by kernel_rfl) (by kernel_rfl)
instance : Body Tryd.prog 42 := body_of Tryd.func42 (by kernel_rfl) (by kernel_rfl)
instance : Body Tryd.prog 43 := body_of Tryd.func43 (by kernel_rfl) (by kernel_rfl)
instance : Body Tryd.prog 44 := body_of Tryd.func44 (by kernel_rfl) (by kernel_rfl)
instance : Body Tryd.prog 45 := body_of Tryd.func45 (by kernel_rfl) (by kernel_rfl)
instance : Body Tryd.prog 46 := body_of Tryd.func46 (by kernel_rfl) (by kernel_rfl)
instance : Body Tryd.prog 47 := body_of Tryd.func47 (by kernel_rfl) (by kernel_rfl)
instance : Body Tryd.prog 48 := body_of Tryd.func48 (by kernel_rfl) (by kernel_rfl)
instance : Body Tryd.prog 49 := body_of Tryd.func49 (by kernel_rfl) (by kernel_rfl)
instance : Body Tryd.prog 50 := body_of Tryd.func50 (by kernel_rfl) (by kernel_rfl)
instance : Body Tryd.prog 51 := body_of Tryd.func51 (by kernel_rfl) (by kernel_rfl)
instance : Body Tryd.prog 52 := body_of Tryd.func52 (by kernel_rfl) (by kernel_rfl)
instance : Body Tryd.prog 53 := body_of Tryd.func53 (by kernel_rfl) (by kernel_rfl)
instance : Body Tryd.prog 54 := body_of Tryd.func54 (by kernel_rfl) (by kernel_rfl)
instance : Body Tryd.prog 55 := body_of Tryd.func55 (by kernel_rfl) (by kernel_rfl)
instance : Body Tryd.prog 56 := body_of Tryd.func56 (by kernel_rfl) (by kernel_rfl)
instance : Body Tryd.prog 57 := body_of Tryd.func57 (by kernel_rfl) (by kernel_rfl)
instance : Body Tryd.prog 58 := body_of Tryd.func58 (by kernel_rfl) (by kernel_rfl)
instance : Body Tryd.prog 59 := body_of Tryd.func59 (by kernel_rfl) (by kernel_rfl)
instance : Body Tryd.prog 60 := body_of Tryd.func60 (by kernel_rfl) (by kernel_rfl)
instance : Body Tryd.prog 61 := body_of Tryd.func61 (by kernel_rfl) (by kernel_rfl)
instance : Body Tryd.prog 63 := body_of Tryd.func63 (by kernel_rfl) (by kernel_rfl)
instance : Body Tryd.prog 64 := body_of Tryd.func64 (by kernel_rfl) (by kernel_rfl)
instance : Body Tryd.prog 65 := body_of Tryd.func65 (by kernel_rfl) (by kernel_rfl)
instance : Body Tryd.prog 66 := body_of Tryd.func66 (by kernel_rfl) (by kernel_rfl)
instance : Body Tryd.prog 67 := body_of Tryd.func67 (by kernel_rfl) (by kernel_rfl)
instance : Body Tryd.prog 68 := body_of Tryd.func68 (by kernel_rfl) (by kernel_rfl)
instance : Body Tryd.prog 69 := body_of Tryd.func69 (by kernel_rfl) (by kernel_rfl)
instance : Body Tryd.prog 70 := body_of Tryd.func70 (by kernel_rfl) (by kernel_rfl)
instance : Body Tryd.prog 71 := body_of Tryd.func71 (by kernel_rfl) (by kernel_rfl)
instance : Body Tryd.prog 72 := body_of Tryd.func72 (by kernel_rfl) (by kernel_rfl)
instance : Body Tryd.prog 73 := body_of Tryd.func73 (by kernel_rfl) (by kernel_rfl)
instance : Body Tryd.prog 74 := body_of Tryd.func74 (by kernel_rfl) (by kernel_rfl)
instance : Body Tryd.prog 75 := body_of Tryd.func75 (by kernel_rfl) (by kernel_rfl)
instance : Body Tryd.prog 76 := body_of Tryd.func76 (by kernel_rfl) (by kernel_rfl)
instance : Body Tryd.prog 77 := body_of Tryd.func77 (by kernel_rfl) (by kernel_rfl)
instance : Body Tryd.prog 78 := body_of Tryd.func78 (by kernel_rfl) (by kernel_rfl)
instance : Body Tryd.prog 79 := body_of Tryd.func79 (by kernel_rfl) (by kernel_rfl)
instance : Body Tryd.prog 80 := body_of Tryd.func80 (by kernel_rfl) (by kernel_rfl)
instance : Body Tryd.prog 81 := body_of Tryd.func81 (by kernel_rfl) (by kernel_rfl)
instance : Body Tryd.prog 82 := body_of Tryd.func82 (by kernel_rfl) (by kernel_rfl)
instance : Body Tryd.prog 83 := body_of Tryd.func83 (by kernel_rfl) (by kernel_rfl)
instance : Body Tryd.prog 84 := body_of Tryd.func84 (by kernel_rfl) (by kernel_rfl)
instance : Body Tryd.prog 85 := body_of Tryd.func85 (by kernel_rfl) (by kernel_rfl)
instance : Body Tryd.prog 86 := body_of Tryd.func86 (by kernel_rfl) (by kernel_rfl)
instance : Body Tryd.prog 87 := body_of Tryd.func87 (by kernel_rfl) (by kernel_rfl)
instance : Body Tryd.prog 88 := body_of Tryd.func88 (by kernel_rfl) (by kernel_rfl)
instance : Body Tryd.prog 89 := body_of Tryd.func89 (by kernel_rfl) (by kernel_rfl)
instance : Body Tryd.prog 90 := body_of Tryd.func90 (by kernel_rfl) (by kernel_rfl)
instance : Body Tryd.prog 91 := body_of Tryd.func91 (by kernel_rfl) (by kernel_rfl)
instance : Body Tryd.prog 92 := body_of Tryd.func92 (by kernel_rfl) (by kernel_rfl)
instance : Body Tryd.prog 93 := body_of Tryd.func93 (by kernel_rfl) (by kernel_rfl)
instance : Body Tryd.prog 94 := body_of Tryd.func94 (by kernel_rfl) (by kernel_rfl)
instance : Body Tryd.prog 95 := body_of Tryd.func95 (by kernel_rfl) (by kernel_rfl)
instance : Body Tryd.prog 96 := body_of Tryd.func96 (by kernel_rfl) (by kernel_rfl)
instance : Body Tryd.prog 97 := body_of Tryd.func97 (by kernel_rfl) (by kernel_rfl)
instance : Body Tryd.prog 98 := body_of Tryd.func98 (by kernel_rfl) (by kernel_rfl)
instance : Body Tryd.prog 99 := body_of Tryd.func99 (by kernel_rfl) (by kernel_rfl)
instance : Body Tryd.prog 100 := body_of Tryd.func100 (by kernel_rfl) (by kernel_rfl)
instance : Body Tryd.prog 101 := body_of Tryd.func101 (by kernel_rfl) (by kernel_rfl)
instance : Body Tryd.prog 102 := body_of Tryd.func102 (by kernel_rfl) (by kernel_rfl)
instance : Body Tryd.prog 103 := body_of Tryd.func103 (by kernel_rfl) (by kernel_rfl)
instance : Body Tryd.prog 104 := body_of Tryd.func104 (by kernel_rfl) (by kernel_rfl)
instance : Body Tryd.prog 105 := body_of Tryd.func105 (by kernel_rfl) (by kernel_rfl)
instance : Body Tryd.prog 106 := body_of Tryd.func106 (by kernel_rfl) (by kernel_rfl)
instance : Body Tryd.prog 107 := body_of Tryd.func107 (by kernel_rfl) (by kernel_rfl)
instance : Body Tryd.prog 108 := body_of Tryd.func108 (by kernel_rfl) (by kernel_rfl)
instance : Body Tryd.prog 109 := body_of Tryd.func109 (by kernel_rfl) (by kernel_rfl)
instance : Body Tryd.prog 110 := body_of Tryd.func110 (by kernel_rfl) (by kernel_rfl)
instance : Body Tryd.prog 111 := body_of Tryd.func111 (by kernel_rfl) (by kernel_rfl)
instance : Body Tryd.prog 112 := body_of Tryd.func112 (by kernel_rfl) (by kernel_rfl)
instance : Body Tryd.prog 113 := body_of Tryd.func113 (by kernel_rfl) (by kernel_rfl)
instance : Body Tryd.prog 114 := body_of Tryd.func114 (by kernel_rfl) (by kernel_rfl)
instance : Body Tryd.prog 115 := body_of Tryd.func115 (by kernel_rfl) (by kernel_rfl)
instance : Body Tryd.prog 116 := body_of Tryd.func116 (by kernel_rfl) (by kernel_rfl)
instance : Body Tryd.prog 117 := body_of Tryd.func117 (by kernel_rfl) (by kernel_rfl)
instance : Body Tryd.prog 118 := body_of Tryd.func118 (by kernel_rfl) (by kernel_rfl)
instance : Body Tryd.prog 119 := body_of Tryd.func119 (by kernel_rfl) (by kernel_rfl)
instance : Body Tryd.prog 120 := body_of Tryd.func120 (by kernel_rfl) (by kernel_rfl)
instance : Body Tryd.prog 121 := body_of Tryd.func121 (by kernel_rfl) (by kernel_rfl)
instance : Body Tryd.prog 122 := body_of Tryd.func122 (by kernel_rfl) (by kernel_rfl)
instance : Body Tryd.prog 123 := body_of Tryd.func123 (by kernel_rfl) (by kernel_rfl)
instance : Body Tryd.prog 124 := body_of Tryd.func124 (by kernel_rfl) (by kernel_rfl)
instance : Body Tryd.prog 125 := body_of Tryd.func125 (by kernel_rfl) (by kernel_rfl)
instance : Body Tryd.prog 126 := body_of Tryd.func126 (by kernel_rfl) (by kernel_rfl)
instance : Body Tryd.prog 127 := body_of Tryd.func127 (by kernel_rfl) (by kernel_rfl)
instance : Body Tryd.prog 128 := body_of Tryd.func128 (by kernel_rfl) (by kernel_rfl)
instance : Body Tryd.prog 129 := body_of Tryd.func129 (by kernel_rfl) (by kernel_rfl)
instance : Body Tryd.prog 130 := body_of Tryd.func130 (by kernel_rfl) (by kernel_rfl)
instance : Body Tryd.prog 131 := body_of Tryd.func131 (by kernel_rfl) (by kernel_rfl)
instance : Body Tryd.prog 132 := body_of Tryd.func132 (by kernel_rfl) (by kernel_rfl)
instance : Body Tryd.prog 133 := body_of Tryd.func133 (by kernel_rfl) (by kernel_rfl)
instance : Body Tryd.prog 134 := body_of Tryd.func134 (by kernel_rfl) (by kernel_rfl)
instance : Body Tryd.prog 135 := body_of Tryd.func135 (by kernel_rfl) (by kernel_rfl)
instance : Body Tryd.prog 136 := body_of Tryd.func136 (by kernel_rfl) (by kernel_rfl)
instance : Body Tryd.prog 137 := body_of Tryd.func137 (by kernel_rfl) (by kernel_rfl)
instance : Body Tryd.prog 138 := body_of Tryd.func138 (by kernel_rfl) (by kernel_rfl)
instance : Body Tryd.prog 139 := body_of Tryd.func139 (by kernel_rfl) (by kernel_rfl)
instance : Body Tryd.prog 140 := body_of Tryd.func140 (by kernel_rfl) (by kernel_rfl)
instance : Body Tryd.prog 141 := body_of Tryd.func141 (by kernel_rfl) (by kernel_rfl)
instance : Body Tryd.prog 143 := body_of Tryd.func143 (by kernel_rfl) (by kernel_rfl)
instance : Body Tryd.prog 144 := body_of Tryd.func144 (by kernel_rfl) (by kernel_rfl)
instance : Body Tryd.prog 145 := body_of Tryd.func145 (by kernel_rfl) (by kernel_rfl)
instance : Body Tryd.prog 146 := body_of Tryd.func146 (by kernel_rfl) (by kernel_rfl)
instance : Body Tryd.prog 147 := body_of Tryd.func147 (by kernel_rfl) (by kernel_rfl)
instance : Body Tryd.prog 148 := body_of Tryd.func148 (by kernel_rfl) (by kernel_rfl)
instance : Body Tryd.prog 149 := body_of Tryd.func149 (by kernel_rfl) (by kernel_rfl)
instance : Body Tryd.prog 150 := body_of Tryd.func150 (by kernel_rfl) (by kernel_rfl)
instance : Body Tryd.prog 151 := body_of Tryd.func151 (by kernel_rfl) (by kernel_rfl)
instance : Body Tryd.prog 152 := body_of Tryd.func152 (by kernel_rfl) (by kernel_rfl)
instance : Body Tryd.prog 153 := body_of Tryd.func153 (by kernel_rfl) (by kernel_rfl)
instance : Body Tryd.prog 154 := body_of Tryd.func154 (by kernel_rfl) (by kernel_rfl)
instance : Body Tryd.prog 155 := body_of Tryd.func155 (by kernel_rfl) (by kernel_rfl)
instance : Body Tryd.prog 156 := body_of Tryd.func156 (by kernel_rfl) (by kernel_rfl)
theorem mixed : Tryd.prog.follows .mixedOrders = true := by kernel_rfl
end Go.Proofs.YtfommgdbahemfaaDoor

/-
  Plain data of the program (no program text in sight): the structs of package api as Lean structures, and the lists of their cells.
-/
namespace Go.Proofs.YtfommgdbahemfaaDoor

structure Region where
  From : Int
  Size : Int
  deriving DecidableEq

structure Boot where
  Memory : List Region
  Reserved : List Region

structure Block where
  At : Int
  Order : Int
  Ty : Int
  deriving DecidableEq

structure Zone where
  From : Int
  To : Int
  Free : List Block
  Types : List Int
  deriving DecidableEq

structure PList where
  Cpu : Int
  Zone : Int
  Ty : Int
  Pages : List Int

structure Heap where
  Zones : List Zone
  Mins : List Int
  Cpus : Int
  Lists : List PList
  Live : List Block

structure Slab where
  At : Int
  Free : Int
  First : Int
  deriving DecidableEq

structure Cache where
  Names : List (List UInt8)
  Size : Int
  Per : Int
  Order : Int
  Slabs : List Slab
  Active : List Int

structure System where
  Words : List Int
  Heap : Heap
  Caches : List Cache

end Go.Proofs.YtfommgdbahemfaaDoor
