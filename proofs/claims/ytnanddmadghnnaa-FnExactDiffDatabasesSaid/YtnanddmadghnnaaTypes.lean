/- What the program's table of types says of each type of data: written by a program off the translation's rows. -/
import Derived.Test.YtnanddmadghnnaaRows
import Derived.Test.YtnanddmadghnnaaQ
namespace Go.Proofs.Ytnanddmadghnnaa
-- int64
instance : PlainT Try.prog 2 := ⟨_, Try.underlying2, trivial⟩
instance : ElemT Try.prog 2 [.int .i64 0] 1 8 := ⟨by kernel_rfl⟩
-- int
instance : PlainT Try.prog 3 := ⟨_, Try.underlying3, trivial⟩
instance : ElemT Try.prog 3 [.int .i64 0] 1 8 := ⟨by kernel_rfl⟩
-- bool
instance : PlainT Try.prog 4 := ⟨_, Try.underlying4, trivial⟩
instance : ElemT Try.prog 4 [.bool false] 1 1 := ⟨by kernel_rfl⟩
-- uint8
instance : PlainT Try.prog 5 := ⟨_, Try.underlying5, trivial⟩
instance : ElemT Try.prog 5 [.int .u8 0] 1 1 := ⟨by kernel_rfl⟩
-- string
instance : PlainT Try.prog 9 := ⟨_, Try.underlying9, trivial⟩
instance : ElemT Try.prog 9 [.string ByteArray.empty] 1 16 := ⟨by kernel_rfl⟩
-- uintptr
instance : PlainT Try.prog 12 := ⟨_, Try.underlying12, trivial⟩
instance : ElemT Try.prog 12 [.int .u64 0] 1 8 := ⟨by kernel_rfl⟩
-- int32
instance : PlainT Try.prog 21 := ⟨_, Try.underlying21, trivial⟩
instance : ElemT Try.prog 21 [.int .i32 0] 1 4 := ⟨by kernel_rfl⟩
-- [][]int
instance : PlainT Try.prog 22 := ⟨_, Try.underlying22, trivial⟩
instance : SliceT Try.prog 22 24 := ⟨Try.underlying22⟩
instance : ElemT Try.prog 22 [.slice none 0 0] 1 24 := ⟨by kernel_rfl⟩
-- []int
instance : PlainT Try.prog 24 := ⟨_, Try.underlying24, trivial⟩
instance : SliceT Try.prog 24 3 := ⟨Try.underlying24⟩
instance : ElemT Try.prog 24 [.slice none 0 0] 1 24 := ⟨by kernel_rfl⟩
-- []laws.Table
instance : PlainT Try.prog 32 := ⟨_, Try.underlying32, trivial⟩
instance : SliceT Try.prog 32 76 := ⟨Try.underlying32⟩
instance : ElemT Try.prog 32 [.slice none 0 0] 1 24 := ⟨by kernel_rfl⟩
-- struct { Tables []laws.Table }
instance : AggT Try.prog 33 1 := ⟨⟨_, Try.underlying33, trivial⟩, by kernel_rfl⟩
instance : FldT Try.prog 33 0 0 := ⟨_, _, Try.underlying33, rfl, rfl, by kernel_rfl⟩
instance : BldT Try.prog 33 #[(0, 1)] := ⟨_, Try.underlying33, fun w => by kernel_rfl⟩
instance : ElemT Try.prog 33 [.slice none 0 0] 1 24 := ⟨by kernel_rfl⟩
-- laws.Database
instance : AggT Try.prog 34 1 := ⟨⟨_, Try.underlying34, trivial⟩, by kernel_rfl⟩
instance : FldT Try.prog 34 0 0 := ⟨_, _, Try.underlying34, rfl, rfl, by kernel_rfl⟩
instance : BldT Try.prog 34 #[(0, 1)] := ⟨_, Try.underlying34, fun w => by kernel_rfl⟩
instance : ElemT Try.prog 34 [.slice none 0 0] 1 24 := ⟨by kernel_rfl⟩
-- struct { Arity int; Rows [][]int }
instance : AggT Try.prog 35 2 := ⟨⟨_, Try.underlying35, trivial⟩, by kernel_rfl⟩
instance : FldT Try.prog 35 0 0 := ⟨_, _, Try.underlying35, rfl, rfl, by kernel_rfl⟩
instance : FldT Try.prog 35 1 1 := ⟨_, _, Try.underlying35, rfl, rfl, by kernel_rfl⟩
instance : BldT Try.prog 35 #[(0, 1), (1, 1)] := ⟨_, Try.underlying35, fun w => by kernel_rfl⟩
instance : ElemT Try.prog 35 [.int .i64 0, .slice none 0 0] 2 32 := ⟨by kernel_rfl⟩
-- laws.Relation
instance : AggT Try.prog 36 2 := ⟨⟨_, Try.underlying36, trivial⟩, by kernel_rfl⟩
instance : FldT Try.prog 36 0 0 := ⟨_, _, Try.underlying36, rfl, rfl, by kernel_rfl⟩
instance : FldT Try.prog 36 1 1 := ⟨_, _, Try.underlying36, rfl, rfl, by kernel_rfl⟩
instance : BldT Try.prog 36 #[(0, 1), (1, 1)] := ⟨_, Try.underlying36, fun w => by kernel_rfl⟩
instance : ElemT Try.prog 36 [.int .i64 0, .slice none 0 0] 2 32 := ⟨by kernel_rfl⟩
-- struct { Name string; Inserts laws.Relation; Deletes laws.Relation }
instance : AggT Try.prog 37 5 := ⟨⟨_, Try.underlying37, trivial⟩, by kernel_rfl⟩
instance : FldT Try.prog 37 0 0 := ⟨_, _, Try.underlying37, rfl, rfl, by kernel_rfl⟩
instance : FldT Try.prog 37 1 1 := ⟨_, _, Try.underlying37, rfl, rfl, by kernel_rfl⟩
instance : FldT Try.prog 37 2 3 := ⟨_, _, Try.underlying37, rfl, rfl, by kernel_rfl⟩
instance : BldT Try.prog 37 #[(0, 1), (1, 2), (3, 2)] := ⟨_, Try.underlying37, fun w => by kernel_rfl⟩
instance : ElemT Try.prog 37 [.string ByteArray.empty, .int .i64 0, .slice none 0 0, .int .i64 0, .slice none 0 0] 5 80 := ⟨by kernel_rfl⟩
-- laws.Delta
instance : AggT Try.prog 38 5 := ⟨⟨_, Try.underlying38, trivial⟩, by kernel_rfl⟩
instance : FldT Try.prog 38 0 0 := ⟨_, _, Try.underlying38, rfl, rfl, by kernel_rfl⟩
instance : FldT Try.prog 38 1 1 := ⟨_, _, Try.underlying38, rfl, rfl, by kernel_rfl⟩
instance : FldT Try.prog 38 2 3 := ⟨_, _, Try.underlying38, rfl, rfl, by kernel_rfl⟩
instance : BldT Try.prog 38 #[(0, 1), (1, 2), (3, 2)] := ⟨_, Try.underlying38, fun w => by kernel_rfl⟩
instance : ElemT Try.prog 38 [.string ByteArray.empty, .int .i64 0, .slice none 0 0, .int .i64 0, .slice none 0 0] 5 80 := ⟨by kernel_rfl⟩
-- []impl.Table
instance : PlainT Try.prog 42 := ⟨_, Try.underlying42, trivial⟩
instance : SliceT Try.prog 42 80 := ⟨Try.underlying42⟩
instance : ElemT Try.prog 42 [.slice none 0 0] 1 24 := ⟨by kernel_rfl⟩
-- struct { Tables []impl.Table }
instance : AggT Try.prog 43 1 := ⟨⟨_, Try.underlying43, trivial⟩, by kernel_rfl⟩
instance : FldT Try.prog 43 0 0 := ⟨_, _, Try.underlying43, rfl, rfl, by kernel_rfl⟩
instance : BldT Try.prog 43 #[(0, 1)] := ⟨_, Try.underlying43, fun w => by kernel_rfl⟩
instance : ElemT Try.prog 43 [.slice none 0 0] 1 24 := ⟨by kernel_rfl⟩
-- impl.Database
instance : AggT Try.prog 44 1 := ⟨⟨_, Try.underlying44, trivial⟩, by kernel_rfl⟩
instance : FldT Try.prog 44 0 0 := ⟨_, _, Try.underlying44, rfl, rfl, by kernel_rfl⟩
instance : BldT Try.prog 44 #[(0, 1)] := ⟨_, Try.underlying44, fun w => by kernel_rfl⟩
instance : ElemT Try.prog 44 [.slice none 0 0] 1 24 := ⟨by kernel_rfl⟩
-- impl.Relation
instance : AggT Try.prog 46 2 := ⟨⟨_, Try.underlying46, trivial⟩, by kernel_rfl⟩
instance : FldT Try.prog 46 0 0 := ⟨_, _, Try.underlying46, rfl, rfl, by kernel_rfl⟩
instance : FldT Try.prog 46 1 1 := ⟨_, _, Try.underlying46, rfl, rfl, by kernel_rfl⟩
instance : BldT Try.prog 46 #[(0, 1), (1, 1)] := ⟨_, Try.underlying46, fun w => by kernel_rfl⟩
instance : ElemT Try.prog 46 [.int .i64 0, .slice none 0 0] 2 32 := ⟨by kernel_rfl⟩
-- struct { Name string; Inserts impl.Relation; Deletes impl.Relation }
instance : AggT Try.prog 47 5 := ⟨⟨_, Try.underlying47, trivial⟩, by kernel_rfl⟩
instance : FldT Try.prog 47 0 0 := ⟨_, _, Try.underlying47, rfl, rfl, by kernel_rfl⟩
instance : FldT Try.prog 47 1 1 := ⟨_, _, Try.underlying47, rfl, rfl, by kernel_rfl⟩
instance : FldT Try.prog 47 2 3 := ⟨_, _, Try.underlying47, rfl, rfl, by kernel_rfl⟩
instance : BldT Try.prog 47 #[(0, 1), (1, 2), (3, 2)] := ⟨_, Try.underlying47, fun w => by kernel_rfl⟩
instance : ElemT Try.prog 47 [.string ByteArray.empty, .int .i64 0, .slice none 0 0, .int .i64 0, .slice none 0 0] 5 80 := ⟨by kernel_rfl⟩
-- impl.Delta
instance : AggT Try.prog 48 5 := ⟨⟨_, Try.underlying48, trivial⟩, by kernel_rfl⟩
instance : FldT Try.prog 48 0 0 := ⟨_, _, Try.underlying48, rfl, rfl, by kernel_rfl⟩
instance : FldT Try.prog 48 1 1 := ⟨_, _, Try.underlying48, rfl, rfl, by kernel_rfl⟩
instance : FldT Try.prog 48 2 3 := ⟨_, _, Try.underlying48, rfl, rfl, by kernel_rfl⟩
instance : BldT Try.prog 48 #[(0, 1), (1, 2), (3, 2)] := ⟨_, Try.underlying48, fun w => by kernel_rfl⟩
instance : ElemT Try.prog 48 [.string ByteArray.empty, .int .i64 0, .slice none 0 0, .int .i64 0, .slice none 0 0] 5 80 := ⟨by kernel_rfl⟩
-- struct { Name string; Relation laws.Relation }
instance : AggT Try.prog 75 3 := ⟨⟨_, Try.underlying75, trivial⟩, by kernel_rfl⟩
instance : FldT Try.prog 75 0 0 := ⟨_, _, Try.underlying75, rfl, rfl, by kernel_rfl⟩
instance : FldT Try.prog 75 1 1 := ⟨_, _, Try.underlying75, rfl, rfl, by kernel_rfl⟩
instance : BldT Try.prog 75 #[(0, 1), (1, 2)] := ⟨_, Try.underlying75, fun w => by kernel_rfl⟩
instance : ElemT Try.prog 75 [.string ByteArray.empty, .int .i64 0, .slice none 0 0] 3 48 := ⟨by kernel_rfl⟩
-- laws.Table
instance : AggT Try.prog 76 3 := ⟨⟨_, Try.underlying76, trivial⟩, by kernel_rfl⟩
instance : FldT Try.prog 76 0 0 := ⟨_, _, Try.underlying76, rfl, rfl, by kernel_rfl⟩
instance : FldT Try.prog 76 1 1 := ⟨_, _, Try.underlying76, rfl, rfl, by kernel_rfl⟩
instance : BldT Try.prog 76 #[(0, 1), (1, 2)] := ⟨_, Try.underlying76, fun w => by kernel_rfl⟩
instance : ElemT Try.prog 76 [.string ByteArray.empty, .int .i64 0, .slice none 0 0] 3 48 := ⟨by kernel_rfl⟩
-- struct { Name string; Relation impl.Relation }
instance : AggT Try.prog 79 3 := ⟨⟨_, Try.underlying79, trivial⟩, by kernel_rfl⟩
instance : FldT Try.prog 79 0 0 := ⟨_, _, Try.underlying79, rfl, rfl, by kernel_rfl⟩
instance : FldT Try.prog 79 1 1 := ⟨_, _, Try.underlying79, rfl, rfl, by kernel_rfl⟩
instance : BldT Try.prog 79 #[(0, 1), (1, 2)] := ⟨_, Try.underlying79, fun w => by kernel_rfl⟩
instance : ElemT Try.prog 79 [.string ByteArray.empty, .int .i64 0, .slice none 0 0] 3 48 := ⟨by kernel_rfl⟩
-- impl.Table
instance : AggT Try.prog 80 3 := ⟨⟨_, Try.underlying80, trivial⟩, by kernel_rfl⟩
instance : FldT Try.prog 80 0 0 := ⟨_, _, Try.underlying80, rfl, rfl, by kernel_rfl⟩
instance : FldT Try.prog 80 1 1 := ⟨_, _, Try.underlying80, rfl, rfl, by kernel_rfl⟩
instance : BldT Try.prog 80 #[(0, 1), (1, 2)] := ⟨_, Try.underlying80, fun w => by kernel_rfl⟩
instance : ElemT Try.prog 80 [.string ByteArray.empty, .int .i64 0, .slice none 0 0] 3 48 := ⟨by kernel_rfl⟩
-- []uint8
instance : PlainT Try.prog 92 := ⟨_, Try.underlying92, trivial⟩
instance : SliceT Try.prog 92 5 := ⟨Try.underlying92⟩
instance : ElemT Try.prog 92 [.slice none 0 0] 1 24 := ⟨by kernel_rfl⟩
-- uint32
instance : PlainT Try.prog 102 := ⟨_, Try.underlying102, trivial⟩
instance : ElemT Try.prog 102 [.int .u32 0] 1 4 := ⟨by kernel_rfl⟩
end Go.Proofs.Ytnanddmadghnnaa
