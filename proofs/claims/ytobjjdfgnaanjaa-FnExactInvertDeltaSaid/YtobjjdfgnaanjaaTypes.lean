/- What the program's table of types says of each type of data: written by a program off the translation's rows. -/
import Derived.Test.YtobjjdfgnaanjaaRows
import Derived.Test.YtobjjdfgnaanjaaQ
namespace Go.Proofs.Ytobjjdfgnaanjaa
-- int64
instance : PlainT Try.prog 2 := ⟨_, Try.underlying2, trivial⟩
instance : ElemT Try.prog 2 [.int .i64 0] 1 8 := ⟨by kernel_rfl⟩
-- int
instance : PlainT Try.prog 3 := ⟨_, Try.underlying3, trivial⟩
instance : ElemT Try.prog 3 [.int .i64 0] 1 8 := ⟨by kernel_rfl⟩
-- bool
instance : PlainT Try.prog 4 := ⟨_, Try.underlying4, trivial⟩
instance : ElemT Try.prog 4 [.bool false] 1 1 := ⟨by kernel_rfl⟩
-- uint8
instance : PlainT Try.prog 5 := ⟨_, Try.underlying5, trivial⟩
instance : ElemT Try.prog 5 [.int .u8 0] 1 1 := ⟨by kernel_rfl⟩
-- string
instance : PlainT Try.prog 9 := ⟨_, Try.underlying9, trivial⟩
instance : ElemT Try.prog 9 [.string ByteArray.empty] 1 16 := ⟨by kernel_rfl⟩
-- uintptr
instance : PlainT Try.prog 12 := ⟨_, Try.underlying12, trivial⟩
instance : ElemT Try.prog 12 [.int .u64 0] 1 8 := ⟨by kernel_rfl⟩
-- int32
instance : PlainT Try.prog 21 := ⟨_, Try.underlying21, trivial⟩
instance : ElemT Try.prog 21 [.int .i32 0] 1 4 := ⟨by kernel_rfl⟩
-- []int
instance : PlainT Try.prog 22 := ⟨_, Try.underlying22, trivial⟩
instance : SliceT Try.prog 22 3 := ⟨Try.underlying22⟩
instance : ElemT Try.prog 22 [.slice none 0 0] 1 24 := ⟨by kernel_rfl⟩
-- []laws.FactorNode
instance : PlainT Try.prog 23 := ⟨_, Try.underlying23, trivial⟩
instance : SliceT Try.prog 23 89 := ⟨Try.underlying23⟩
instance : ElemT Try.prog 23 [.slice none 0 0] 1 24 := ⟨by kernel_rfl⟩
-- struct { Order []int; Nodes []laws.FactorNode }
instance : AggT Try.prog 24 2 := ⟨⟨_, Try.underlying24, trivial⟩, by kernel_rfl⟩
instance : FldT Try.prog 24 0 0 := ⟨_, _, Try.underlying24, rfl, rfl, by kernel_rfl⟩
instance : FldT Try.prog 24 1 1 := ⟨_, _, Try.underlying24, rfl, rfl, by kernel_rfl⟩
instance : BldT Try.prog 24 #[(0, 1), (1, 1)] := ⟨_, Try.underlying24, fun w => by kernel_rfl⟩
instance : ElemT Try.prog 24 [.slice none 0 0, .slice none 0 0] 2 48 := ⟨by kernel_rfl⟩
-- laws.Factorization
instance : AggT Try.prog 25 2 := ⟨⟨_, Try.underlying25, trivial⟩, by kernel_rfl⟩
instance : FldT Try.prog 25 0 0 := ⟨_, _, Try.underlying25, rfl, rfl, by kernel_rfl⟩
instance : FldT Try.prog 25 1 1 := ⟨_, _, Try.underlying25, rfl, rfl, by kernel_rfl⟩
instance : BldT Try.prog 25 #[(0, 1), (1, 1)] := ⟨_, Try.underlying25, fun w => by kernel_rfl⟩
instance : ElemT Try.prog 25 [.slice none 0 0, .slice none 0 0] 2 48 := ⟨by kernel_rfl⟩
-- []impl.FactorNode
instance : PlainT Try.prog 28 := ⟨_, Try.underlying28, trivial⟩
instance : SliceT Try.prog 28 67 := ⟨Try.underlying28⟩
instance : ElemT Try.prog 28 [.slice none 0 0] 1 24 := ⟨by kernel_rfl⟩
-- struct { Order []int; Nodes []impl.FactorNode }
instance : AggT Try.prog 29 2 := ⟨⟨_, Try.underlying29, trivial⟩, by kernel_rfl⟩
instance : FldT Try.prog 29 0 0 := ⟨_, _, Try.underlying29, rfl, rfl, by kernel_rfl⟩
instance : FldT Try.prog 29 1 1 := ⟨_, _, Try.underlying29, rfl, rfl, by kernel_rfl⟩
instance : BldT Try.prog 29 #[(0, 1), (1, 1)] := ⟨_, Try.underlying29, fun w => by kernel_rfl⟩
instance : ElemT Try.prog 29 [.slice none 0 0, .slice none 0 0] 2 48 := ⟨by kernel_rfl⟩
-- impl.Factorization
instance : AggT Try.prog 30 2 := ⟨⟨_, Try.underlying30, trivial⟩, by kernel_rfl⟩
instance : FldT Try.prog 30 0 0 := ⟨_, _, Try.underlying30, rfl, rfl, by kernel_rfl⟩
instance : FldT Try.prog 30 1 1 := ⟨_, _, Try.underlying30, rfl, rfl, by kernel_rfl⟩
instance : BldT Try.prog 30 #[(0, 1), (1, 1)] := ⟨_, Try.underlying30, fun w => by kernel_rfl⟩
instance : ElemT Try.prog 30 [.slice none 0 0, .slice none 0 0] 2 48 := ⟨by kernel_rfl⟩
-- [][]int
instance : PlainT Try.prog 33 := ⟨_, Try.underlying33, trivial⟩
instance : SliceT Try.prog 33 22 := ⟨Try.underlying33⟩
instance : ElemT Try.prog 33 [.slice none 0 0] 1 24 := ⟨by kernel_rfl⟩
-- struct { Arity int; Rows [][]int }
instance : AggT Try.prog 34 2 := ⟨⟨_, Try.underlying34, trivial⟩, by kernel_rfl⟩
instance : FldT Try.prog 34 0 0 := ⟨_, _, Try.underlying34, rfl, rfl, by kernel_rfl⟩
instance : FldT Try.prog 34 1 1 := ⟨_, _, Try.underlying34, rfl, rfl, by kernel_rfl⟩
instance : BldT Try.prog 34 #[(0, 1), (1, 1)] := ⟨_, Try.underlying34, fun w => by kernel_rfl⟩
instance : ElemT Try.prog 34 [.int .i64 0, .slice none 0 0] 2 32 := ⟨by kernel_rfl⟩
-- laws.Relation
instance : AggT Try.prog 35 2 := ⟨⟨_, Try.underlying35, trivial⟩, by kernel_rfl⟩
instance : FldT Try.prog 35 0 0 := ⟨_, _, Try.underlying35, rfl, rfl, by kernel_rfl⟩
instance : FldT Try.prog 35 1 1 := ⟨_, _, Try.underlying35, rfl, rfl, by kernel_rfl⟩
instance : BldT Try.prog 35 #[(0, 1), (1, 1)] := ⟨_, Try.underlying35, fun w => by kernel_rfl⟩
instance : ElemT Try.prog 35 [.int .i64 0, .slice none 0 0] 2 32 := ⟨by kernel_rfl⟩
-- struct { Name string; Inserts laws.Relation; Deletes laws.Relation }
instance : AggT Try.prog 36 5 := ⟨⟨_, Try.underlying36, trivial⟩, by kernel_rfl⟩
instance : FldT Try.prog 36 0 0 := ⟨_, _, Try.underlying36, rfl, rfl, by kernel_rfl⟩
instance : FldT Try.prog 36 1 1 := ⟨_, _, Try.underlying36, rfl, rfl, by kernel_rfl⟩
instance : FldT Try.prog 36 2 3 := ⟨_, _, Try.underlying36, rfl, rfl, by kernel_rfl⟩
instance : BldT Try.prog 36 #[(0, 1), (1, 2), (3, 2)] := ⟨_, Try.underlying36, fun w => by kernel_rfl⟩
instance : ElemT Try.prog 36 [.string ByteArray.empty, .int .i64 0, .slice none 0 0, .int .i64 0, .slice none 0 0] 5 80 := ⟨by kernel_rfl⟩
-- laws.Delta
instance : AggT Try.prog 37 5 := ⟨⟨_, Try.underlying37, trivial⟩, by kernel_rfl⟩
instance : FldT Try.prog 37 0 0 := ⟨_, _, Try.underlying37, rfl, rfl, by kernel_rfl⟩
instance : FldT Try.prog 37 1 1 := ⟨_, _, Try.underlying37, rfl, rfl, by kernel_rfl⟩
instance : FldT Try.prog 37 2 3 := ⟨_, _, Try.underlying37, rfl, rfl, by kernel_rfl⟩
instance : BldT Try.prog 37 #[(0, 1), (1, 2), (3, 2)] := ⟨_, Try.underlying37, fun w => by kernel_rfl⟩
instance : ElemT Try.prog 37 [.string ByteArray.empty, .int .i64 0, .slice none 0 0, .int .i64 0, .slice none 0 0] 5 80 := ⟨by kernel_rfl⟩
-- impl.Relation
instance : AggT Try.prog 40 2 := ⟨⟨_, Try.underlying40, trivial⟩, by kernel_rfl⟩
instance : FldT Try.prog 40 0 0 := ⟨_, _, Try.underlying40, rfl, rfl, by kernel_rfl⟩
instance : FldT Try.prog 40 1 1 := ⟨_, _, Try.underlying40, rfl, rfl, by kernel_rfl⟩
instance : BldT Try.prog 40 #[(0, 1), (1, 1)] := ⟨_, Try.underlying40, fun w => by kernel_rfl⟩
instance : ElemT Try.prog 40 [.int .i64 0, .slice none 0 0] 2 32 := ⟨by kernel_rfl⟩
-- struct { Name string; Inserts impl.Relation; Deletes impl.Relation }
instance : AggT Try.prog 41 5 := ⟨⟨_, Try.underlying41, trivial⟩, by kernel_rfl⟩
instance : FldT Try.prog 41 0 0 := ⟨_, _, Try.underlying41, rfl, rfl, by kernel_rfl⟩
instance : FldT Try.prog 41 1 1 := ⟨_, _, Try.underlying41, rfl, rfl, by kernel_rfl⟩
instance : FldT Try.prog 41 2 3 := ⟨_, _, Try.underlying41, rfl, rfl, by kernel_rfl⟩
instance : BldT Try.prog 41 #[(0, 1), (1, 2), (3, 2)] := ⟨_, Try.underlying41, fun w => by kernel_rfl⟩
instance : ElemT Try.prog 41 [.string ByteArray.empty, .int .i64 0, .slice none 0 0, .int .i64 0, .slice none 0 0] 5 80 := ⟨by kernel_rfl⟩
-- impl.Delta
instance : AggT Try.prog 42 5 := ⟨⟨_, Try.underlying42, trivial⟩, by kernel_rfl⟩
instance : FldT Try.prog 42 0 0 := ⟨_, _, Try.underlying42, rfl, rfl, by kernel_rfl⟩
instance : FldT Try.prog 42 1 1 := ⟨_, _, Try.underlying42, rfl, rfl, by kernel_rfl⟩
instance : FldT Try.prog 42 2 3 := ⟨_, _, Try.underlying42, rfl, rfl, by kernel_rfl⟩
instance : BldT Try.prog 42 #[(0, 1), (1, 2), (3, 2)] := ⟨_, Try.underlying42, fun w => by kernel_rfl⟩
instance : ElemT Try.prog 42 [.string ByteArray.empty, .int .i64 0, .slice none 0 0, .int .i64 0, .slice none 0 0] 5 80 := ⟨by kernel_rfl⟩
-- []uint8
instance : PlainT Try.prog 55 := ⟨_, Try.underlying55, trivial⟩
instance : SliceT Try.prog 55 5 := ⟨Try.underlying55⟩
instance : ElemT Try.prog 55 [.slice none 0 0] 1 24 := ⟨by kernel_rfl⟩
-- struct { Values []int; Children []int }
instance : AggT Try.prog 66 2 := ⟨⟨_, Try.underlying66, trivial⟩, by kernel_rfl⟩
instance : FldT Try.prog 66 0 0 := ⟨_, _, Try.underlying66, rfl, rfl, by kernel_rfl⟩
instance : FldT Try.prog 66 1 1 := ⟨_, _, Try.underlying66, rfl, rfl, by kernel_rfl⟩
instance : BldT Try.prog 66 #[(0, 1), (1, 1)] := ⟨_, Try.underlying66, fun w => by kernel_rfl⟩
instance : ElemT Try.prog 66 [.slice none 0 0, .slice none 0 0] 2 48 := ⟨by kernel_rfl⟩
-- impl.FactorNode
instance : AggT Try.prog 67 2 := ⟨⟨_, Try.underlying67, trivial⟩, by kernel_rfl⟩
instance : FldT Try.prog 67 0 0 := ⟨_, _, Try.underlying67, rfl, rfl, by kernel_rfl⟩
instance : FldT Try.prog 67 1 1 := ⟨_, _, Try.underlying67, rfl, rfl, by kernel_rfl⟩
instance : BldT Try.prog 67 #[(0, 1), (1, 1)] := ⟨_, Try.underlying67, fun w => by kernel_rfl⟩
instance : ElemT Try.prog 67 [.slice none 0 0, .slice none 0 0] 2 48 := ⟨by kernel_rfl⟩
-- laws.FactorNode
instance : AggT Try.prog 89 2 := ⟨⟨_, Try.underlying89, trivial⟩, by kernel_rfl⟩
instance : FldT Try.prog 89 0 0 := ⟨_, _, Try.underlying89, rfl, rfl, by kernel_rfl⟩
instance : FldT Try.prog 89 1 1 := ⟨_, _, Try.underlying89, rfl, rfl, by kernel_rfl⟩
instance : BldT Try.prog 89 #[(0, 1), (1, 1)] := ⟨_, Try.underlying89, fun w => by kernel_rfl⟩
instance : ElemT Try.prog 89 [.slice none 0 0, .slice none 0 0] 2 48 := ⟨by kernel_rfl⟩
-- struct { b []uint8; i int; h int }
instance : AggT Try.prog 93 3 := ⟨⟨_, Try.underlying93, trivial⟩, by kernel_rfl⟩
instance : FldT Try.prog 93 0 0 := ⟨_, _, Try.underlying93, rfl, rfl, by kernel_rfl⟩
instance : FldT Try.prog 93 1 1 := ⟨_, _, Try.underlying93, rfl, rfl, by kernel_rfl⟩
instance : FldT Try.prog 93 2 2 := ⟨_, _, Try.underlying93, rfl, rfl, by kernel_rfl⟩
instance : BldT Try.prog 93 #[(0, 1), (1, 1), (2, 1)] := ⟨_, Try.underlying93, fun w => by kernel_rfl⟩
instance : ElemT Try.prog 93 [.slice none 0 0, .int .i64 0, .int .i64 0] 3 40 := ⟨by kernel_rfl⟩
-- spec.l1Cur
instance : AggT Try.prog 94 3 := ⟨⟨_, Try.underlying94, trivial⟩, by kernel_rfl⟩
instance : FldT Try.prog 94 0 0 := ⟨_, _, Try.underlying94, rfl, rfl, by kernel_rfl⟩
instance : FldT Try.prog 94 1 1 := ⟨_, _, Try.underlying94, rfl, rfl, by kernel_rfl⟩
instance : FldT Try.prog 94 2 2 := ⟨_, _, Try.underlying94, rfl, rfl, by kernel_rfl⟩
instance : BldT Try.prog 94 #[(0, 1), (1, 1), (2, 1)] := ⟨_, Try.underlying94, fun w => by kernel_rfl⟩
instance : ElemT Try.prog 94 [.slice none 0 0, .int .i64 0, .int .i64 0] 3 40 := ⟨by kernel_rfl⟩
-- uint
instance : PlainT Try.prog 98 := ⟨_, Try.underlying98, trivial⟩
instance : ElemT Try.prog 98 [.int .u64 0] 1 8 := ⟨by kernel_rfl⟩
-- uint32
instance : PlainT Try.prog 106 := ⟨_, Try.underlying106, trivial⟩
instance : ElemT Try.prog 106 [.int .u32 0] 1 4 := ⟨by kernel_rfl⟩
end Go.Proofs.Ytobjjdfgnaanjaa
