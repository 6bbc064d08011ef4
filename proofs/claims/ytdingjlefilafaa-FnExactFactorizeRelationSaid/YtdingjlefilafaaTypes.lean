/- What the program's table of types says of each type of data: written by a program off the translation's rows. -/
import Derived.Test.YtdingjlefilafaaRows
import Derived.Test.YtdingjlefilafaaQ
namespace Go.Proofs.Ytdingjlefilafaa
-- int64
instance : PlainT Try.prog 2 := ⟨_, Try.underlying2, trivial⟩
instance : ElemT Try.prog 2 [.int .i64 0] 1 8 := ⟨by kernel_rfl⟩
-- int
instance : PlainT Try.prog 3 := ⟨_, Try.underlying3, trivial⟩
instance : ElemT Try.prog 3 [.int .i64 0] 1 8 := ⟨by kernel_rfl⟩
-- bool
instance : PlainT Try.prog 4 := ⟨_, Try.underlying4, trivial⟩
instance : ElemT Try.prog 4 [.bool false] 1 1 := ⟨by kernel_rfl⟩
-- uint8
instance : PlainT Try.prog 5 := ⟨_, Try.underlying5, trivial⟩
instance : ElemT Try.prog 5 [.int .u8 0] 1 1 := ⟨by kernel_rfl⟩
-- string
instance : PlainT Try.prog 9 := ⟨_, Try.underlying9, trivial⟩
instance : ElemT Try.prog 9 [.string ByteArray.empty] 1 16 := ⟨by kernel_rfl⟩
-- uintptr
instance : PlainT Try.prog 12 := ⟨_, Try.underlying12, trivial⟩
instance : ElemT Try.prog 12 [.int .u64 0] 1 8 := ⟨by kernel_rfl⟩
-- int32
instance : PlainT Try.prog 21 := ⟨_, Try.underlying21, trivial⟩
instance : ElemT Try.prog 21 [.int .i32 0] 1 4 := ⟨by kernel_rfl⟩
-- [][]int
instance : PlainT Try.prog 22 := ⟨_, Try.underlying22, trivial⟩
instance : SliceT Try.prog 22 26 := ⟨Try.underlying22⟩
instance : ElemT Try.prog 22 [.slice none 0 0] 1 24 := ⟨by kernel_rfl⟩
-- struct { Arity int; Rows [][]int }
instance : AggT Try.prog 23 2 := ⟨⟨_, Try.underlying23, trivial⟩, by kernel_rfl⟩
instance : FldT Try.prog 23 0 0 := ⟨_, _, Try.underlying23, rfl, rfl, by kernel_rfl⟩
instance : FldT Try.prog 23 1 1 := ⟨_, _, Try.underlying23, rfl, rfl, by kernel_rfl⟩
instance : BldT Try.prog 23 #[(0, 1), (1, 1)] := ⟨_, Try.underlying23, fun w => by kernel_rfl⟩
instance : ElemT Try.prog 23 [.int .i64 0, .slice none 0 0] 2 32 := ⟨by kernel_rfl⟩
-- laws.Relation
instance : AggT Try.prog 24 2 := ⟨⟨_, Try.underlying24, trivial⟩, by kernel_rfl⟩
instance : FldT Try.prog 24 0 0 := ⟨_, _, Try.underlying24, rfl, rfl, by kernel_rfl⟩
instance : FldT Try.prog 24 1 1 := ⟨_, _, Try.underlying24, rfl, rfl, by kernel_rfl⟩
instance : BldT Try.prog 24 #[(0, 1), (1, 1)] := ⟨_, Try.underlying24, fun w => by kernel_rfl⟩
instance : ElemT Try.prog 24 [.int .i64 0, .slice none 0 0] 2 32 := ⟨by kernel_rfl⟩
-- []int
instance : PlainT Try.prog 26 := ⟨_, Try.underlying26, trivial⟩
instance : SliceT Try.prog 26 3 := ⟨Try.underlying26⟩
instance : ElemT Try.prog 26 [.slice none 0 0] 1 24 := ⟨by kernel_rfl⟩
-- []impl.FactorNode
instance : PlainT Try.prog 27 := ⟨_, Try.underlying27, trivial⟩
instance : SliceT Try.prog 27 84 := ⟨Try.underlying27⟩
instance : ElemT Try.prog 27 [.slice none 0 0] 1 24 := ⟨by kernel_rfl⟩
-- struct { Order []int; Nodes []impl.FactorNode }
instance : AggT Try.prog 28 2 := ⟨⟨_, Try.underlying28, trivial⟩, by kernel_rfl⟩
instance : FldT Try.prog 28 0 0 := ⟨_, _, Try.underlying28, rfl, rfl, by kernel_rfl⟩
instance : FldT Try.prog 28 1 1 := ⟨_, _, Try.underlying28, rfl, rfl, by kernel_rfl⟩
instance : BldT Try.prog 28 #[(0, 1), (1, 1)] := ⟨_, Try.underlying28, fun w => by kernel_rfl⟩
instance : ElemT Try.prog 28 [.slice none 0 0, .slice none 0 0] 2 48 := ⟨by kernel_rfl⟩
-- impl.Factorization
instance : AggT Try.prog 29 2 := ⟨⟨_, Try.underlying29, trivial⟩, by kernel_rfl⟩
instance : FldT Try.prog 29 0 0 := ⟨_, _, Try.underlying29, rfl, rfl, by kernel_rfl⟩
instance : FldT Try.prog 29 1 1 := ⟨_, _, Try.underlying29, rfl, rfl, by kernel_rfl⟩
instance : BldT Try.prog 29 #[(0, 1), (1, 1)] := ⟨_, Try.underlying29, fun w => by kernel_rfl⟩
instance : ElemT Try.prog 29 [.slice none 0 0, .slice none 0 0] 2 48 := ⟨by kernel_rfl⟩
-- impl.Relation
instance : AggT Try.prog 32 2 := ⟨⟨_, Try.underlying32, trivial⟩, by kernel_rfl⟩
instance : FldT Try.prog 32 0 0 := ⟨_, _, Try.underlying32, rfl, rfl, by kernel_rfl⟩
instance : FldT Try.prog 32 1 1 := ⟨_, _, Try.underlying32, rfl, rfl, by kernel_rfl⟩
instance : BldT Try.prog 32 #[(0, 1), (1, 1)] := ⟨_, Try.underlying32, fun w => by kernel_rfl⟩
instance : ElemT Try.prog 32 [.int .i64 0, .slice none 0 0] 2 32 := ⟨by kernel_rfl⟩
-- []uint8
instance : PlainT Try.prog 39 := ⟨_, Try.underlying39, trivial⟩
instance : SliceT Try.prog 39 5 := ⟨Try.underlying39⟩
instance : ElemT Try.prog 39 [.slice none 0 0] 1 24 := ⟨by kernel_rfl⟩
-- []laws.FactorNode
instance : PlainT Try.prog 47 := ⟨_, Try.underlying47, trivial⟩
instance : SliceT Try.prog 47 113 := ⟨Try.underlying47⟩
instance : ElemT Try.prog 47 [.slice none 0 0] 1 24 := ⟨by kernel_rfl⟩
-- struct { Order []int; Nodes []laws.FactorNode }
instance : AggT Try.prog 48 2 := ⟨⟨_, Try.underlying48, trivial⟩, by kernel_rfl⟩
instance : FldT Try.prog 48 0 0 := ⟨_, _, Try.underlying48, rfl, rfl, by kernel_rfl⟩
instance : FldT Try.prog 48 1 1 := ⟨_, _, Try.underlying48, rfl, rfl, by kernel_rfl⟩
instance : BldT Try.prog 48 #[(0, 1), (1, 1)] := ⟨_, Try.underlying48, fun w => by kernel_rfl⟩
instance : ElemT Try.prog 48 [.slice none 0 0, .slice none 0 0] 2 48 := ⟨by kernel_rfl⟩
-- laws.Factorization
instance : AggT Try.prog 49 2 := ⟨⟨_, Try.underlying49, trivial⟩, by kernel_rfl⟩
instance : FldT Try.prog 49 0 0 := ⟨_, _, Try.underlying49, rfl, rfl, by kernel_rfl⟩
instance : FldT Try.prog 49 1 1 := ⟨_, _, Try.underlying49, rfl, rfl, by kernel_rfl⟩
instance : BldT Try.prog 49 #[(0, 1), (1, 1)] := ⟨_, Try.underlying49, fun w => by kernel_rfl⟩
instance : ElemT Try.prog 49 [.slice none 0 0, .slice none 0 0] 2 48 := ⟨by kernel_rfl⟩
-- struct { Values []int; Children []int }
instance : AggT Try.prog 83 2 := ⟨⟨_, Try.underlying83, trivial⟩, by kernel_rfl⟩
instance : FldT Try.prog 83 0 0 := ⟨_, _, Try.underlying83, rfl, rfl, by kernel_rfl⟩
instance : FldT Try.prog 83 1 1 := ⟨_, _, Try.underlying83, rfl, rfl, by kernel_rfl⟩
instance : BldT Try.prog 83 #[(0, 1), (1, 1)] := ⟨_, Try.underlying83, fun w => by kernel_rfl⟩
instance : ElemT Try.prog 83 [.slice none 0 0, .slice none 0 0] 2 48 := ⟨by kernel_rfl⟩
-- impl.FactorNode
instance : AggT Try.prog 84 2 := ⟨⟨_, Try.underlying84, trivial⟩, by kernel_rfl⟩
instance : FldT Try.prog 84 0 0 := ⟨_, _, Try.underlying84, rfl, rfl, by kernel_rfl⟩
instance : FldT Try.prog 84 1 1 := ⟨_, _, Try.underlying84, rfl, rfl, by kernel_rfl⟩
instance : BldT Try.prog 84 #[(0, 1), (1, 1)] := ⟨_, Try.underlying84, fun w => by kernel_rfl⟩
instance : ElemT Try.prog 84 [.slice none 0 0, .slice none 0 0] 2 48 := ⟨by kernel_rfl⟩
-- struct { nodes []impl.FactorNode }
instance : AggT Try.prog 102 1 := ⟨⟨_, Try.underlying102, trivial⟩, by kernel_rfl⟩
instance : FldT Try.prog 102 0 0 := ⟨_, _, Try.underlying102, rfl, rfl, by kernel_rfl⟩
instance : BldT Try.prog 102 #[(0, 1)] := ⟨_, Try.underlying102, fun w => by kernel_rfl⟩
instance : ElemT Try.prog 102 [.slice none 0 0] 1 24 := ⟨by kernel_rfl⟩
-- impl.builder
instance : AggT Try.prog 103 1 := ⟨⟨_, Try.underlying103, trivial⟩, by kernel_rfl⟩
instance : FldT Try.prog 103 0 0 := ⟨_, _, Try.underlying103, rfl, rfl, by kernel_rfl⟩
instance : BldT Try.prog 103 #[(0, 1)] := ⟨_, Try.underlying103, fun w => by kernel_rfl⟩
instance : ElemT Try.prog 103 [.slice none 0 0] 1 24 := ⟨by kernel_rfl⟩
-- struct { b []uint8; i int; h int }
instance : AggT Try.prog 104 3 := ⟨⟨_, Try.underlying104, trivial⟩, by kernel_rfl⟩
instance : FldT Try.prog 104 0 0 := ⟨_, _, Try.underlying104, rfl, rfl, by kernel_rfl⟩
instance : FldT Try.prog 104 1 1 := ⟨_, _, Try.underlying104, rfl, rfl, by kernel_rfl⟩
instance : FldT Try.prog 104 2 2 := ⟨_, _, Try.underlying104, rfl, rfl, by kernel_rfl⟩
instance : BldT Try.prog 104 #[(0, 1), (1, 1), (2, 1)] := ⟨_, Try.underlying104, fun w => by kernel_rfl⟩
instance : ElemT Try.prog 104 [.slice none 0 0, .int .i64 0, .int .i64 0] 3 40 := ⟨by kernel_rfl⟩
-- spec.l1Cur
instance : AggT Try.prog 105 3 := ⟨⟨_, Try.underlying105, trivial⟩, by kernel_rfl⟩
instance : FldT Try.prog 105 0 0 := ⟨_, _, Try.underlying105, rfl, rfl, by kernel_rfl⟩
instance : FldT Try.prog 105 1 1 := ⟨_, _, Try.underlying105, rfl, rfl, by kernel_rfl⟩
instance : FldT Try.prog 105 2 2 := ⟨_, _, Try.underlying105, rfl, rfl, by kernel_rfl⟩
instance : BldT Try.prog 105 #[(0, 1), (1, 1), (2, 1)] := ⟨_, Try.underlying105, fun w => by kernel_rfl⟩
instance : ElemT Try.prog 105 [.slice none 0 0, .int .i64 0, .int .i64 0] 3 40 := ⟨by kernel_rfl⟩
-- laws.FactorNode
instance : AggT Try.prog 113 2 := ⟨⟨_, Try.underlying113, trivial⟩, by kernel_rfl⟩
instance : FldT Try.prog 113 0 0 := ⟨_, _, Try.underlying113, rfl, rfl, by kernel_rfl⟩
instance : FldT Try.prog 113 1 1 := ⟨_, _, Try.underlying113, rfl, rfl, by kernel_rfl⟩
instance : BldT Try.prog 113 #[(0, 1), (1, 1)] := ⟨_, Try.underlying113, fun w => by kernel_rfl⟩
instance : ElemT Try.prog 113 [.slice none 0 0, .slice none 0 0] 2 48 := ⟨by kernel_rfl⟩
-- uint
instance : PlainT Try.prog 119 := ⟨_, Try.underlying119, trivial⟩
instance : ElemT Try.prog 119 [.int .u64 0] 1 8 := ⟨by kernel_rfl⟩
-- uint32
instance : PlainT Try.prog 127 := ⟨_, Try.underlying127, trivial⟩
instance : ElemT Try.prog 127 [.int .u32 0] 1 4 := ⟨by kernel_rfl⟩
end Go.Proofs.Ytdingjlefilafaa
