/- What the program's table of types says of each type of data: written by a program off the translation's rows. -/
import Derived.Test.YtbjfbfjacchjiaaRows
import Derived.Test.YtbjfbfjacchjiaaQ
namespace Go.Proofs.Ytbjfbfjacchjiaa
-- int64
instance : PlainT Try.prog 2 := ⟨_, Try.underlying2, trivial⟩
instance : ElemT Try.prog 2 [.int .i64 0] 1 8 := ⟨by kernel_rfl⟩
-- int
instance : PlainT Try.prog 3 := ⟨_, Try.underlying3, trivial⟩
instance : ElemT Try.prog 3 [.int .i64 0] 1 8 := ⟨by kernel_rfl⟩
-- bool
instance : PlainT Try.prog 4 := ⟨_, Try.underlying4, trivial⟩
instance : ElemT Try.prog 4 [.bool false] 1 1 := ⟨by kernel_rfl⟩
-- uint8
instance : PlainT Try.prog 5 := ⟨_, Try.underlying5, trivial⟩
instance : ElemT Try.prog 5 [.int .u8 0] 1 1 := ⟨by kernel_rfl⟩
-- string
instance : PlainT Try.prog 9 := ⟨_, Try.underlying9, trivial⟩
instance : ElemT Try.prog 9 [.string ByteArray.empty] 1 16 := ⟨by kernel_rfl⟩
-- uintptr
instance : PlainT Try.prog 12 := ⟨_, Try.underlying12, trivial⟩
instance : ElemT Try.prog 12 [.int .u64 0] 1 8 := ⟨by kernel_rfl⟩
-- int32
instance : PlainT Try.prog 21 := ⟨_, Try.underlying21, trivial⟩
instance : ElemT Try.prog 21 [.int .i32 0] 1 4 := ⟨by kernel_rfl⟩
-- []int
instance : PlainT Try.prog 22 := ⟨_, Try.underlying22, trivial⟩
instance : SliceT Try.prog 22 3 := ⟨Try.underlying22⟩
instance : ElemT Try.prog 22 [.slice none 0 0] 1 24 := ⟨by kernel_rfl⟩
-- []laws.FactorNode
instance : PlainT Try.prog 23 := ⟨_, Try.underlying23, trivial⟩
instance : SliceT Try.prog 23 62 := ⟨Try.underlying23⟩
instance : ElemT Try.prog 23 [.slice none 0 0] 1 24 := ⟨by kernel_rfl⟩
-- struct { Order []int; Nodes []laws.FactorNode }
instance : AggT Try.prog 24 2 := ⟨⟨_, Try.underlying24, trivial⟩, by kernel_rfl⟩
instance : FldT Try.prog 24 0 0 := ⟨_, _, Try.underlying24, rfl, rfl, by kernel_rfl⟩
instance : FldT Try.prog 24 1 1 := ⟨_, _, Try.underlying24, rfl, rfl, by kernel_rfl⟩
instance : BldT Try.prog 24 #[(0, 1), (1, 1)] := ⟨_, Try.underlying24, fun w => by kernel_rfl⟩
instance : ElemT Try.prog 24 [.slice none 0 0, .slice none 0 0] 2 48 := ⟨by kernel_rfl⟩
-- laws.Factorization
instance : AggT Try.prog 25 2 := ⟨⟨_, Try.underlying25, trivial⟩, by kernel_rfl⟩
instance : FldT Try.prog 25 0 0 := ⟨_, _, Try.underlying25, rfl, rfl, by kernel_rfl⟩
instance : FldT Try.prog 25 1 1 := ⟨_, _, Try.underlying25, rfl, rfl, by kernel_rfl⟩
instance : BldT Try.prog 25 #[(0, 1), (1, 1)] := ⟨_, Try.underlying25, fun w => by kernel_rfl⟩
instance : ElemT Try.prog 25 [.slice none 0 0, .slice none 0 0] 2 48 := ⟨by kernel_rfl⟩
-- []impl.FactorNode
instance : PlainT Try.prog 28 := ⟨_, Try.underlying28, trivial⟩
instance : SliceT Try.prog 28 57 := ⟨Try.underlying28⟩
instance : ElemT Try.prog 28 [.slice none 0 0] 1 24 := ⟨by kernel_rfl⟩
-- struct { Order []int; Nodes []impl.FactorNode }
instance : AggT Try.prog 29 2 := ⟨⟨_, Try.underlying29, trivial⟩, by kernel_rfl⟩
instance : FldT Try.prog 29 0 0 := ⟨_, _, Try.underlying29, rfl, rfl, by kernel_rfl⟩
instance : FldT Try.prog 29 1 1 := ⟨_, _, Try.underlying29, rfl, rfl, by kernel_rfl⟩
instance : BldT Try.prog 29 #[(0, 1), (1, 1)] := ⟨_, Try.underlying29, fun w => by kernel_rfl⟩
instance : ElemT Try.prog 29 [.slice none 0 0, .slice none 0 0] 2 48 := ⟨by kernel_rfl⟩
-- impl.Factorization
instance : AggT Try.prog 30 2 := ⟨⟨_, Try.underlying30, trivial⟩, by kernel_rfl⟩
instance : FldT Try.prog 30 0 0 := ⟨_, _, Try.underlying30, rfl, rfl, by kernel_rfl⟩
instance : FldT Try.prog 30 1 1 := ⟨_, _, Try.underlying30, rfl, rfl, by kernel_rfl⟩
instance : BldT Try.prog 30 #[(0, 1), (1, 1)] := ⟨_, Try.underlying30, fun w => by kernel_rfl⟩
instance : ElemT Try.prog 30 [.slice none 0 0, .slice none 0 0] 2 48 := ⟨by kernel_rfl⟩
-- [][]int
instance : PlainT Try.prog 46 := ⟨_, Try.underlying46, trivial⟩
instance : SliceT Try.prog 46 22 := ⟨Try.underlying46⟩
instance : ElemT Try.prog 46 [.slice none 0 0] 1 24 := ⟨by kernel_rfl⟩
-- struct { Values []int; Children []int }
instance : AggT Try.prog 56 2 := ⟨⟨_, Try.underlying56, trivial⟩, by kernel_rfl⟩
instance : FldT Try.prog 56 0 0 := ⟨_, _, Try.underlying56, rfl, rfl, by kernel_rfl⟩
instance : FldT Try.prog 56 1 1 := ⟨_, _, Try.underlying56, rfl, rfl, by kernel_rfl⟩
instance : BldT Try.prog 56 #[(0, 1), (1, 1)] := ⟨_, Try.underlying56, fun w => by kernel_rfl⟩
instance : ElemT Try.prog 56 [.slice none 0 0, .slice none 0 0] 2 48 := ⟨by kernel_rfl⟩
-- impl.FactorNode
instance : AggT Try.prog 57 2 := ⟨⟨_, Try.underlying57, trivial⟩, by kernel_rfl⟩
instance : FldT Try.prog 57 0 0 := ⟨_, _, Try.underlying57, rfl, rfl, by kernel_rfl⟩
instance : FldT Try.prog 57 1 1 := ⟨_, _, Try.underlying57, rfl, rfl, by kernel_rfl⟩
instance : BldT Try.prog 57 #[(0, 1), (1, 1)] := ⟨_, Try.underlying57, fun w => by kernel_rfl⟩
instance : ElemT Try.prog 57 [.slice none 0 0, .slice none 0 0] 2 48 := ⟨by kernel_rfl⟩
-- laws.FactorNode
instance : AggT Try.prog 62 2 := ⟨⟨_, Try.underlying62, trivial⟩, by kernel_rfl⟩
instance : FldT Try.prog 62 0 0 := ⟨_, _, Try.underlying62, rfl, rfl, by kernel_rfl⟩
instance : FldT Try.prog 62 1 1 := ⟨_, _, Try.underlying62, rfl, rfl, by kernel_rfl⟩
instance : BldT Try.prog 62 #[(0, 1), (1, 1)] := ⟨_, Try.underlying62, fun w => by kernel_rfl⟩
instance : ElemT Try.prog 62 [.slice none 0 0, .slice none 0 0] 2 48 := ⟨by kernel_rfl⟩
-- uint32
instance : PlainT Try.prog 76 := ⟨_, Try.underlying76, trivial⟩
instance : ElemT Try.prog 76 [.int .u32 0] 1 4 := ⟨by kernel_rfl⟩
end Go.Proofs.Ytbjfbfjacchjiaa
