/- What the program's table of types says of each type of data: written by a program off the translation's rows. -/
import Derived.Test.YtkppnaoihaecdaaRows
import Derived.Test.YtkppnaoihaecdaaSp
namespace Go.Proofs.Ytkppnaoihaecdaa
-- int64
instance : PlainT Try.prog 2 := ⟨_, Try.underlying2, trivial⟩
instance : ElemT Try.prog 2 [.int .i64 0] 1 8 := ⟨by kernel_rfl⟩
-- int
instance : PlainT Try.prog 3 := ⟨_, Try.underlying3, trivial⟩
instance : ElemT Try.prog 3 [.int .i64 0] 1 8 := ⟨by kernel_rfl⟩
-- bool
instance : PlainT Try.prog 4 := ⟨_, Try.underlying4, trivial⟩
instance : ElemT Try.prog 4 [.bool false] 1 1 := ⟨by kernel_rfl⟩
-- uint8
instance : PlainT Try.prog 5 := ⟨_, Try.underlying5, trivial⟩
instance : ElemT Try.prog 5 [.int .u8 0] 1 1 := ⟨by kernel_rfl⟩
-- string
instance : PlainT Try.prog 9 := ⟨_, Try.underlying9, trivial⟩
instance : ElemT Try.prog 9 [.string ByteArray.empty] 1 16 := ⟨by kernel_rfl⟩
-- uintptr
instance : PlainT Try.prog 12 := ⟨_, Try.underlying12, trivial⟩
instance : ElemT Try.prog 12 [.int .u64 0] 1 8 := ⟨by kernel_rfl⟩
-- int32
instance : PlainT Try.prog 21 := ⟨_, Try.underlying21, trivial⟩
instance : ElemT Try.prog 21 [.int .i32 0] 1 4 := ⟨by kernel_rfl⟩
-- []int
instance : PlainT Try.prog 26 := ⟨_, Try.underlying26, trivial⟩
instance : SliceT Try.prog 26 3 := ⟨Try.underlying26⟩
instance : ElemT Try.prog 26 [.slice none 0 0] 1 24 := ⟨by kernel_rfl⟩
-- []laws.FactorNode
instance : PlainT Try.prog 27 := ⟨_, Try.underlying27, trivial⟩
instance : SliceT Try.prog 27 48 := ⟨Try.underlying27⟩
instance : ElemT Try.prog 27 [.slice none 0 0] 1 24 := ⟨by kernel_rfl⟩
-- struct { Order []int; Nodes []laws.FactorNode }
instance : AggT Try.prog 28 2 := ⟨⟨_, Try.underlying28, trivial⟩, by kernel_rfl⟩
instance : ElemT Try.prog 28 [.slice none 0 0, .slice none 0 0] 2 48 := ⟨by kernel_rfl⟩
-- laws.Factorization
instance : AggT Try.prog 29 2 := ⟨⟨_, Try.underlying29, trivial⟩, by kernel_rfl⟩
instance : ElemT Try.prog 29 [.slice none 0 0, .slice none 0 0] 2 48 := ⟨by kernel_rfl⟩
-- []impl.FactorNode
instance : PlainT Try.prog 32 := ⟨_, Try.underlying32, trivial⟩
instance : SliceT Try.prog 32 42 := ⟨Try.underlying32⟩
instance : ElemT Try.prog 32 [.slice none 0 0] 1 24 := ⟨by kernel_rfl⟩
-- struct { Order []int; Nodes []impl.FactorNode }
instance : AggT Try.prog 33 2 := ⟨⟨_, Try.underlying33, trivial⟩, by kernel_rfl⟩
instance : ElemT Try.prog 33 [.slice none 0 0, .slice none 0 0] 2 48 := ⟨by kernel_rfl⟩
-- impl.Factorization
instance : AggT Try.prog 34 2 := ⟨⟨_, Try.underlying34, trivial⟩, by kernel_rfl⟩
instance : ElemT Try.prog 34 [.slice none 0 0, .slice none 0 0] 2 48 := ⟨by kernel_rfl⟩
-- struct { Values []int; Children []int }
instance : AggT Try.prog 41 2 := ⟨⟨_, Try.underlying41, trivial⟩, by kernel_rfl⟩
instance : ElemT Try.prog 41 [.slice none 0 0, .slice none 0 0] 2 48 := ⟨by kernel_rfl⟩
-- impl.FactorNode
instance : AggT Try.prog 42 2 := ⟨⟨_, Try.underlying42, trivial⟩, by kernel_rfl⟩
instance : ElemT Try.prog 42 [.slice none 0 0, .slice none 0 0] 2 48 := ⟨by kernel_rfl⟩
-- laws.FactorNode
instance : AggT Try.prog 48 2 := ⟨⟨_, Try.underlying48, trivial⟩, by kernel_rfl⟩
instance : ElemT Try.prog 48 [.slice none 0 0, .slice none 0 0] 2 48 := ⟨by kernel_rfl⟩
-- uint32
instance : PlainT Try.prog 58 := ⟨_, Try.underlying58, trivial⟩
instance : ElemT Try.prog 58 [.int .u32 0] 1 4 := ⟨by kernel_rfl⟩
end Go.Proofs.Ytkppnaoihaecdaa
