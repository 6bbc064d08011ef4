/- What the program's table of types says of each type of data: written by a program off the translation's rows. -/
import Derived.Test.YtkpeabpdiffjhaaRows
import Derived.Test.YtkpeabpdiffjhaaQ
namespace Go.Proofs.Ytkpeabpdiffjhaa
-- int64
instance : PlainT Try.prog 2 := ⟨_, Try.underlying2, trivial⟩
instance : ElemT Try.prog 2 [.int .i64 0] 1 8 := ⟨by kernel_rfl⟩
-- int
instance : PlainT Try.prog 3 := ⟨_, Try.underlying3, trivial⟩
instance : ElemT Try.prog 3 [.int .i64 0] 1 8 := ⟨by kernel_rfl⟩
-- bool
instance : PlainT Try.prog 4 := ⟨_, Try.underlying4, trivial⟩
instance : ElemT Try.prog 4 [.bool false] 1 1 := ⟨by kernel_rfl⟩
-- uint8
instance : PlainT Try.prog 5 := ⟨_, Try.underlying5, trivial⟩
instance : ElemT Try.prog 5 [.int .u8 0] 1 1 := ⟨by kernel_rfl⟩
-- string
instance : PlainT Try.prog 9 := ⟨_, Try.underlying9, trivial⟩
instance : ElemT Try.prog 9 [.string ByteArray.empty] 1 16 := ⟨by kernel_rfl⟩
-- uintptr
instance : PlainT Try.prog 12 := ⟨_, Try.underlying12, trivial⟩
instance : ElemT Try.prog 12 [.int .u64 0] 1 8 := ⟨by kernel_rfl⟩
-- int32
instance : PlainT Try.prog 21 := ⟨_, Try.underlying21, trivial⟩
instance : ElemT Try.prog 21 [.int .i32 0] 1 4 := ⟨by kernel_rfl⟩
-- []laws.Atom
instance : PlainT Try.prog 22 := ⟨_, Try.underlying22, trivial⟩
instance : SliceT Try.prog 22 113 := ⟨Try.underlying22⟩
instance : ElemT Try.prog 22 [.slice none 0 0] 1 24 := ⟨by kernel_rfl⟩
-- []int
instance : PlainT Try.prog 23 := ⟨_, Try.underlying23, trivial⟩
instance : SliceT Try.prog 23 3 := ⟨Try.underlying23⟩
instance : ElemT Try.prog 23 [.slice none 0 0] 1 24 := ⟨by kernel_rfl⟩
-- struct { VariableCount int; Atoms []laws.Atom; Output []int }
instance : AggT Try.prog 24 3 := ⟨⟨_, Try.underlying24, trivial⟩, by kernel_rfl⟩
instance : FldT Try.prog 24 0 0 := ⟨_, _, Try.underlying24, rfl, rfl, by kernel_rfl⟩
instance : FldT Try.prog 24 1 1 := ⟨_, _, Try.underlying24, rfl, rfl, by kernel_rfl⟩
instance : FldT Try.prog 24 2 2 := ⟨_, _, Try.underlying24, rfl, rfl, by kernel_rfl⟩
instance : BldT Try.prog 24 #[(0, 1), (1, 1), (2, 1)] := ⟨_, Try.underlying24, fun w => by kernel_rfl⟩
instance : ElemT Try.prog 24 [.int .i64 0, .slice none 0 0, .slice none 0 0] 3 56 := ⟨by kernel_rfl⟩
-- laws.Query
instance : AggT Try.prog 25 3 := ⟨⟨_, Try.underlying25, trivial⟩, by kernel_rfl⟩
instance : FldT Try.prog 25 0 0 := ⟨_, _, Try.underlying25, rfl, rfl, by kernel_rfl⟩
instance : FldT Try.prog 25 1 1 := ⟨_, _, Try.underlying25, rfl, rfl, by kernel_rfl⟩
instance : FldT Try.prog 25 2 2 := ⟨_, _, Try.underlying25, rfl, rfl, by kernel_rfl⟩
instance : BldT Try.prog 25 #[(0, 1), (1, 1), (2, 1)] := ⟨_, Try.underlying25, fun w => by kernel_rfl⟩
instance : ElemT Try.prog 25 [.int .i64 0, .slice none 0 0, .slice none 0 0] 3 56 := ⟨by kernel_rfl⟩
-- []impl.Atom
instance : PlainT Try.prog 28 := ⟨_, Try.underlying28, trivial⟩
instance : SliceT Try.prog 28 96 := ⟨Try.underlying28⟩
instance : ElemT Try.prog 28 [.slice none 0 0] 1 24 := ⟨by kernel_rfl⟩
-- struct { VariableCount int; Atoms []impl.Atom; Output []int }
instance : AggT Try.prog 29 3 := ⟨⟨_, Try.underlying29, trivial⟩, by kernel_rfl⟩
instance : FldT Try.prog 29 0 0 := ⟨_, _, Try.underlying29, rfl, rfl, by kernel_rfl⟩
instance : FldT Try.prog 29 1 1 := ⟨_, _, Try.underlying29, rfl, rfl, by kernel_rfl⟩
instance : FldT Try.prog 29 2 2 := ⟨_, _, Try.underlying29, rfl, rfl, by kernel_rfl⟩
instance : BldT Try.prog 29 #[(0, 1), (1, 1), (2, 1)] := ⟨_, Try.underlying29, fun w => by kernel_rfl⟩
instance : ElemT Try.prog 29 [.int .i64 0, .slice none 0 0, .slice none 0 0] 3 56 := ⟨by kernel_rfl⟩
-- impl.Query
instance : AggT Try.prog 30 3 := ⟨⟨_, Try.underlying30, trivial⟩, by kernel_rfl⟩
instance : FldT Try.prog 30 0 0 := ⟨_, _, Try.underlying30, rfl, rfl, by kernel_rfl⟩
instance : FldT Try.prog 30 1 1 := ⟨_, _, Try.underlying30, rfl, rfl, by kernel_rfl⟩
instance : FldT Try.prog 30 2 2 := ⟨_, _, Try.underlying30, rfl, rfl, by kernel_rfl⟩
instance : BldT Try.prog 30 #[(0, 1), (1, 1), (2, 1)] := ⟨_, Try.underlying30, fun w => by kernel_rfl⟩
instance : ElemT Try.prog 30 [.int .i64 0, .slice none 0 0, .slice none 0 0] 3 56 := ⟨by kernel_rfl⟩
-- []laws.Rational
instance : PlainT Try.prog 34 := ⟨_, Try.underlying34, trivial⟩
instance : SliceT Try.prog 34 85 := ⟨Try.underlying34⟩
instance : ElemT Try.prog 34 [.slice none 0 0] 1 24 := ⟨by kernel_rfl⟩
-- []impl.Rational
instance : PlainT Try.prog 38 := ⟨_, Try.underlying38, trivial⟩
instance : SliceT Try.prog 38 83 := ⟨Try.underlying38⟩
instance : ElemT Try.prog 38 [.slice none 0 0] 1 24 := ⟨by kernel_rfl⟩
-- []laws.Table
instance : PlainT Try.prog 43 := ⟨_, Try.underlying43, trivial⟩
instance : SliceT Try.prog 43 128 := ⟨Try.underlying43⟩
instance : ElemT Try.prog 43 [.slice none 0 0] 1 24 := ⟨by kernel_rfl⟩
-- struct { Tables []laws.Table }
instance : AggT Try.prog 44 1 := ⟨⟨_, Try.underlying44, trivial⟩, by kernel_rfl⟩
instance : FldT Try.prog 44 0 0 := ⟨_, _, Try.underlying44, rfl, rfl, by kernel_rfl⟩
instance : BldT Try.prog 44 #[(0, 1)] := ⟨_, Try.underlying44, fun w => by kernel_rfl⟩
instance : ElemT Try.prog 44 [.slice none 0 0] 1 24 := ⟨by kernel_rfl⟩
-- laws.Database
instance : AggT Try.prog 45 1 := ⟨⟨_, Try.underlying45, trivial⟩, by kernel_rfl⟩
instance : FldT Try.prog 45 0 0 := ⟨_, _, Try.underlying45, rfl, rfl, by kernel_rfl⟩
instance : BldT Try.prog 45 #[(0, 1)] := ⟨_, Try.underlying45, fun w => by kernel_rfl⟩
instance : ElemT Try.prog 45 [.slice none 0 0] 1 24 := ⟨by kernel_rfl⟩
-- []impl.Trie
instance : PlainT Try.prog 47 := ⟨_, Try.underlying47, trivial⟩
instance : SliceT Try.prog 47 91 := ⟨Try.underlying47⟩
instance : ElemT Try.prog 47 [.slice none 0 0] 1 24 := ⟨by kernel_rfl⟩
-- []impl.Table
instance : PlainT Try.prog 50 := ⟨_, Try.underlying50, trivial⟩
instance : SliceT Try.prog 50 135 := ⟨Try.underlying50⟩
instance : ElemT Try.prog 50 [.slice none 0 0] 1 24 := ⟨by kernel_rfl⟩
-- struct { Tables []impl.Table }
instance : AggT Try.prog 51 1 := ⟨⟨_, Try.underlying51, trivial⟩, by kernel_rfl⟩
instance : FldT Try.prog 51 0 0 := ⟨_, _, Try.underlying51, rfl, rfl, by kernel_rfl⟩
instance : BldT Try.prog 51 #[(0, 1)] := ⟨_, Try.underlying51, fun w => by kernel_rfl⟩
instance : ElemT Try.prog 51 [.slice none 0 0] 1 24 := ⟨by kernel_rfl⟩
-- impl.Database
instance : AggT Try.prog 52 1 := ⟨⟨_, Try.underlying52, trivial⟩, by kernel_rfl⟩
instance : FldT Try.prog 52 0 0 := ⟨_, _, Try.underlying52, rfl, rfl, by kernel_rfl⟩
instance : BldT Try.prog 52 #[(0, 1)] := ⟨_, Try.underlying52, fun w => by kernel_rfl⟩
instance : ElemT Try.prog 52 [.slice none 0 0] 1 24 := ⟨by kernel_rfl⟩
-- [][]int
instance : PlainT Try.prog 60 := ⟨_, Try.underlying60, trivial⟩
instance : SliceT Try.prog 60 23 := ⟨Try.underlying60⟩
instance : ElemT Try.prog 60 [.slice none 0 0] 1 24 := ⟨by kernel_rfl⟩
-- struct { Arity int; Rows [][]int }
instance : AggT Try.prog 61 2 := ⟨⟨_, Try.underlying61, trivial⟩, by kernel_rfl⟩
instance : FldT Try.prog 61 0 0 := ⟨_, _, Try.underlying61, rfl, rfl, by kernel_rfl⟩
instance : FldT Try.prog 61 1 1 := ⟨_, _, Try.underlying61, rfl, rfl, by kernel_rfl⟩
instance : BldT Try.prog 61 #[(0, 1), (1, 1)] := ⟨_, Try.underlying61, fun w => by kernel_rfl⟩
instance : ElemT Try.prog 61 [.int .i64 0, .slice none 0 0] 2 32 := ⟨by kernel_rfl⟩
-- impl.Relation
instance : AggT Try.prog 62 2 := ⟨⟨_, Try.underlying62, trivial⟩, by kernel_rfl⟩
instance : FldT Try.prog 62 0 0 := ⟨_, _, Try.underlying62, rfl, rfl, by kernel_rfl⟩
instance : FldT Try.prog 62 1 1 := ⟨_, _, Try.underlying62, rfl, rfl, by kernel_rfl⟩
instance : BldT Try.prog 62 #[(0, 1), (1, 1)] := ⟨_, Try.underlying62, fun w => by kernel_rfl⟩
instance : ElemT Try.prog 62 [.int .i64 0, .slice none 0 0] 2 32 := ⟨by kernel_rfl⟩
-- struct { Digits []int }
instance : AggT Try.prog 75 1 := ⟨⟨_, Try.underlying75, trivial⟩, by kernel_rfl⟩
instance : FldT Try.prog 75 0 0 := ⟨_, _, Try.underlying75, rfl, rfl, by kernel_rfl⟩
instance : BldT Try.prog 75 #[(0, 1)] := ⟨_, Try.underlying75, fun w => by kernel_rfl⟩
instance : ElemT Try.prog 75 [.slice none 0 0] 1 24 := ⟨by kernel_rfl⟩
-- impl.BigInt
instance : AggT Try.prog 76 1 := ⟨⟨_, Try.underlying76, trivial⟩, by kernel_rfl⟩
instance : FldT Try.prog 76 0 0 := ⟨_, _, Try.underlying76, rfl, rfl, by kernel_rfl⟩
instance : BldT Try.prog 76 #[(0, 1)] := ⟨_, Try.underlying76, fun w => by kernel_rfl⟩
instance : ElemT Try.prog 76 [.slice none 0 0] 1 24 := ⟨by kernel_rfl⟩
-- struct { Num int; Den int }
instance : AggT Try.prog 82 2 := ⟨⟨_, Try.underlying82, trivial⟩, by kernel_rfl⟩
instance : FldT Try.prog 82 0 0 := ⟨_, _, Try.underlying82, rfl, rfl, by kernel_rfl⟩
instance : FldT Try.prog 82 1 1 := ⟨_, _, Try.underlying82, rfl, rfl, by kernel_rfl⟩
instance : BldT Try.prog 82 #[(0, 1), (1, 1)] := ⟨_, Try.underlying82, fun w => by kernel_rfl⟩
instance : ElemT Try.prog 82 [.int .i64 0, .int .i64 0] 2 16 := ⟨by kernel_rfl⟩
-- impl.Rational
instance : AggT Try.prog 83 2 := ⟨⟨_, Try.underlying83, trivial⟩, by kernel_rfl⟩
instance : FldT Try.prog 83 0 0 := ⟨_, _, Try.underlying83, rfl, rfl, by kernel_rfl⟩
instance : FldT Try.prog 83 1 1 := ⟨_, _, Try.underlying83, rfl, rfl, by kernel_rfl⟩
instance : BldT Try.prog 83 #[(0, 1), (1, 1)] := ⟨_, Try.underlying83, fun w => by kernel_rfl⟩
instance : ElemT Try.prog 83 [.int .i64 0, .int .i64 0] 2 16 := ⟨by kernel_rfl⟩
-- laws.Rational
instance : AggT Try.prog 85 2 := ⟨⟨_, Try.underlying85, trivial⟩, by kernel_rfl⟩
instance : FldT Try.prog 85 0 0 := ⟨_, _, Try.underlying85, rfl, rfl, by kernel_rfl⟩
instance : FldT Try.prog 85 1 1 := ⟨_, _, Try.underlying85, rfl, rfl, by kernel_rfl⟩
instance : BldT Try.prog 85 #[(0, 1), (1, 1)] := ⟨_, Try.underlying85, fun w => by kernel_rfl⟩
instance : ElemT Try.prog 85 [.int .i64 0, .int .i64 0] 2 16 := ⟨by kernel_rfl⟩
-- impl.Trie
instance : AggT Try.prog 91 2 := ⟨⟨_, Try.underlying91, trivial⟩, by kernel_rfl⟩
instance : FldT Try.prog 91 0 0 := ⟨_, _, Try.underlying91, rfl, rfl, by kernel_rfl⟩
instance : FldT Try.prog 91 1 1 := ⟨_, _, Try.underlying91, rfl, rfl, by kernel_rfl⟩
instance : BldT Try.prog 91 #[(0, 1), (1, 1)] := ⟨_, Try.underlying91, fun w => by kernel_rfl⟩
instance : ElemT Try.prog 91 [.int .i64 0, .slice none 0 0] 2 32 := ⟨by kernel_rfl⟩
-- struct { Relation string; Vars []int }
instance : AggT Try.prog 95 2 := ⟨⟨_, Try.underlying95, trivial⟩, by kernel_rfl⟩
instance : FldT Try.prog 95 0 0 := ⟨_, _, Try.underlying95, rfl, rfl, by kernel_rfl⟩
instance : FldT Try.prog 95 1 1 := ⟨_, _, Try.underlying95, rfl, rfl, by kernel_rfl⟩
instance : BldT Try.prog 95 #[(0, 1), (1, 1)] := ⟨_, Try.underlying95, fun w => by kernel_rfl⟩
instance : ElemT Try.prog 95 [.string ByteArray.empty, .slice none 0 0] 2 40 := ⟨by kernel_rfl⟩
-- impl.Atom
instance : AggT Try.prog 96 2 := ⟨⟨_, Try.underlying96, trivial⟩, by kernel_rfl⟩
instance : FldT Try.prog 96 0 0 := ⟨_, _, Try.underlying96, rfl, rfl, by kernel_rfl⟩
instance : FldT Try.prog 96 1 1 := ⟨_, _, Try.underlying96, rfl, rfl, by kernel_rfl⟩
instance : BldT Try.prog 96 #[(0, 1), (1, 1)] := ⟨_, Try.underlying96, fun w => by kernel_rfl⟩
instance : ElemT Try.prog 96 [.string ByteArray.empty, .slice none 0 0] 2 40 := ⟨by kernel_rfl⟩
-- struct { Variables []int; Relation impl.Relation }
instance : AggT Try.prog 104 3 := ⟨⟨_, Try.underlying104, trivial⟩, by kernel_rfl⟩
instance : FldT Try.prog 104 0 0 := ⟨_, _, Try.underlying104, rfl, rfl, by kernel_rfl⟩
instance : FldT Try.prog 104 1 1 := ⟨_, _, Try.underlying104, rfl, rfl, by kernel_rfl⟩
instance : BldT Try.prog 104 #[(0, 1), (1, 2)] := ⟨_, Try.underlying104, fun w => by kernel_rfl⟩
instance : ElemT Try.prog 104 [.slice none 0 0, .int .i64 0, .slice none 0 0] 3 56 := ⟨by kernel_rfl⟩
-- impl.VarRelation
instance : AggT Try.prog 105 3 := ⟨⟨_, Try.underlying105, trivial⟩, by kernel_rfl⟩
instance : FldT Try.prog 105 0 0 := ⟨_, _, Try.underlying105, rfl, rfl, by kernel_rfl⟩
instance : FldT Try.prog 105 1 1 := ⟨_, _, Try.underlying105, rfl, rfl, by kernel_rfl⟩
instance : BldT Try.prog 105 #[(0, 1), (1, 2)] := ⟨_, Try.underlying105, fun w => by kernel_rfl⟩
instance : ElemT Try.prog 105 [.slice none 0 0, .int .i64 0, .slice none 0 0] 3 56 := ⟨by kernel_rfl⟩
-- laws.Atom
instance : AggT Try.prog 113 2 := ⟨⟨_, Try.underlying113, trivial⟩, by kernel_rfl⟩
instance : FldT Try.prog 113 0 0 := ⟨_, _, Try.underlying113, rfl, rfl, by kernel_rfl⟩
instance : FldT Try.prog 113 1 1 := ⟨_, _, Try.underlying113, rfl, rfl, by kernel_rfl⟩
instance : BldT Try.prog 113 #[(0, 1), (1, 1)] := ⟨_, Try.underlying113, fun w => by kernel_rfl⟩
instance : ElemT Try.prog 113 [.string ByteArray.empty, .slice none 0 0] 2 40 := ⟨by kernel_rfl⟩
-- []bool
instance : PlainT Try.prog 118 := ⟨_, Try.underlying118, trivial⟩
instance : SliceT Try.prog 118 4 := ⟨Try.underlying118⟩
instance : ElemT Try.prog 118 [.slice none 0 0] 1 24 := ⟨by kernel_rfl⟩
-- laws.Relation
instance : AggT Try.prog 126 2 := ⟨⟨_, Try.underlying126, trivial⟩, by kernel_rfl⟩
instance : FldT Try.prog 126 0 0 := ⟨_, _, Try.underlying126, rfl, rfl, by kernel_rfl⟩
instance : FldT Try.prog 126 1 1 := ⟨_, _, Try.underlying126, rfl, rfl, by kernel_rfl⟩
instance : BldT Try.prog 126 #[(0, 1), (1, 1)] := ⟨_, Try.underlying126, fun w => by kernel_rfl⟩
instance : ElemT Try.prog 126 [.int .i64 0, .slice none 0 0] 2 32 := ⟨by kernel_rfl⟩
-- struct { Name string; Relation laws.Relation }
instance : AggT Try.prog 127 3 := ⟨⟨_, Try.underlying127, trivial⟩, by kernel_rfl⟩
instance : FldT Try.prog 127 0 0 := ⟨_, _, Try.underlying127, rfl, rfl, by kernel_rfl⟩
instance : FldT Try.prog 127 1 1 := ⟨_, _, Try.underlying127, rfl, rfl, by kernel_rfl⟩
instance : BldT Try.prog 127 #[(0, 1), (1, 2)] := ⟨_, Try.underlying127, fun w => by kernel_rfl⟩
instance : ElemT Try.prog 127 [.string ByteArray.empty, .int .i64 0, .slice none 0 0] 3 48 := ⟨by kernel_rfl⟩
-- laws.Table
instance : AggT Try.prog 128 3 := ⟨⟨_, Try.underlying128, trivial⟩, by kernel_rfl⟩
instance : FldT Try.prog 128 0 0 := ⟨_, _, Try.underlying128, rfl, rfl, by kernel_rfl⟩
instance : FldT Try.prog 128 1 1 := ⟨_, _, Try.underlying128, rfl, rfl, by kernel_rfl⟩
instance : BldT Try.prog 128 #[(0, 1), (1, 2)] := ⟨_, Try.underlying128, fun w => by kernel_rfl⟩
instance : ElemT Try.prog 128 [.string ByteArray.empty, .int .i64 0, .slice none 0 0] 3 48 := ⟨by kernel_rfl⟩
-- struct { Name string; Relation impl.Relation }
instance : AggT Try.prog 134 3 := ⟨⟨_, Try.underlying134, trivial⟩, by kernel_rfl⟩
instance : FldT Try.prog 134 0 0 := ⟨_, _, Try.underlying134, rfl, rfl, by kernel_rfl⟩
instance : FldT Try.prog 134 1 1 := ⟨_, _, Try.underlying134, rfl, rfl, by kernel_rfl⟩
instance : BldT Try.prog 134 #[(0, 1), (1, 2)] := ⟨_, Try.underlying134, fun w => by kernel_rfl⟩
instance : ElemT Try.prog 134 [.string ByteArray.empty, .int .i64 0, .slice none 0 0] 3 48 := ⟨by kernel_rfl⟩
-- impl.Table
instance : AggT Try.prog 135 3 := ⟨⟨_, Try.underlying135, trivial⟩, by kernel_rfl⟩
instance : FldT Try.prog 135 0 0 := ⟨_, _, Try.underlying135, rfl, rfl, by kernel_rfl⟩
instance : FldT Try.prog 135 1 1 := ⟨_, _, Try.underlying135, rfl, rfl, by kernel_rfl⟩
instance : BldT Try.prog 135 #[(0, 1), (1, 2)] := ⟨_, Try.underlying135, fun w => by kernel_rfl⟩
instance : ElemT Try.prog 135 [.string ByteArray.empty, .int .i64 0, .slice none 0 0] 3 48 := ⟨by kernel_rfl⟩
-- []uint8
instance : PlainT Try.prog 153 := ⟨_, Try.underlying153, trivial⟩
instance : SliceT Try.prog 153 5 := ⟨Try.underlying153⟩
instance : ElemT Try.prog 153 [.slice none 0 0] 1 24 := ⟨by kernel_rfl⟩
-- uint32
instance : PlainT Try.prog 163 := ⟨_, Try.underlying163, trivial⟩
instance : ElemT Try.prog 163 [.int .u32 0] 1 4 := ⟨by kernel_rfl⟩
end Go.Proofs.Ytkpeabpdiffjhaa
