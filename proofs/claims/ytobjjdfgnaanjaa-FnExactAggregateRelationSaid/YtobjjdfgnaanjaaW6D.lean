/- What functions of the program come to, written out by a program: none where a bound is passed. -/
import Derived.Test.YtobjjdfgnaanjaaW5D
namespace Go.Proofs.Ytobjjdfgnaanjaa
open Go.RowKit
def impl_SemiringMul (N : Nat) (a0 : Int) (a1 : Int) (a2 : Int) : Option Int :=
    (impl_clip N a1).bind fun r101 =>
    (impl_clip N a2).bind fun r104 =>
    (bif (a0 == 1) then
    (ml r101 r104).bind fun x108 =>
    (impl_clip N x108).bind fun r109 =>
    some r109
    else
    (bif (a0 == 4) then
    (ml r101 r104).bind fun x113 =>
    (impl_clip N x113).bind fun r114 =>
    some r114
    else
    (bif (a0 == 2) then
    (ad r101 r104).bind fun x118 =>
    (impl_clip N x118).bind fun r119 =>
    some r119
    else
    (bif (a0 == 3) then
    (bif decide (0 < r101) then
    (impl_bit N (decide (0 < r104))).bind fun r124 =>
    some r124
    else
    (impl_bit N false).bind fun r127 =>
    some r127)
    else
    some 0))))
def impl_IsValidSemiring (N : Nat) (a0 : Int) : Option Bool :=
    (impl_within N a0 1 4).bind fun r101 =>
    some r101
def impl_SemiringZero (N : Nat) (a0 : Int) : Option Int :=
    (bif (a0 == 2) then
    some 1000000000
    else
    some 0)
def impl_SemiringOne (N : Nat) (a0 : Int) : Option Int :=
    (bif (a0 == 1) then
    some 1
    else
    (bif (a0 == 3) then
    some 1
    else
    (bif (a0 == 4) then
    some 1
    else
    some 0)))
def impl_compareInts (N : Nat) (a0 : Int) (a1 : Int) : Option Int :=
    (bif decide (a0 < a1) then
    some (-1)
    else
    (bif decide (a1 < a0) then
    some 1
    else
    some 0))
def impl_CompareRows_L1 (N : Nat) : Nat → (List Int) → (List Int) → Int → Option (Sum Int Int)
  | 0, _, _, _ => none
  | k + 1, x170, x173, x174 =>
    (bif decide (x174 < (x170.length : Int)) then
    (bif decide (x174 < (x173.length : Int)) then
    (ix x170 x174).bind fun x177 =>
    (ix x173 x174).bind fun x183 =>
    (bif (x177 != x183) then
    (ix x170 x174).bind fun x192 =>
    (ix x173 x174).bind fun x198 =>
    (impl_compareInts N x192 x198).bind fun r204 =>
    some (.inl r204)
    else
    (ad x174 1).bind fun x207 =>
    impl_CompareRows_L1 N k x170 x173 x207)
    else
    some (.inr x174))
    else
    some (.inr x174))
def impl_CompareRows (N : Nat) (a0 : List Int) (a1 : List Int) : Option Int :=
    (impl_CompareRows_L1 N N a0 a1 0).bind fun s212 =>
    lpS s212 (fun q => some q) fun x208 =>
    (impl_compareInts N (a0.length : Int) (a1.length : Int)).bind fun r209 =>
    some r209
def impl_rowsValid_L1 (N : Nat) : Nat → Int → (List (List Int)) → (List (List Int)) → Int → Int → Option (Sum Bool Int)
  | 0, _, _, _, _, _ => none
  | k + 1, x163, x166, x169, x170, x171 =>
    (bif decide (x171 < x170) then
    (ix x169 x171).bind fun x173 =>
    (bif ((x173.length : Int) != x163) then
    some (.inl false)
    else
    (impl_AreValidValues N x173).bind fun r181 =>
    (bif r181 then
    (bif decide (0 < x171) then
    (sb x171 1).bind fun x186 =>
    (ix x166 x186).bind fun x187 =>
    (impl_CompareRows N x187 x173).bind fun r194 =>
    (bif decide (0 ≤ r194) then
    some (.inl false)
    else
    (ad x171 1).bind fun x198 =>
    impl_rowsValid_L1 N k x163 x166 x169 x170 x198)
    else
    (ad x171 1).bind fun x199 =>
    impl_rowsValid_L1 N k x163 x166 x169 x170 x199)
    else
    some (.inl false)))
    else
    some (.inr x171))
def impl_rowsValid (N : Nat) (a0 : Int) (a1 : List (List Int)) : Option Bool :=
    (impl_within N a0 0 5).bind fun r101 =>
    (bif r101 then
    (bif decide (4000 < (a1.length : Int)) then
    some false
    else
    (impl_rowsValid_L1 N N a0 a1 a1 (a1.length : Int) 0).bind fun s201 =>
    lpS s201 (fun q => some q) fun x200 =>
    some true)
    else
    some false)
def impl_IsValidRelation (N : Nat) (a0 : Int) (a1 : List (List Int)) : Option Bool :=
    (impl_rowsValid N a0 a1).bind fun r105 =>
    some r105
def impl_ValueWeight (N : Nat) (a0 : Int) (a1 : Int) (a2 : Int) : Option Int :=
    (impl_IsValidSemiring N a0).bind fun r101 =>
    (bif r101 then
    (impl_within N a1 0 4).bind fun r105 =>
    (bif r105 then
    (impl_within N a2 0 99).bind fun r109 =>
    (bif r109 then
    (bif (a0 == 1) then
    (ad a2 a1).bind fun x114 =>
    (rm x114 2).bind fun x115 =>
    (ad 1 x115).bind fun x116 =>
    some x116
    else
    (bif (a0 == 3) then
    (ad a2 a1).bind fun x118 =>
    (rm x118 4).bind fun x119 =>
    some (imn 1 x119)
    else
    (ml 3 a2).bind fun x120 =>
    (ad x120 a1).bind fun x121 =>
    (rm x121 5).bind fun x122 =>
    (ad 1 x122).bind fun x123 =>
    some x123))
    else
    some 0)
    else
    some 0)
    else
    some 0)
def impl_AggregateRelation_L2 (N : Nat) : Nat → Int → Int → Int → (List (List Int)) → Int → Int → (List Int) → Int → Int → Option (Int × Int)
  | 0, _, _, _, _, _, _, _, _, _ => none
  | k + 1, x200, x201, x202, x205, x206, x207, x210, x211, x212 =>
    (bif decide (x212 < x211) then
    (ix x210 x212).bind fun x214 =>
    (impl_ValueWeight N x200 x212 x214).bind fun r220 =>
    (impl_SemiringMul N x200 x202 r220).bind fun r223 =>
    (ad x212 1).bind fun x226 =>
    impl_AggregateRelation_L2 N k x200 x201 r223 x205 x206 x207 x210 x211 x226
    else
    some (x202, x212))
def impl_AggregateRelation_L1 (N : Nat) : Nat → Int → Int → (List (List Int)) → Int → Int → Option (Int × Int)
  | 0, _, _, _, _, _ => none
  | k + 1, x182, x183, x186, x187, x188 =>
    (bif decide (x188 < x187) then
    (ix x186 x188).bind fun x190 =>
    (impl_SemiringOne N x182).bind fun r197 =>
    (impl_AggregateRelation_L2 N N x182 x183 r197 x186 x187 x188 x190 (x190.length : Int) 0).bind fun (x227, x228) =>
    (impl_SemiringAdd N x182 x183 x227).bind fun r229 =>
    (ad x188 1).bind fun x232 =>
    impl_AggregateRelation_L1 N k x182 r229 x186 x187 x232
    else
    some (x183, x188))
def impl_AggregateRelation (N : Nat) (a0 : Int) (a1 : Int) (a2 : List (List Int)) : Option Int :=
    (impl_SemiringZero N a0).bind fun r105 =>
    (impl_IsValidSemiring N a0).bind fun r108 =>
    (bif r108 then
    (impl_IsValidRelation N a1 a2).bind fun r112 =>
    (bif r112 then
    (impl_AggregateRelation_L1 N N a0 r105 a2 (a2.length : Int) 0).bind fun (x233, x234) =>
    some x233
    else
    some r105)
    else
    some r105)
def laws_FnExactAggregateRelation (N : Nat) (a0 : Int) (a1 : Int) (a2 : List (List Int)) : Option Bool :=
    (laws_szRelation N a1 a2 1048576).bind fun r105 =>
    (bif decide (r105 < 0) then
    some true
    else
    (laws_toRelation N a1 a2).bind fun r109 =>
    (spec_AggregateRelation N a0 r109.1 r109.2).bind fun r114 =>
    (laws_toRelation N a1 a2).bind fun r117 =>
    (impl_AggregateRelation N a0 r117.1 r117.2).bind fun r127 =>
    (bif (r127 != r114) then
    some false
    else
    (laws_toRelation N a1 a2).bind fun r133 =>
    (laws_eqRelation N r117.1 r117.2 r133.1 r133.2).bind fun r141 =>
    (bif r141 then
    some true
    else
    some false)))
def laws_big (N : Nat) (a0 : List Int) : Option Bool :=
    some (decide (1048576 < (a0.length : Int)))
end Go.Proofs.Ytobjjdfgnaanjaa
