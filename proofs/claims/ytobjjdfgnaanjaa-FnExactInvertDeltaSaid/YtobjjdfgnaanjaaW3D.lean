/- What functions of the program come to, written out by a program: none where a bound is passed. -/
import Derived.Test.YtobjjdfgnaanjaaW2D
namespace Go.Proofs.Ytobjjdfgnaanjaa
open Go.RowKit
def impl_copyRows_L1 (N : Nat) : Nat → (List (List Int)) → (List (List Int)) → Int → Int → Option ((List (List Int)) × Int)
  | 0, _, _, _, _ => none
  | k + 1, x203, x207, x208, x209 =>
    (bif decide (x209 < x208) then
    (ix x207 x209).bind fun x216 =>
    (impl_copyInts N x216).bind fun r223 =>
    (apd 24 x203 [r223]).bind fun x234 =>
    (ad x209 1).bind fun x237 =>
    impl_copyRows_L1 N k x234 x207 x208 x237
    else
    some (x203, x209))
def impl_copyRows (N : Nat) (a0 : List (List Int)) : Option (List (List Int)) :=
    (impl_copyRows_L1 N N [] a0 (a0.length : Int) 0).bind fun s244 =>
    lpB s244 fun (x240, x242) =>
    some x240
def impl_copyRelation (N : Nat) (a0 : Int) (a1 : List (List Int)) : Option (Int × List (List Int)) :=
    (impl_copyRows N a1).bind fun r113 =>
    some (a0, r113)
def impl_InvertDelta (N : Nat) (a0 : ByteArray) (a1 : Int) (a2 : List (List Int)) (a3 : Int) (a4 : List (List Int)) : Option (ByteArray × (Int × List (List Int)) × (Int × List (List Int))) :=
    (impl_copyRelation N a3 a4).bind fun r113 =>
    (impl_copyRelation N a1 a2).bind fun r119 =>
    some (a0, (r113.1, r113.2), (r119.1, r119.2))
def laws_markIntS_L1 (N : Nat) : Nat → (List Int) → Int → Int → Option ((List Int) × Int × Int)
  | 0, _, _, _ => none
  | k + 1, x138, x139, x140 =>
    (bif decide (x140 < (x138.length : Int)) then
    (ix x138 x140).bind fun x147 =>
    (sto x138 x140 x139).bind fun x152 =>
    (ad x139 1).bind fun x153 =>
    (ad x140 1).bind fun x154 =>
    laws_markIntS_L1 N k x152 x153 x154
    else
    some (x138, x139, x140))
def laws_markIntS (N : Nat) (a0 : List Int) (a1 : Int) : Option (Int × (List Int)) :=
    (laws_markIntS_L1 N N a0 a1 0).bind fun s160 =>
    lpB s160 fun (x156, x157, x158) =>
    some (x157, x156)
def laws_markIntSS_L1 (N : Nat) : Nat → (List (List Int)) → Int → Int → Option ((List (List Int)) × Int × Int)
  | 0, _, _, _ => none
  | k + 1, x146, x147, x148 =>
    (bif decide (x148 < (x146.length : Int)) then
    (ix x146 x148).bind fun x154 =>
    (laws_markIntS N x154 x147).bind fun r163 =>
    (sto x146 x148 r163.2).bind fun x165 =>
    (ad x148 1).bind fun x166 =>
    laws_markIntSS_L1 N k x165 r163.1 x166
    else
    some (x146, x147, x148))
def laws_markIntSS (N : Nat) (a0 : List (List Int)) (a1 : Int) : Option (Int × (List (List Int))) :=
    (laws_markIntSS_L1 N N a0 a1 0).bind fun s172 =>
    lpB s172 fun (x168, x169, x170) =>
    some (x169, x168)
def laws_markRelation (N : Nat) (a0 : Int) (a1 : List (List Int)) (a2 : Int) : Option (Int × (List (List Int))) :=
    (laws_markIntSS N a1 a2).bind fun r107 =>
    some (r107.1, r107.2)
def laws_markDelta (N : Nat) (a0 : ByteArray) (a1 : Int) (a2 : List (List Int)) (a3 : Int) (a4 : List (List Int)) (a5 : Int) : Option (Int × (List (List Int)) × (List (List Int))) :=
    (laws_markRelation N a1 a2 a5).bind fun r107 =>
    (laws_markRelation N a3 a4 r107.1).bind fun r110 =>
    some (r110.1, r107.2, r110.2)
def laws_heldIntS_L1 (N : Nat) : Nat → (List Int) → Int → Int → Option (Sum Int (Int × Int))
  | 0, _, _, _ => none
  | k + 1, x143, x144, x145 =>
    (bif decide (x145 < (x143.length : Int)) then
    (ix x143 x145).bind fun x153 =>
    (bif (x153 != x144) then
    some (.inl (-1))
    else
    (ad x144 1).bind fun x161 =>
    (ad x145 1).bind fun x162 =>
    laws_heldIntS_L1 N k x143 x161 x162)
    else
    some (.inr (x144, x145)))
def laws_heldIntS (N : Nat) (a0 : List Int) (a1 : Int) : Option Int :=
    (laws_heldIntS_L1 N N a0 a1 0).bind fun s166 =>
    lpS s166 (fun q => some q) fun (x163, x164) =>
    some x163
def laws_heldIntSS_L1 (N : Nat) : Nat → (List (List Int)) → Int → Int → Option (Sum Int (Int × Int))
  | 0, _, _, _ => none
  | k + 1, x149, x150, x151 =>
    (bif decide (x151 < (x149.length : Int)) then
    (ix x149 x151).bind fun x158 =>
    (laws_heldIntS N x158 x150).bind fun r165 =>
    (bif decide (r165 < 0) then
    some (.inl (-1))
    else
    (ad x151 1).bind fun x171 =>
    laws_heldIntSS_L1 N k x149 r165 x171)
    else
    some (.inr (x150, x151)))
def laws_heldIntSS (N : Nat) (a0 : List (List Int)) (a1 : Int) : Option Int :=
    (laws_heldIntSS_L1 N N a0 a1 0).bind fun s175 =>
    lpS s175 (fun q => some q) fun (x172, x173) =>
    some x172
def laws_heldRelation (N : Nat) (a0 : Int) (a1 : List (List Int)) (a2 : Int) : Option Int :=
    (laws_heldIntSS N a1 a2).bind fun r107 =>
    (bif decide (r107 < 0) then
    some (-1)
    else
    some r107)
def laws_heldDelta (N : Nat) (a0 : ByteArray) (a1 : Int) (a2 : List (List Int)) (a3 : Int) (a4 : List (List Int)) (a5 : Int) : Option Int :=
    (laws_heldRelation N a1 a2 a5).bind fun r107 =>
    (bif decide (r107 < 0) then
    some (-1)
    else
    (laws_heldRelation N a3 a4 r107).bind fun r115 =>
    (bif decide (r115 < 0) then
    some (-1)
    else
    some r115))
def laws_FnExactInvertDelta (N : Nat) (a0 : ByteArray) (a1 : Int) (a2 : List (List Int)) (a3 : Int) (a4 : List (List Int)) : Option Bool :=
    (laws_szDelta N a0 a1 a2 a3 a4 1048576).bind fun r108 =>
    (bif decide (r108 < 0) then
    some true
    else
    (laws_toDelta N a0 a1 a2 a3 a4).bind fun r116 =>
    (spec_InvertDelta N r116.1 r116.2.1.1 r116.2.1.2 r116.2.2.1 r116.2.2.2).bind fun r124 =>
    (laws_toDelta N a0 a1 a2 a3 a4).bind fun r138 =>
    (impl_InvertDelta N r138.1 r138.2.1.1 r138.2.1.2 r138.2.2.1 r138.2.2.2).bind fun r152 =>
    (laws_eqDelta N r152.1 r152.2.1.1 r152.2.1.2 r152.2.2.1 r152.2.2.2 r124.1 r124.2.1.1 r124.2.1.2 r124.2.2.1 r124.2.2.2).bind fun r167 =>
    (bif r167 then
    (laws_toDelta N a0 a1 a2 a3 a4).bind fun r175 =>
    (laws_eqDelta N r138.1 r138.2.1.1 r138.2.1.2 r138.2.2.1 r138.2.2.2 r175.1 r175.2.1.1 r175.2.1.2 r175.2.2.1 r175.2.2.2).bind fun r193 =>
    (bif r193 then
    (laws_markDelta N r138.1 r138.2.1.1 r138.2.1.2 r138.2.2.1 r138.2.2.2 1).bind fun r199 =>
    (bif decide (r199.1 < 0) then
    some false
    else
    (laws_eqDelta N r152.1 r152.2.1.1 r152.2.1.2 r152.2.2.1 r152.2.2.2 r124.1 r124.2.1.1 r124.2.1.2 r124.2.2.1 r124.2.2.2).bind fun r205 =>
    (bif r205 then
    (laws_markDelta N r152.1 r152.2.1.1 r152.2.1.2 r152.2.2.1 r152.2.2.2 1).bind fun r211 =>
    (laws_heldDelta N r152.1 r152.2.1.1 r211.2.1 r152.2.2.1 r211.2.2 1).bind fun r215 =>
    (bif decide (r215 < 0) then
    some false
    else
    (bif (r215 != r211.1) then
    some false
    else
    (laws_toDelta N a0 a1 a2 a3 a4).bind fun r227 =>
    (impl_InvertDelta N r227.1 r227.2.1.1 r227.2.1.2 r227.2.2.1 r227.2.2.2).bind fun r235 =>
    (laws_eqDelta N r235.1 r235.2.1.1 r235.2.1.2 r235.2.2.1 r235.2.2.2 r124.1 r124.2.1.1 r124.2.1.2 r124.2.2.1 r124.2.2.2).bind fun r250 =>
    (bif r250 then
    (laws_heldDelta N r152.1 r152.2.1.1 r211.2.1 r152.2.2.1 r211.2.2 1).bind fun r256 =>
    (bif decide (r256 < 0) then
    some false
    else
    (bif (r256 != r211.1) then
    some false
    else
    some true))
    else
    some false)))
    else
    some false))
    else
    some false)
    else
    some false))
end Go.Proofs.Ytobjjdfgnaanjaa
