/- What functions of the program come to, written out by a program: none where a bound is passed. -/
import Derived.Test.YtnanddmadghnnaaN
namespace Go.Proofs.Ytnanddmadghnnaa
open Go.RowKit
def laws_szIntS (N : Nat) (a0 : List Int) (a1 : Int) : Option Int :=
    (sb a1 (a0.length : Int)).bind fun x103 =>
    (bif decide (x103 < 0) then
    some (-1)
    else
    some x103)
def laws_szIntSS_L1 (N : Nat) : Nat → (List (List Int)) → Int → Int → Option (Sum Int (Int × Int))
  | 0, _, _, _ => none
  | k + 1, x155, x156, x157 =>
    (bif decide (x157 < (x155.length : Int)) then
    (ix x155 x157).bind fun x164 =>
    (laws_szIntS N x164 x156).bind fun r171 =>
    (bif decide (r171 < 0) then
    some (.inl (-1))
    else
    (ad x157 1).bind fun x177 =>
    laws_szIntSS_L1 N k x155 r171 x177)
    else
    some (.inr (x156, x157)))
def laws_szIntSS (N : Nat) (a0 : List (List Int)) (a1 : Int) : Option Int :=
    (sb a1 (a0.length : Int)).bind fun x103 =>
    (bif decide (x103 < 0) then
    some (-1)
    else
    (laws_szIntSS_L1 N N a0 x103 0).bind fun s181 =>
    lpS s181 (fun q => some q) fun (x178, x179) =>
    some x178)
def spec_IsStrictlyAscending_L1 (N : Nat) : Nat → (List Int) → Int → Option (Sum Bool Int)
  | 0, _, _ => none
  | k + 1, x156, x157 =>
    (bif decide (x157 < (x156.length : Int)) then
    (ix x156 x157).bind fun x164 =>
    (sb x157 1).bind fun x170 =>
    (ix x156 x170).bind fun x171 =>
    (bif decide (x164 ≤ x171) then
    some (.inl false)
    else
    (ad x157 1).bind fun x181 =>
    spec_IsStrictlyAscending_L1 N k x156 x181)
    else
    some (.inr x157))
def spec_IsStrictlyAscending (N : Nat) (a0 : List Int) : Option Bool :=
    (spec_IsStrictlyAscending_L1 N N a0 1).bind fun s184 =>
    lpS s184 (fun q => some q) fun x182 =>
    some true
def spec_l18All_L1 (N : Nat) : Nat → (List (List Int)) → Int → Option (Sum Bool Int)
  | 0, _, _ => none
  | k + 1, x146, x147 =>
    (bif decide (x147 < (x146.length : Int)) then
    (ix x146 x147).bind fun x154 =>
    (spec_IsStrictlyAscending N x154).bind fun r161 =>
    (bif r161 then
    (ad x147 1).bind fun x165 =>
    spec_l18All_L1 N k x146 x165
    else
    some (.inl false))
    else
    some (.inr x147))
def spec_l18All (N : Nat) (a0 : List (List Int)) : Option Bool :=
    (spec_l18All_L1 N N a0 0).bind fun s169 =>
    lpS s169 (fun q => some q) fun x167 =>
    some (decide (0 < (a0.length : Int)))
def spec_l7Find_L1 (N : Nat) : Nat → (List Int) → Int → Int → Option (Sum Int Int)
  | 0, _, _, _ => none
  | k + 1, x138, x139, x140 =>
    (bif decide (x140 < (x138.length : Int)) then
    (ix x138 x140).bind fun x147 =>
    (bif (x147 == x139) then
    some (.inl x140)
    else
    (ad x140 1).bind fun x155 =>
    spec_l7Find_L1 N k x138 x139 x155)
    else
    some (.inr x140))
def spec_l7Find (N : Nat) (a0 : List Int) (a1 : Int) : Option Int :=
    (spec_l7Find_L1 N N a0 a1 0).bind fun s158 =>
    lpS s158 (fun q => some q) fun x156 =>
    some (-1)
def spec_IntersectByLookup_L1 (N : Nat) : Nat → (List (List Int)) → (List Int) → Int → Int → Int → Option (Int × Int)
  | 0, _, _, _, _, _ => none
  | k + 1, x172, x175, x176, x177, x178 =>
    (bif decide (x178 < (x172.length : Int)) then
    (ix x172 x178).bind fun x185 =>
    (ix x172 x177).bind fun x192 =>
    (bif decide ((x185.length : Int) < (x192.length : Int)) then
    (ad x178 1).bind fun x202 =>
    spec_IntersectByLookup_L1 N k x172 x175 x176 x178 x202
    else
    (ad x178 1).bind fun x203 =>
    spec_IntersectByLookup_L1 N k x172 x175 x176 x177 x203)
    else
    some (x177, x178))
def spec_IntersectByLookup_L3 (N : Nat) : Nat → (List (List Int)) → (List Int) → Int → Int → Int → Bool → Int → Option (Int × Bool × Int)
  | 0, _, _, _, _, _, _, _ => none
  | k + 1, x453, x456, x457, x458, x459, x460, x461 =>
    (bif decide (x461 < (x453.length : Int)) then
    (bif x460 then
    (bif (x461 != x458) then
    (ad x457 1).bind fun x471 =>
    (ix x453 x461).bind fun x472 =>
    (ix x453 x458).bind fun x479 =>
    (ix x479 x459).bind fun x486 =>
    (spec_l7Find N x472 x486).bind fun r492 =>
    (ad x461 1).bind fun x495 =>
    spec_IntersectByLookup_L3 N k x453 x456 x471 x458 x459 (decide (0 ≤ r492)) x495
    else
    (ad x461 1).bind fun x496 =>
    spec_IntersectByLookup_L3 N k x453 x456 x457 x458 x459 x460 x496)
    else
    some (x457, x460, x461))
    else
    some (x457, x460, x461))
def spec_IntersectByLookup_L2 (N : Nat) : Nat → (List (List Int)) → (List Int) → Int → Int → Int → Option ((List Int) × Int × Int)
  | 0, _, _, _, _, _ => none
  | k + 1, x428, x431, x432, x433, x434 =>
    (ix x428 x433).bind fun x437 =>
    (bif decide (x434 < (x437.length : Int)) then
    (spec_IntersectByLookup_L3 N N x428 x431 x432 x433 x434 true 0).bind fun s526 =>
    lpB s526 fun (x497, x498, x499) =>
    (bif x498 then
    (ix x428 x433).bind fun x502 =>
    (ix x502 x434).bind fun x509 =>
    (apd 8 x431 [x509]).bind fun x521 =>
    (ad x434 1).bind fun x524 =>
    spec_IntersectByLookup_L2 N k x428 x521 x497 x433 x524
    else
    (ad x434 1).bind fun x525 =>
    spec_IntersectByLookup_L2 N k x428 x431 x497 x433 x525)
    else
    some (x431, x432, x434))
def spec_IntersectByLookup (N : Nat) (a0 : List (List Int)) : Option ((List Int) × Int) :=
    (spec_l18All N a0).bind fun r110 =>
    (bif r110 then
    (spec_IntersectByLookup_L1 N N a0 [] 0 0 1).bind fun s534 =>
    lpB s534 fun (x204, x205) =>
    (spec_IntersectByLookup_L2 N N a0 [] 0 x204 0).bind fun s533 =>
    lpB s533 fun (x529, x530, x531) =>
    some (x529, x530)
    else
    some ([], 0))
def laws_toIntS_L1 (N : Nat) : Nat → (List Int) → (List Int) → Int → Option ((List Int) × Int)
  | 0, _, _, _ => none
  | k + 1, x154, x157, x158 =>
    (bif decide (x158 < (x154.length : Int)) then
    (ix x154 x158).bind fun x164 =>
    (ix x157 x158).bind fun x170 =>
    (sto x157 x158 x164).bind fun x175 =>
    (ad x158 1).bind fun x176 =>
    laws_toIntS_L1 N k x154 x175 x176
    else
    some (x157, x158))
def laws_toIntS (N : Nat) (a0 : List Int) : Option (List Int) :=
    (mk 8 (0 : Int) (a0.length : Int)).bind fun x106 =>
    (laws_toIntS_L1 N N a0 x106 0).bind fun s182 =>
    lpB s182 fun (x179, x180) =>
    some x179
def laws_toIntSS_L1 (N : Nat) : Nat → (List (List Int)) → (List (List Int)) → Int → Option ((List (List Int)) × Int)
  | 0, _, _, _ => none
  | k + 1, x176, x179, x180 =>
    (bif decide (x180 < (x176.length : Int)) then
    (ix x176 x180).bind fun x186 =>
    (laws_toIntS N x186).bind fun r193 =>
    (ix x179 x180).bind fun x198 =>
    (sto x179 x180 r193).bind fun x207 =>
    (ad x180 1).bind fun x209 =>
    laws_toIntSS_L1 N k x176 x207 x209
    else
    some (x179, x180))
def laws_toIntSS (N : Nat) (a0 : List (List Int)) : Option (List (List Int)) :=
    (mk 24 ([] : List Int) (a0.length : Int)).bind fun x106 =>
    (laws_toIntSS_L1 N N a0 x106 0).bind fun s215 =>
    lpB s215 fun (x212, x213) =>
    some x212
def impl_IsStrictlyAscending_L1 (N : Nat) : Nat → (List Int) → Int → Option (Sum Bool Int)
  | 0, _, _ => none
  | k + 1, x156, x157 =>
    (bif decide (x157 < (x156.length : Int)) then
    (sb x157 1).bind fun x164 =>
    (ix x156 x164).bind fun x165 =>
    (ix x156 x157).bind fun x171 =>
    (bif decide (x171 ≤ x165) then
    some (.inl false)
    else
    (ad x157 1).bind fun x181 =>
    impl_IsStrictlyAscending_L1 N k x156 x181)
    else
    some (.inr x157))
def impl_IsStrictlyAscending (N : Nat) (a0 : List Int) : Option Bool :=
    (impl_IsStrictlyAscending_L1 N N a0 1).bind fun s184 =>
    lpS s184 (fun q => some q) fun x182 =>
    some true
def impl_ascendingLists_L1 (N : Nat) : Nat → (List (List Int)) → (List (List Int)) → Int → Int → Option (Sum Bool Int)
  | 0, _, _, _, _ => none
  | k + 1, x148, x151, x152, x153 =>
    (bif decide (x153 < x152) then
    (ix x151 x153).bind fun x160 =>
    (impl_IsStrictlyAscending N x160).bind fun r168 =>
    (bif r168 then
    (ad x153 1).bind fun x172 =>
    impl_ascendingLists_L1 N k x148 x151 x152 x172
    else
    some (.inl false))
    else
    some (.inr x153))
def impl_ascendingLists (N : Nat) (a0 : List (List Int)) : Option Bool :=
    (impl_ascendingLists_L1 N N a0 a0 (a0.length : Int) 0).bind fun s176 =>
    lpS s176 (fun q => some q) fun x174 =>
    some (decide (0 < (a0.length : Int)))
def impl_indexOf_L1 (N : Nat) : Nat → Int → (List Int) → Int → Int → Option (Sum Int Int)
  | 0, _, _, _, _ => none
  | k + 1, x138, x141, x142, x143 =>
    (bif decide (x143 < x142) then
    (ix x141 x143).bind fun x150 =>
    (bif (x150 == x138) then
    some (.inl x143)
    else
    (ad x143 1).bind fun x159 =>
    impl_indexOf_L1 N k x138 x141 x142 x159)
    else
    some (.inr x143))
def impl_indexOf (N : Nat) (a0 : List Int) (a1 : Int) : Option Int :=
    (impl_indexOf_L1 N N a1 a0 (a0.length : Int) 0).bind fun s162 =>
    lpS s162 (fun q => some q) fun x160 =>
    some (-1)
def impl_hasInt (N : Nat) (a0 : List Int) (a1 : Int) : Option Bool :=
    (impl_indexOf N a0 a1).bind fun r103 =>
    some (decide (0 ≤ r103))
end Go.Proofs.Ytnanddmadghnnaa
