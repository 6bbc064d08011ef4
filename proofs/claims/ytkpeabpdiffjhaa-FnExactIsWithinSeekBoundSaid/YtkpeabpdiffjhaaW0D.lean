/- What functions of the program come to, written out by a program: none where a bound is passed. -/
import Derived.Test.YtkpeabpdiffjhaaN
namespace Go.Proofs.Ytkpeabpdiffjhaa
open Go.RowKit
def laws_szIntS (N : Nat) (a0 : List Int) (a1 : Int) : Option Int :=
    (sb a1 (a0.length : Int)).bind fun x103 =>
    (bif decide (x103 < 0) then
    some (-1)
    else
    some x103)
def laws_szAtom (N : Nat) (a0 : ByteArray) (a1 : List Int) (a2 : Int) : Option Int :=
    (sb a2 (a0.size : Int)).bind fun x107 =>
    (bif decide (x107 < 0) then
    some (-1)
    else
    (laws_szIntS N a1 x107).bind fun r113 =>
    (bif decide (r113 < 0) then
    some (-1)
    else
    some r113))
def laws_szAtomS_L1 (N : Nat) : Nat → (List (ByteArray × List Int)) → Int → Int → Option (Sum Int (Int × Int))
  | 0, _, _, _ => none
  | k + 1, x161, x162, x163 =>
    (bif decide (x163 < (x161.length : Int)) then
    (ix x161 x163).bind fun x170 =>
    (laws_szAtom N x170.1 x170.2 x162).bind fun r180 =>
    (bif decide (r180 < 0) then
    some (.inl (-1))
    else
    (ad x163 1).bind fun x186 =>
    laws_szAtomS_L1 N k x161 r180 x186)
    else
    some (.inr (x162, x163)))
def laws_szAtomS (N : Nat) (a0 : List (ByteArray × List Int)) (a1 : Int) : Option Int :=
    (sb a1 (a0.length : Int)).bind fun x103 =>
    (bif decide (x103 < 0) then
    some (-1)
    else
    (laws_szAtomS_L1 N N a0 x103 0).bind fun s190 =>
    lpS s190 (fun q => some q) fun (x187, x188) =>
    some x187)
def laws_szQuery (N : Nat) (a0 : Int) (a1 : List (ByteArray × List Int)) (a2 : List Int) (a3 : Int) : Option Int :=
    (laws_szAtomS N a1 a3).bind fun r107 =>
    (bif decide (r107 < 0) then
    some (-1)
    else
    (laws_szIntS N a2 r107).bind fun r115 =>
    (bif decide (r115 < 0) then
    some (-1)
    else
    some r115))
def spec_l1In (N : Nat) (a0 : Int) (a1 : Int) (a2 : Int) : Option Bool :=
    (bif decide (a1 ≤ a0) then
    some (decide (a0 ≤ a2))
    else
    some false)
def spec_IsValidName_L1 (N : Nat) : Nat → ByteArray → Int → Option (Sum Bool Int)
  | 0, _, _ => none
  | k + 1, x132, x133 =>
    (bif decide (x133 < (x132.size : Int)) then
    (bx x132 x133).bind fun x140 =>
    (bif decide (x140 < 97) then
    some (.inl false)
    else
    (bx x132 x133).bind fun x143 =>
    (bif decide (122 < x143) then
    some (.inl false)
    else
    (ad x133 1).bind fun x146 =>
    spec_IsValidName_L1 N k x132 x146))
    else
    some (.inr x133))
def spec_IsValidName (N : Nat) (a0 : ByteArray) : Option Bool :=
    (spec_IsValidName_L1 N N a0 0).bind fun s152 =>
    lpS s152 (fun q => some q) fun x147 =>
    (spec_l1In N (a0.size : Int) 1 4).bind fun r149 =>
    some r149
def spec_ContainsVariable_L1 (N : Nat) : Nat → Int → ByteArray → (List Int) → Int → Option (Sum Bool Int)
  | 0, _, _, _, _ => none
  | k + 1, x140, x141, x144, x145 =>
    (bif decide (x145 < (x144.length : Int)) then
    (ix x144 x145).bind fun x152 =>
    (bif (x152 == x140) then
    some (.inl true)
    else
    (ad x145 1).bind fun x160 =>
    spec_ContainsVariable_L1 N k x140 x141 x144 x160)
    else
    some (.inr x145))
def spec_ContainsVariable (N : Nat) (a0 : ByteArray) (a1 : List Int) (a2 : Int) : Option Bool :=
    (spec_ContainsVariable_L1 N N a2 a0 a1 0).bind fun s163 =>
    lpS s163 (fun q => some q) fun x161 =>
    some false
def spec_l7Find_L1 (N : Nat) : Nat → (List Int) → Int → Int → Option (Sum Int Int)
  | 0, _, _, _ => none
  | k + 1, x138, x139, x140 =>
    (bif decide (x140 < (x138.length : Int)) then
    (ix x138 x140).bind fun x147 =>
    (bif (x147 == x139) then
    some (.inl x140)
    else
    (ad x140 1).bind fun x155 =>
    spec_l7Find_L1 N k x138 x139 x155)
    else
    some (.inr x140))
def spec_l7Find (N : Nat) (a0 : List Int) (a1 : Int) : Option Int :=
    (spec_l7Find_L1 N N a0 a1 0).bind fun s158 =>
    lpS s158 (fun q => some q) fun x156 =>
    some (-1)
def spec_IsValidQuery_L2 (N : Nat) : Nat → Int → (List (ByteArray × List Int)) → (List Int) → Int → Int → Option (Sum Bool Int)
  | 0, _, _, _, _, _ => none
  | k + 1, x328, x331, x334, x335, x336 =>
    (ix x331 x335).bind fun x339 =>
    (bif decide (x336 < (x339.2.length : Int)) then
    (ix x331 x335).bind fun x353 =>
    (ix x353.2 x336).bind fun x363 =>
    (sb x328 1).bind fun x369 =>
    (spec_l1In N x363 0 x369).bind fun r370 =>
    (bif r370 then
    (ad x336 1).bind fun x374 =>
    spec_IsValidQuery_L2 N k x328 x331 x334 x335 x374
    else
    some (.inl false))
    else
    some (.inr x336))
def spec_IsValidQuery_L1 (N : Nat) : Nat → Int → (List (ByteArray × List Int)) → (List Int) → Int → Option (Sum Bool Int)
  | 0, _, _, _, _ => none
  | k + 1, x283, x286, x289, x290 =>
    (bif decide (x290 < (x286.length : Int)) then
    (ix x286 x290).bind fun x298 =>
    (spec_IsValidName N x298.1).bind fun r308 =>
    (bif r308 then
    (ix x286 x290).bind fun x312 =>
    (spec_l1In N (x312.2.length : Int) 1 5).bind fun r322 =>
    (bif r322 then
    (spec_IsValidQuery_L2 N N x283 x286 x289 x290 0).bind fun s378 =>
    lpS s378 (fun q => some (.inl q)) fun x376 =>
    (ad x290 1).bind fun x377 =>
    spec_IsValidQuery_L1 N k x283 x286 x289 x377
    else
    some (.inl false))
    else
    some (.inl false))
    else
    some (.inr x290))
def spec_IsValidQuery_L4 (N : Nat) : Nat → Int → (List (ByteArray × List Int)) → (List Int) → Int → Bool → Int → Option (Bool × Int)
  | 0, _, _, _, _, _, _ => none
  | k + 1, x475, x478, x481, x482, x483, x484 =>
    (bif decide (x484 < (x478.length : Int)) then
    (bif x483 then
    (ad x484 1).bind fun x491 =>
    spec_IsValidQuery_L4 N k x475 x478 x481 x482 true x491
    else
    (ix x478 x484).bind fun x492 =>
    (spec_ContainsVariable N x492.1 x492.2 x482).bind fun r502 =>
    (ad x484 1).bind fun x505 =>
    spec_IsValidQuery_L4 N k x475 x478 x481 x482 r502 x505)
    else
    some (x483, x484))
def spec_IsValidQuery_L3 (N : Nat) : Nat → Int → (List (ByteArray × List Int)) → (List Int) → Int → Option (Sum Bool Int)
  | 0, _, _, _, _ => none
  | k + 1, x458, x461, x464, x465 =>
    (bif decide (x465 < x458) then
    (spec_IsValidQuery_L4 N N x458 x461 x464 x465 false 0).bind fun s512 =>
    lpB s512 fun (x506, x507) =>
    (bif x506 then
    (ad x465 1).bind fun x510 =>
    spec_IsValidQuery_L3 N k x458 x461 x464 x510
    else
    some (.inl false))
    else
    some (.inr x465))
def spec_IsValidQuery_L5 (N : Nat) : Nat → Int → (List (ByteArray × List Int)) → (List Int) → Int → Option (Sum Bool Int)
  | 0, _, _, _, _ => none
  | k + 1, x584, x587, x590, x591 =>
    (bif decide (x591 < (x590.length : Int)) then
    (ix x590 x591).bind fun x598 =>
    (sb x584 1).bind fun x604 =>
    (spec_l1In N x598 0 x604).bind fun r605 =>
    (bif r605 then
    (slc x590 0 x591).bind fun x607 =>
    (ix x590 x591).bind fun x610 =>
    (spec_l7Find N x607 x610).bind fun r616 =>
    (bif decide (0 ≤ r616) then
    some (.inl false)
    else
    (ad x591 1).bind fun x621 =>
    spec_IsValidQuery_L5 N k x584 x587 x590 x621)
    else
    some (.inl false))
    else
    some (.inr x591))
def spec_IsValidQuery (N : Nat) (a0 : Int) (a1 : List (ByteArray × List Int)) (a2 : List Int) : Option Bool :=
    (spec_l1In N a0 1 5).bind fun r108 =>
    (bif r108 then
    (spec_l1In N (a1.length : Int) 1 4).bind fun r112 =>
    (bif r112 then
    (bif decide (a0 < (a2.length : Int)) then
    some false
    else
    (spec_IsValidQuery_L1 N N a0 a1 a2 0).bind fun s629 =>
    lpS s629 (fun q => some q) fun x381 =>
    (spec_IsValidQuery_L3 N N a0 a1 a2 0).bind fun s628 =>
    lpS s628 (fun q => some q) fun x513 =>
    (spec_IsValidQuery_L5 N N a0 a1 a2 0).bind fun s627 =>
    lpS s627 (fun q => some q) fun x625 =>
    some true)
    else
    some false)
    else
    some false)
def spec_SeekBound (N : Nat) (a0 : Int) (a1 : List (ByteArray × List Int)) (a2 : List Int) (a3 : Int) : Option Int :=
    (spec_IsValidQuery N a0 a1 a2).bind fun r108 =>
    (bif r108 then
    (spec_l1In N a3 0 1000000).bind fun r112 =>
    (bif r112 then
    (ml 2 a0).bind fun x117 =>
    (ml x117 (a1.length : Int)).bind fun x118 =>
    (ml x118 a3).bind fun x119 =>
    some x119
    else
    some 0)
    else
    some 0)
def laws_toIntS_L1 (N : Nat) : Nat → (List Int) → (List Int) → Int → Option ((List Int) × Int)
  | 0, _, _, _ => none
  | k + 1, x154, x157, x158 =>
    (bif decide (x158 < (x154.length : Int)) then
    (ix x154 x158).bind fun x164 =>
    (ix x157 x158).bind fun x170 =>
    (sto x157 x158 x164).bind fun x175 =>
    (ad x158 1).bind fun x176 =>
    laws_toIntS_L1 N k x154 x175 x176
    else
    some (x157, x158))
def laws_toIntS (N : Nat) (a0 : List Int) : Option (List Int) :=
    (mk 8 (0 : Int) (a0.length : Int)).bind fun x106 =>
    (laws_toIntS_L1 N N a0 x106 0).bind fun s182 =>
    lpB s182 fun (x179, x180) =>
    some x179
def laws_toAtom (N : Nat) (a0 : ByteArray) (a1 : List Int) : Option (ByteArray × List Int) :=
    (laws_toIntS N a1).bind fun r118 =>
    some (a0, r118)
end Go.Proofs.Ytkpeabpdiffjhaa
