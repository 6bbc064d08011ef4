/- What functions of the program come to, written out by a program: none where a bound is passed. -/
import Derived.Test.YtobjjdfgnaanjaaR
namespace Go.Proofs.Ytobjjdfgnaanjaa
open Go.RowKit
def laws_szIntS (N : Nat) (a0 : List Int) (a1 : Int) : Option Int :=
    (sb a1 (a0.length : Int)).bind fun x101 =>
    (bif decide (x101 < 0) then
    some (-1)
    else
    some x101)
def laws_szFactorNode (N : Nat) (a0 : List Int) (a1 : List Int) (a2 : Int) : Option Int :=
    (laws_szIntS N a0 a2).bind fun r105 =>
    (bif decide (r105 < 0) then
    some (-1)
    else
    (laws_szIntS N a1 r105).bind fun r109 =>
    (bif decide (r109 < 0) then
    some (-1)
    else
    some r109))
def laws_szFactorNodeS_L1 (N : Nat) : Nat → (List (List Int × List Int)) → Int → Int → Option (Sum Int (Int × Int))
  | 0, _, _, _ => none
  | k + 1, x139, x140, x141 =>
    (bif decide (x141 < (x139.length : Int)) then
    (ix x139 x141).bind fun x143 =>
    (laws_szFactorNode N x143.1 x143.2 x140).bind fun r153 =>
    (bif decide (r153 < 0) then
    some (.inl (-1))
    else
    (ad x141 1).bind fun x157 =>
    laws_szFactorNodeS_L1 N k x139 r153 x157)
    else
    some (.inr (x140, x141)))
def laws_szFactorNodeS (N : Nat) (a0 : List (List Int × List Int)) (a1 : Int) : Option Int :=
    (sb a1 (a0.length : Int)).bind fun x101 =>
    (bif decide (x101 < 0) then
    some (-1)
    else
    (laws_szFactorNodeS_L1 N N a0 x101 0).bind fun s160 =>
    lpS s160 (fun q => some q) fun (x158, x159) =>
    some x158)
def laws_szFactorization (N : Nat) (a0 : List Int) (a1 : List (List Int × List Int)) (a2 : Int) : Option Int :=
    (laws_szIntS N a0 a2).bind fun r105 =>
    (bif decide (r105 < 0) then
    some (-1)
    else
    (laws_szFactorNodeS N a1 r105).bind fun r109 =>
    (bif decide (r109 < 0) then
    some (-1)
    else
    some r109))
def spec_CompareRows_L1 (N : Nat) : Nat → (List Int) → (List Int) → Int → Option (Sum Int Int)
  | 0, _, _, _ => none
  | k + 1, x170, x173, x174 =>
    (bif decide (x174 < (x170.length : Int)) then
    (bif decide (x174 < (x173.length : Int)) then
    (ix x170 x174).bind fun x177 =>
    (ix x173 x174).bind fun x183 =>
    (bif decide (x177 < x183) then
    some (.inl (-1))
    else
    (ix x170 x174).bind fun x192 =>
    (ix x173 x174).bind fun x198 =>
    (bif decide (x198 < x192) then
    some (.inl 1)
    else
    (ad x174 1).bind fun x207 =>
    spec_CompareRows_L1 N k x170 x173 x207))
    else
    some (.inr x174))
    else
    some (.inr x174))
def spec_CompareRows (N : Nat) (a0 : List Int) (a1 : List Int) : Option Int :=
    (spec_CompareRows_L1 N N a0 a1 0).bind fun s211 =>
    lpS s211 (fun q => some q) fun x208 =>
    (bif decide ((a0.length : Int) < (a1.length : Int)) then
    some (-1)
    else
    (bif decide ((a1.length : Int) < (a0.length : Int)) then
    some 1
    else
    some 0))
def spec_EqualFactorizations_L1 (N : Nat) : Nat → (List Int) → (List (List Int × List Int)) → (List Int) → (List (List Int × List Int)) → Int → Option (Sum Bool Int)
  | 0, _, _, _, _, _ => none
  | k + 1, x217, x220, x223, x226, x227 =>
    (bif decide (x227 < (x220.length : Int)) then
    (ix x220 x227).bind fun x229 =>
    (ix x226 x227).bind fun x239 =>
    (spec_CompareRows N x229.1 x239.1).bind fun r249 =>
    (bif (r249 != 0) then
    some (.inl false)
    else
    (ix x220 x227).bind fun x253 =>
    (ix x226 x227).bind fun x263 =>
    (spec_CompareRows N x253.2 x263.2).bind fun r273 =>
    (bif (r273 != 0) then
    some (.inl false)
    else
    (ad x227 1).bind fun x277 =>
    spec_EqualFactorizations_L1 N k x217 x220 x223 x226 x277))
    else
    some (.inr x227))
def spec_EqualFactorizations (N : Nat) (a0 : List Int) (a1 : List (List Int × List Int)) (a2 : List Int) (a3 : List (List Int × List Int)) : Option Bool :=
    (spec_CompareRows N a0 a2).bind fun r109 =>
    (bif (r109 != 0) then
    some false
    else
    (bif ((a1.length : Int) != (a3.length : Int)) then
    some false
    else
    (spec_EqualFactorizations_L1 N N a0 a1 a2 a3 0).bind fun s279 =>
    lpS s279 (fun q => some q) fun x278 =>
    some true))
def laws_toIntS_L1 (N : Nat) : Nat → (List Int) → (List Int) → Int → Option ((List Int) × Int)
  | 0, _, _, _ => none
  | k + 1, x147, x150, x151 =>
    (bif decide (x151 < (x147.length : Int)) then
    (ix x147 x151).bind fun x153 =>
    (ix x150 x151).bind fun x159 =>
    (sto x150 x151 x153).bind fun x167 =>
    (ad x151 1).bind fun x168 =>
    laws_toIntS_L1 N k x147 x167 x168
    else
    some (x150, x151))
def laws_toIntS (N : Nat) (a0 : List Int) : Option (List Int) :=
    (mk 8 (0 : Int) (a0.length : Int)).bind fun x104 =>
    (laws_toIntS_L1 N N a0 x104 0).bind fun (x171, x172) =>
    some x171
def laws_toFactorNode (N : Nat) (a0 : List Int) (a1 : List Int) : Option (List Int × List Int) :=
    (laws_toIntS N a0).bind fun r113 =>
    (laws_toIntS N a1).bind fun r119 =>
    some (r113, r119)
def laws_toFactorNodeS_L1 (N : Nat) : Nat → (List (List Int × List Int)) → (List (List Int × List Int)) → Int → Option ((List (List Int × List Int)) × Int)
  | 0, _, _, _ => none
  | k + 1, x177, x180, x181 =>
    (bif decide (x181 < (x177.length : Int)) then
    (ix x177 x181).bind fun x183 =>
    (laws_toFactorNode N x183.1 x183.2).bind fun r193 =>
    (ix x180 x181).bind fun x200 =>
    (sto x180 x181 (r193.1, r193.2)).bind fun x212 =>
    (ad x181 1).bind fun x213 =>
    laws_toFactorNodeS_L1 N k x177 x212 x213
    else
    some (x180, x181))
def laws_toFactorNodeS (N : Nat) (a0 : List (List Int × List Int)) : Option (List (List Int × List Int)) :=
    (mk 48 (([], []) : List Int × List Int) (a0.length : Int)).bind fun x104 =>
    (laws_toFactorNodeS_L1 N N a0 x104 0).bind fun (x216, x217) =>
    some x216
def laws_toFactorization (N : Nat) (a0 : List Int) (a1 : List (List Int × List Int)) : Option (List Int × List (List Int × List Int)) :=
    (laws_toIntS N a0).bind fun r113 =>
    (laws_toFactorNodeS N a1).bind fun r119 =>
    some (r113, r119)
def impl_sameInts_L1 (N : Nat) : Nat → (List Int) → (List Int) → Int → Int → Option (Sum Bool Int)
  | 0, _, _, _, _ => none
  | k + 1, x139, x142, x143, x144 =>
    (bif decide (x144 < x143) then
    (ix x139 x144).bind fun x146 =>
    (ix x142 x144).bind fun x152 =>
    (bif (x146 != x152) then
    some (.inl false)
    else
    (ad x144 1).bind fun x161 =>
    impl_sameInts_L1 N k x139 x142 x143 x161)
    else
    some (.inr x144))
def impl_sameInts (N : Nat) (a0 : List Int) (a1 : List Int) : Option Bool :=
    (bif ((a0.length : Int) != (a1.length : Int)) then
    some false
    else
    (impl_sameInts_L1 N N a0 a1 (a0.length : Int) 0).bind fun s163 =>
    lpS s163 (fun q => some q) fun x162 =>
    some true)
def impl_sameNode (N : Nat) (a0 : List Int) (a1 : List Int) (a2 : List Int) (a3 : List Int) : Option Bool :=
    (impl_sameInts N a0 a2).bind fun r109 =>
    (bif r109 then
    (impl_sameInts N a1 a3).bind fun r113 =>
    some r113
    else
    some false)
end Go.Proofs.Ytobjjdfgnaanjaa
