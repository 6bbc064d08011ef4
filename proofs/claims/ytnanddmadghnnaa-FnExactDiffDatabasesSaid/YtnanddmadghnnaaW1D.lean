/- What functions of the program come to, written out by a program: none where a bound is passed. -/
import Derived.Test.YtnanddmadghnnaaW0D
namespace Go.Proofs.Ytnanddmadghnnaa
open Go.RowKit
def impl_IntersectByLookup_L1 (N : Nat) : Nat → (List (List Int)) → Int → (List (List Int)) → Int → Int → Option (Int × Int)
  | 0, _, _, _, _, _ => none
  | k + 1, x189, x190, x193, x194, x195 =>
    (bif decide (x195 < x194) then
    (ix x193 x195).bind fun x202 =>
    (ix x189 x190).bind fun x210 =>
    (bif decide ((x202.length : Int) < (x210.length : Int)) then
    (ad x195 1).bind fun x218 =>
    impl_IntersectByLookup_L1 N k x189 x195 x193 x194 x218
    else
    (ad x195 1).bind fun x219 =>
    impl_IntersectByLookup_L1 N k x189 x190 x193 x194 x219)
    else
    some (x190, x195))
def impl_IntersectByLookup_L3 (N : Nat) : Nat → (List (List Int)) → Int → (List Int) → Int → Int → Bool → (List Int) → Int → Int → (List (List Int)) → Int → Int → Option (Int × Bool × Int)
  | 0, _, _, _, _, _, _, _, _, _, _, _, _ => none
  | k + 1, x424, x425, x428, x429, x430, x431, x434, x435, x436, x439, x440, x441 =>
    (bif decide (x441 < x440) then
    (ix x439 x441).bind fun x448 =>
    (bif (x441 != x425) then
    (bif x431 then
    (ad x429 1).bind fun x459 =>
    (impl_hasInt N x448 x430).bind fun r460 =>
    (ad x441 1).bind fun x463 =>
    impl_IntersectByLookup_L3 N k x424 x425 x428 x459 x430 r460 x434 x435 x436 x439 x440 x463
    else
    (ad x441 1).bind fun x464 =>
    impl_IntersectByLookup_L3 N k x424 x425 x428 x429 x430 x431 x434 x435 x436 x439 x440 x464)
    else
    (ad x441 1).bind fun x465 =>
    impl_IntersectByLookup_L3 N k x424 x425 x428 x429 x430 x431 x434 x435 x436 x439 x440 x465)
    else
    some (x429, x431, x441))
def impl_IntersectByLookup_L2 (N : Nat) : Nat → (List (List Int)) → Int → (List Int) → Int → (List Int) → Int → Int → Option ((List Int) × Int × Int)
  | 0, _, _, _, _, _, _, _ => none
  | k + 1, x394, x395, x398, x400, x403, x404, x405 =>
    (bif decide (x405 < x404) then
    (ix x403 x405).bind fun x412 =>
    (impl_IntersectByLookup_L3 N N x394 x395 x398 x400 x412 true x403 x404 x405 x394 (x394.length : Int) 0).bind fun s482 =>
    lpB s482 fun (x466, x467, x468) =>
    (bif x467 then
    (apd 8 x398 [x412]).bind fun x477 =>
    (ad x405 1).bind fun x480 =>
    impl_IntersectByLookup_L2 N k x394 x395 x477 x466 x403 x404 x480
    else
    (ad x405 1).bind fun x481 =>
    impl_IntersectByLookup_L2 N k x394 x395 x398 x466 x403 x404 x481)
    else
    some (x398, x400, x405))
def impl_IntersectByLookup (N : Nat) (a0 : List (List Int)) : Option ((List Int) × Int) :=
    (impl_ascendingLists N a0).bind fun r104 =>
    (bif r104 then
    (impl_IntersectByLookup_L1 N N a0 0 a0 (a0.length : Int) 0).bind fun s491 =>
    lpB s491 fun (x220, x221) =>
    (ix a0 x220).bind fun x226 =>
    (impl_IntersectByLookup_L2 N N a0 x220 [] 0 x226 (x226.length : Int) 0).bind fun s490 =>
    lpB s490 fun (x485, x487, x488) =>
    some (x485, x487)
    else
    some ([], 0))
def laws_eqIntS_L1 (N : Nat) : Nat → (List Int) → (List Int) → Int → Option (Sum Bool Int)
  | 0, _, _, _ => none
  | k + 1, x158, x161, x162 =>
    (bif decide (x162 < (x158.length : Int)) then
    (ix x158 x162).bind fun x169 =>
    (ix x161 x162).bind fun x175 =>
    (bif (x169 != x175) then
    some (.inl false)
    else
    (ad x162 1).bind fun x185 =>
    laws_eqIntS_L1 N k x158 x161 x185)
    else
    some (.inr x162))
def laws_eqIntS (N : Nat) (a0 : List Int) (a1 : List Int) : Option Bool :=
    (bif ((a0.length : Int) != (a1.length : Int)) then
    some false
    else
    (laws_eqIntS_L1 N N a0 a1 0).bind fun s188 =>
    lpS s188 (fun q => some q) fun x186 =>
    some true)
def laws_eqIntSS_L1 (N : Nat) : Nat → (List (List Int)) → (List (List Int)) → Int → Option (Sum Bool Int)
  | 0, _, _, _ => none
  | k + 1, x164, x167, x168 =>
    (bif decide (x168 < (x164.length : Int)) then
    (ix x164 x168).bind fun x175 =>
    (ix x167 x168).bind fun x182 =>
    (laws_eqIntS N x175 x182).bind fun r189 =>
    (bif r189 then
    (ad x168 1).bind fun x193 =>
    laws_eqIntSS_L1 N k x164 x167 x193
    else
    some (.inl false))
    else
    some (.inr x168))
def laws_eqIntSS (N : Nat) (a0 : List (List Int)) (a1 : List (List Int)) : Option Bool :=
    (bif ((a0.length : Int) != (a1.length : Int)) then
    some false
    else
    (laws_eqIntSS_L1 N N a0 a1 0).bind fun s197 =>
    lpS s197 (fun q => some q) fun x195 =>
    some true)
def laws_markIntS_L1 (N : Nat) : Nat → (List Int) → Int → Int → Option ((List Int) × Int × Int)
  | 0, _, _, _ => none
  | k + 1, x138, x139, x140 =>
    (bif decide (x140 < (x138.length : Int)) then
    (ix x138 x140).bind fun x147 =>
    (sto x138 x140 x139).bind fun x152 =>
    (ad x139 1).bind fun x153 =>
    (ad x140 1).bind fun x154 =>
    laws_markIntS_L1 N k x152 x153 x154
    else
    some (x138, x139, x140))
def laws_markIntS (N : Nat) (a0 : List Int) (a1 : Int) : Option (Int × (List Int)) :=
    (laws_markIntS_L1 N N a0 a1 0).bind fun s160 =>
    lpB s160 fun (x156, x157, x158) =>
    some (x157, x156)
def laws_markIntSS_L1 (N : Nat) : Nat → (List (List Int)) → Int → Int → Option ((List (List Int)) × Int × Int)
  | 0, _, _, _ => none
  | k + 1, x146, x147, x148 =>
    (bif decide (x148 < (x146.length : Int)) then
    (ix x146 x148).bind fun x154 =>
    (laws_markIntS N x154 x147).bind fun r163 =>
    (sto x146 x148 r163.2).bind fun x165 =>
    (ad x148 1).bind fun x166 =>
    laws_markIntSS_L1 N k x165 r163.1 x166
    else
    some (x146, x147, x148))
def laws_markIntSS (N : Nat) (a0 : List (List Int)) (a1 : Int) : Option (Int × (List (List Int))) :=
    (laws_markIntSS_L1 N N a0 a1 0).bind fun s172 =>
    lpB s172 fun (x168, x169, x170) =>
    some (x169, x168)
def laws_heldIntS_L1 (N : Nat) : Nat → (List Int) → Int → Int → Option (Sum Int (Int × Int))
  | 0, _, _, _ => none
  | k + 1, x143, x144, x145 =>
    (bif decide (x145 < (x143.length : Int)) then
    (ix x143 x145).bind fun x153 =>
    (bif (x153 != x144) then
    some (.inl (-1))
    else
    (ad x144 1).bind fun x161 =>
    (ad x145 1).bind fun x162 =>
    laws_heldIntS_L1 N k x143 x161 x162)
    else
    some (.inr (x144, x145)))
def laws_heldIntS (N : Nat) (a0 : List Int) (a1 : Int) : Option Int :=
    (laws_heldIntS_L1 N N a0 a1 0).bind fun s166 =>
    lpS s166 (fun q => some q) fun (x163, x164) =>
    some x163
def laws_FnExactIntersectByLookup (N : Nat) (a0 : List (List Int)) : Option Bool :=
    (laws_szIntSS N a0 1048576).bind fun r104 =>
    (bif decide (r104 < 0) then
    some true
    else
    (laws_toIntSS N a0).bind fun r112 =>
    (spec_IntersectByLookup N r112).bind fun r117 =>
    (laws_toIntSS N a0).bind fun r123 =>
    (impl_IntersectByLookup N r123).bind fun r129 =>
    (laws_eqIntS N r129.1 r117.1).bind fun r136 =>
    (bif r136 then
    (bif (r129.2 != r117.2) then
    some false
    else
    (laws_toIntSS N a0).bind fun r144 =>
    (laws_eqIntSS N r123 r144).bind fun r149 =>
    (bif r149 then
    (laws_markIntSS N r123 1).bind fun r155 =>
    (bif decide (r155.1 < 0) then
    some false
    else
    (laws_eqIntS N r129.1 r117.1).bind fun r161 =>
    (bif r161 then
    (laws_markIntS N r129.1 1).bind fun r167 =>
    (laws_heldIntS N r167.2 1).bind fun r171 =>
    (bif decide (r171 < 0) then
    some false
    else
    (bif (r171 != r167.1) then
    some false
    else
    (laws_toIntSS N a0).bind fun r183 =>
    (impl_IntersectByLookup N r183).bind fun r188 =>
    (laws_eqIntS N r188.1 r117.1).bind fun r195 =>
    (bif r195 then
    (bif (r188.2 != r117.2) then
    some false
    else
    (laws_heldIntS N r167.2 1).bind fun r203 =>
    (bif decide (r203 < 0) then
    some false
    else
    (bif (r203 != r167.1) then
    some false
    else
    some true)))
    else
    some false)))
    else
    some false))
    else
    some false))
    else
    some false))
def laws_szRelation (N : Nat) (a0 : Int) (a1 : List (List Int)) (a2 : Int) : Option Int :=
    (laws_szIntSS N a1 a2).bind fun r107 =>
    (bif decide (r107 < 0) then
    some (-1)
    else
    some r107)
def laws_szTable (N : Nat) (a0 : ByteArray) (a1 : Int) (a2 : List (List Int)) (a3 : Int) : Option Int :=
    (sb a3 (a0.size : Int)).bind fun x107 =>
    (bif decide (x107 < 0) then
    some (-1)
    else
    (laws_szRelation N a1 a2 x107).bind fun r113 =>
    (bif decide (r113 < 0) then
    some (-1)
    else
    some r113))
def laws_szTableS_L1 (N : Nat) : Nat → (List (ByteArray × (Int × List (List Int)))) → Int → Int → Option (Sum Int (Int × Int))
  | 0, _, _, _ => none
  | k + 1, x165, x166, x167 =>
    (bif decide (x167 < (x165.length : Int)) then
    (ix x165 x167).bind fun x174 =>
    (laws_szTable N x174.1 x174.2.1 x174.2.2 x166).bind fun r186 =>
    (bif decide (r186 < 0) then
    some (.inl (-1))
    else
    (ad x167 1).bind fun x192 =>
    laws_szTableS_L1 N k x165 r186 x192)
    else
    some (.inr (x166, x167)))
def laws_szTableS (N : Nat) (a0 : List (ByteArray × (Int × List (List Int)))) (a1 : Int) : Option Int :=
    (sb a1 (a0.length : Int)).bind fun x103 =>
    (bif decide (x103 < 0) then
    some (-1)
    else
    (laws_szTableS_L1 N N a0 x103 0).bind fun s196 =>
    lpS s196 (fun q => some q) fun (x193, x194) =>
    some x193)
def laws_szDatabase (N : Nat) (a0 : List (ByteArray × (Int × List (List Int)))) (a1 : Int) : Option Int :=
    (laws_szTableS N a0 a1).bind fun r107 =>
    (bif decide (r107 < 0) then
    some (-1)
    else
    some r107)
def laws_szDelta (N : Nat) (a0 : ByteArray) (a1 : Int) (a2 : List (List Int)) (a3 : Int) (a4 : List (List Int)) (a5 : Int) : Option Int :=
    (sb a5 (a0.size : Int)).bind fun x107 =>
    (bif decide (x107 < 0) then
    some (-1)
    else
    (laws_szRelation N a1 a2 x107).bind fun r113 =>
    (bif decide (r113 < 0) then
    some (-1)
    else
    (laws_szRelation N a3 a4 r113).bind fun r121 =>
    (bif decide (r121 < 0) then
    some (-1)
    else
    some r121)))
end Go.Proofs.Ytnanddmadghnnaa
