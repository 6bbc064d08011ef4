/- What functions of the program come to, written out by a program: none where a bound is passed. -/
import Derived.Test.YtbjfbfjacchjiaaW2D
namespace Go.Proofs.Ytbjfbfjacchjiaa
open Go.RowKit
def impl_FactorizedPrefixCount_L1 (N : Nat) : Nat → (List Int) → (List (List Int × List Int)) → (List Int) → Int → (List Int) → Int → Int → Option (Sum Int (Int × Int))
  | 0, _, _, _, _, _, _, _ => none
  | k + 1, x215, x218, x221, x222, x225, x226, x227 =>
    (bif decide (x227 < x226) then
    (ix x225 x227).bind fun x234 =>
    (ix x218 x222).bind fun x241 =>
    (impl_indexOf N x241.1 x234).bind fun r257 =>
    (bif decide (r257 < 0) then
    some (.inl 0)
    else
    (ix x241.2 r257).bind fun x264 =>
    (ad x227 1).bind fun x270 =>
    impl_FactorizedPrefixCount_L1 N k x215 x218 x221 x264 x225 x226 x270)
    else
    some (.inr (x222, x227)))
def impl_FactorizedPrefixCount (N : Nat) (a0 : List Int) (a1 : List (List Int × List Int)) (a2 : List Int) : Option Int :=
    (impl_IsValidFactorization N a0 a1).bind fun r108 =>
    (bif r108 then
    (bif decide ((a0.length : Int) < (a2.length : Int)) then
    some 0
    else
    (impl_counts N a0 a1).bind fun r115 =>
    (sb (r115.length : Int) 1).bind fun x121 =>
    (impl_FactorizedPrefixCount_L1 N N a0 a1 r115 x121 a2 (a2.length : Int) 0).bind fun s278 =>
    lpS s278 (fun q => some q) fun (x271, x272) =>
    (ix r115 x271).bind fun x274 =>
    some x274)
    else
    some 0)
def laws_FnExactFactorizedPrefixCount (N : Nat) (a0 : List Int) (a1 : List (List Int × List Int)) (a2 : List Int) : Option Bool :=
    (bif decide (1048576 < (a2.length : Int)) then
    some true
    else
    (laws_szFactorization N a0 a1 1048576).bind fun r112 =>
    (bif decide (r112 < 0) then
    some true
    else
    (laws_toFactorization N a0 a1).bind fun r120 =>
    (laws_toIntS N a2).bind fun r127 =>
    (spec_FactorizedPrefixCount N r120.1 r120.2 r127).bind fun r132 =>
    (laws_toFactorization N a0 a1).bind fun r136 =>
    (laws_toIntS N a2).bind fun r149 =>
    (impl_FactorizedPrefixCount N r136.1 r136.2 r149).bind fun r155 =>
    (bif (r155 != r132) then
    some false
    else
    (laws_toFactorization N a0 a1).bind fun r166 =>
    (laws_eqFactorization N r136.1 r136.2 r166.1 r166.2).bind fun r173 =>
    (bif r173 then
    (laws_toIntS N a2).bind fun r179 =>
    (laws_eqIntS N r149 r179).bind fun r184 =>
    (bif r184 then
    some true
    else
    some false)
    else
    some false))))
def spec_FactorizedRank_L2 (N : Nat) : Nat → (List Int) → (List Int) → (List (List Int × List Int)) → (List Int) → Int → Int → Int → Int → Int → Option (Int × Int × Int)
  | 0, _, _, _, _, _, _, _, _, _ => none
  | k + 1, x494, x497, x500, x503, x504, x505, x506, x507, x508 =>
    (ix x500 x505).bind fun x511 =>
    (bif decide (x508 < (x511.1.length : Int)) then
    (ix x500 x505).bind fun x526 =>
    (ix x526.1 x508).bind fun x536 =>
    (ix x494 x506).bind fun x542 =>
    (bif decide (x536 < x542) then
    (ix x500 x505).bind fun x551 =>
    (ix x551.2 x508).bind fun x561 =>
    (ix x503 x561).bind fun x567 =>
    (ad x504 x567).bind fun x571 =>
    (ix x500 x505).bind fun x573 =>
    (ix x573.1 x508).bind fun x583 =>
    (ix x494 x506).bind fun x589 =>
    (bif (x583 == x589) then
    (ix x500 x505).bind fun x598 =>
    (ix x598.2 x508).bind fun x608 =>
    (ad x508 1).bind fun x614 =>
    spec_FactorizedRank_L2 N k x494 x497 x500 x503 x571 x505 x506 x608 x614
    else
    (ad x508 1).bind fun x615 =>
    spec_FactorizedRank_L2 N k x494 x497 x500 x503 x571 x505 x506 x507 x615)
    else
    (ix x500 x505).bind fun x617 =>
    (ix x617.1 x508).bind fun x627 =>
    (ix x494 x506).bind fun x633 =>
    (bif (x627 == x633) then
    (ix x500 x505).bind fun x642 =>
    (ix x642.2 x508).bind fun x652 =>
    (ad x508 1).bind fun x658 =>
    spec_FactorizedRank_L2 N k x494 x497 x500 x503 x504 x505 x506 x652 x658
    else
    (ad x508 1).bind fun x659 =>
    spec_FactorizedRank_L2 N k x494 x497 x500 x503 x504 x505 x506 x507 x659))
    else
    some (x504, x507, x508))
def spec_FactorizedRank_L1 (N : Nat) : Nat → (List Int) → (List Int) → (List (List Int × List Int)) → (List Int) → Int → Int → Int → Option (Sum (Int × Bool) (Int × Int × Int))
  | 0, _, _, _, _, _, _, _ => none
  | k + 1, x470, x473, x476, x479, x480, x481, x482 =>
    (bif decide (x482 < (x470.length : Int)) then
    (spec_FactorizedRank_L2 N N x470 x473 x476 x479 x480 x481 x482 (-1) 0).bind fun s668 =>
    lpB s668 fun (x660, x661, x662) =>
    (bif decide (x661 < 0) then
    some (.inl (x660, false))
    else
    (ad x482 1).bind fun x667 =>
    spec_FactorizedRank_L1 N k x470 x473 x476 x479 x660 x661 x667)
    else
    some (.inr (x480, x481, x482)))
def spec_FactorizedRank (N : Nat) (a0 : List Int) (a1 : List (List Int × List Int)) (a2 : List Int) : Option (Int × Bool) :=
    (spec_IsValidFactorization N a0 a1).bind fun r108 =>
    (bif r108 then
    (bif ((a2.length : Int) != (a0.length : Int)) then
    some (0, false)
    else
    (spec_l23Counts N a0 a1).bind fun r115 =>
    (sb (a1.length : Int) 1).bind fun x122 =>
    (spec_FactorizedRank_L1 N N a2 a0 a1 r115 0 x122 0).bind fun s692 =>
    lpS s692 (fun q => some q) fun (x669, x670, x671) =>
    (bif decide (1 < (a1.length : Int)) then
    (sb (a1.length : Int) 1).bind fun x674 =>
    (ix a1 x674).bind fun x675 =>
    (bif decide (0 < (x675.1.length : Int)) then
    some (x669, true)
    else
    some (x669, ((a1.length : Int) == 1)))
    else
    some (x669, ((a1.length : Int) == 1))))
    else
    some (0, false))
def impl_rankIn_L1 (rec : (List Int) → (List (List Int × List Int)) → (List Int) → Int → (List Int) → Option (Int × Bool)) (N : Nat) : Nat → (List Int) → (List Int) → (List Int) → (List (List Int × List Int)) → (List Int) → (List Int) → Int → (List Int) → Int → Int → Option (Sum (Int × Bool) (Int × Int))
  | 0, _, _, _, _, _, _, _, _, _, _ => none
  | k + 1, x298, x301, x304, x307, x310, x313, x314, x317, x318, x319 =>
    (bif decide (x319 < x318) then
    (ix x317 x319).bind fun x326 =>
    (ix x301 0).bind fun x334 =>
    (bif decide (x326 < x334) then
    (ix x313 x319).bind fun x341 =>
    (ix x298 x341).bind fun x347 =>
    (ad x314 x347).bind fun x353 =>
    (ix x301 0).bind fun x355 =>
    (bif (x326 == x355) then
    (ix x313 x319).bind fun x363 =>
    (slc x301 1 (x301.length : Int)).bind fun x369 =>
    (rec x304 x307 x298 x363 x369).bind fun r372 =>
    (ad x353 r372.1).bind fun x376 =>
    some (.inl (x376, r372.2))
    else
    (ad x319 1).bind fun x377 =>
    impl_rankIn_L1 rec N k x298 x301 x304 x307 x310 x313 x353 x317 x318 x377)
    else
    (ix x301 0).bind fun x379 =>
    (bif (x326 == x379) then
    (ix x313 x319).bind fun x387 =>
    (slc x301 1 (x301.length : Int)).bind fun x393 =>
    (rec x304 x307 x298 x387 x393).bind fun r396 =>
    (ad x314 r396.1).bind fun x400 =>
    some (.inl (x400, r396.2))
    else
    (ad x319 1).bind fun x401 =>
    impl_rankIn_L1 rec N k x298 x301 x304 x307 x310 x313 x314 x317 x318 x401))
    else
    some (.inr (x314, x319)))
def impl_rankIn : Nat → (List Int) → (List (List Int × List Int)) → (List Int) → Int → (List Int) → Option (Int × Bool)
  | 0, _, _, _, _, _ => none
  | N + 1, a0, a1, a2, a3, a4 =>
    (bif (a3 == 0) then
    some (0, true)
    else
    (ix a1 a3).bind fun x111 =>
    (impl_rankIn_L1 (impl_rankIn N) N N a2 a4 a0 a1 x111.1 x111.2 0 x111.1 (x111.1.length : Int) 0).bind fun s405 =>
    lpS s405 (fun q => some q) fun (x402, x403) =>
    some (x402, false))
def impl_FactorizedRank (N : Nat) (a0 : List Int) (a1 : List (List Int × List Int)) (a2 : List Int) : Option (Int × Bool) :=
    (impl_IsValidFactorization N a0 a1).bind fun r108 =>
    (bif r108 then
    (bif ((a2.length : Int) != (a0.length : Int)) then
    some (0, false)
    else
    (impl_counts N a0 a1).bind fun r115 =>
    (sb (r115.length : Int) 1).bind fun x122 =>
    (ix r115 x122).bind fun x123 =>
    (bif (x123 == 0) then
    some (0, false)
    else
    (sb (r115.length : Int) 1).bind fun x130 =>
    (impl_rankIn N a0 a1 r115 x130 a2).bind fun r131 =>
    some (r131.1, r131.2)))
    else
    some (0, false))
def laws_FnExactFactorizedRank (N : Nat) (a0 : List Int) (a1 : List (List Int × List Int)) (a2 : List Int) : Option Bool :=
    (bif decide (1048576 < (a2.length : Int)) then
    some true
    else
    (laws_szFactorization N a0 a1 1048576).bind fun r112 =>
    (bif decide (r112 < 0) then
    some true
    else
    (laws_toFactorization N a0 a1).bind fun r120 =>
    (laws_toIntS N a2).bind fun r127 =>
    (spec_FactorizedRank N r120.1 r120.2 r127).bind fun r132 =>
    (laws_toFactorization N a0 a1).bind fun r136 =>
    (laws_toIntS N a2).bind fun r149 =>
    (impl_FactorizedRank N r136.1 r136.2 r149).bind fun r155 =>
    (bif (r155.1 != r132.1) then
    some false
    else
    (bif (r155.2 != r132.2) then
    some false
    else
    (laws_toFactorization N a0 a1).bind fun r168 =>
    (laws_eqFactorization N r136.1 r136.2 r168.1 r168.2).bind fun r175 =>
    (bif r175 then
    (laws_toIntS N a2).bind fun r181 =>
    (laws_eqIntS N r149 r181).bind fun r186 =>
    (bif r186 then
    some true
    else
    some false)
    else
    some false)))))
def spec_FactorizationContains (N : Nat) (a0 : List Int) (a1 : List (List Int × List Int)) (a2 : List Int) : Option Bool :=
    (spec_FactorizedRank N a0 a1 a2).bind fun r107 =>
    some r107.2
def impl_FactorizationContains (N : Nat) (a0 : List Int) (a1 : List (List Int × List Int)) (a2 : List Int) : Option Bool :=
    (impl_FactorizedRank N a0 a1 a2).bind fun r107 =>
    some r107.2
def laws_FnExactFactorizationContains (N : Nat) (a0 : List Int) (a1 : List (List Int × List Int)) (a2 : List Int) : Option Bool :=
    (bif decide (1048576 < (a2.length : Int)) then
    some true
    else
    (laws_szFactorization N a0 a1 1048576).bind fun r112 =>
    (bif decide (r112 < 0) then
    some true
    else
    (laws_toFactorization N a0 a1).bind fun r120 =>
    (laws_toIntS N a2).bind fun r127 =>
    (spec_FactorizationContains N r120.1 r120.2 r127).bind fun r132 =>
    (laws_toFactorization N a0 a1).bind fun r136 =>
    (laws_toIntS N a2).bind fun r149 =>
    (impl_FactorizationContains N r136.1 r136.2 r149).bind fun r155 =>
    (bif (r155 != r132) then
    some false
    else
    (laws_toFactorization N a0 a1).bind fun r166 =>
    (laws_eqFactorization N r136.1 r136.2 r166.1 r166.2).bind fun r173 =>
    (bif r173 then
    (laws_toIntS N a2).bind fun r179 =>
    (laws_eqIntS N r149 r179).bind fun r184 =>
    (bif r184 then
    some true
    else
    some false)
    else
    some false))))
def spec_FactorizedRowAt_L2 (N : Nat) : Nat → Int → (List Int) → (List (List Int × List Int)) → (List Int) → (List Int) → Int → Int → Option (Int × Int)
  | 0, _, _, _, _, _, _, _ => none
  | k + 1, x415, x418, x421, x424, x427, x428, x429 =>
    (ix x421 x428).bind fun x432 =>
    (ix x432.2 x429).bind fun x442 =>
    (ix x424 x442).bind fun x448 =>
    (bif decide (x448 ≤ x415) then
    (ix x421 x428).bind fun x455 =>
    (ix x455.2 x429).bind fun x465 =>
    (ix x424 x465).bind fun x471 =>
    (sb x415 x471).bind fun x475 =>
    (ad x429 1).bind fun x476 =>
    spec_FactorizedRowAt_L2 N k x475 x418 x421 x424 x427 x428 x476
    else
    some (x415, x429))
def spec_FactorizedRowAt_L1 (N : Nat) : Nat → Int → (List Int) → (List (List Int × List Int)) → (List Int) → (List Int) → Int → Option (Int × (List Int) × Int)
  | 0, _, _, _, _, _, _ => none
  | k + 1, x394, x397, x400, x403, x406, x407 =>
    (bif decide (0 < x407) then
    (spec_FactorizedRowAt_L2 N N x394 x397 x400 x403 x406 x407 0).bind fun s521 =>
    lpB s521 fun (x477, x478) =>
    (ix x400 x407).bind fun x480 =>
    (ix x480.1 x478).bind fun x490 =>
    (apd 8 x406 [x490]).bind fun x502 =>
    (ix x400 x407).bind fun x505 =>
    (ix x505.2 x478).bind fun x515 =>
    spec_FactorizedRowAt_L1 N k x477 x397 x400 x403 x502 x515
    else
    some (x394, x406, x407))
def spec_FactorizedRowAt (N : Nat) (a0 : List Int) (a1 : List (List Int × List Int)) (a2 : Int) : Option ((List Int) × Bool) :=
    (spec_IsValidFactorization N a0 a1).bind fun r108 =>
    (bif r108 then
    (spec_FactorizedRowCount N a0 a1).bind fun r112 =>
    (sb r112 1).bind fun x115 =>
    (spec_l1In N a2 0 x115).bind fun r116 =>
    (bif r116 then
    (spec_l23Counts N a0 a1).bind fun r121 =>
    (sb (a1.length : Int) 1).bind fun x133 =>
    (spec_FactorizedRowAt_L1 N N a2 a0 a1 r121 [] x133).bind fun s528 =>
    lpB s528 fun (x522, x525, x526) =>
    some (x525, true)
    else
    some ([], false))
    else
    some ([], false))
def impl_FactorizedRowAt_L2 (N : Nat) : Nat → Int → (List Int) → (List (List Int × List Int)) → (List Int) → (List Int) → (List Int) → (List Int) → Int → Option (Int × Int)
  | 0, _, _, _, _, _, _, _, _ => none
  | k + 1, x375, x378, x381, x384, x387, x390, x393, x394 =>
    (ix x393 x394).bind fun x397 =>
    (ix x384 x397).bind fun x403 =>
    (bif decide (x403 ≤ x375) then
    (ix x393 x394).bind fun x410 =>
    (ix x384 x410).bind fun x416 =>
    (sb x375 x416).bind fun x420 =>
    (ad x394 1).bind fun x421 =>
    impl_FactorizedRowAt_L2 N k x420 x378 x381 x384 x387 x390 x393 x421
    else
    some (x375, x394))
def impl_FactorizedRowAt_L1 (N : Nat) : Nat → Int → (List Int) → (List (List Int × List Int)) → (List Int) → (List Int) → Int → Option (Int × (List Int) × Int)
  | 0, _, _, _, _, _, _ => none
  | k + 1, x338, x341, x344, x347, x350, x351 =>
    (bif decide (0 < x351) then
    (ix x344 x351).bind fun x357 =>
    (impl_FactorizedRowAt_L2 N N x338 x341 x344 x347 x350 x357.1 x357.2 0).bind fun s446 =>
    lpB s446 fun (x422, x423) =>
    (ix x357.1 x423).bind fun x425 =>
    (apd 8 x350 [x425]).bind fun x437 =>
    (ix x357.2 x423).bind fun x440 =>
    impl_FactorizedRowAt_L1 N k x422 x341 x344 x347 x437 x440
    else
    some (x338, x350, x351))
def impl_FactorizedRowAt (N : Nat) (a0 : List Int) (a1 : List (List Int × List Int)) (a2 : Int) : Option ((List Int) × Bool) :=
    (impl_FactorizedRowCount N a0 a1).bind fun r108 =>
    (sb r108 1).bind fun x111 =>
    (impl_within N a2 0 x111).bind fun r112 =>
    (bif r112 then
    (impl_counts N a0 a1).bind fun r117 =>
    (sb (r117.length : Int) 1).bind fun x129 =>
    (impl_FactorizedRowAt_L1 N N a2 a0 a1 r117 [] x129).bind fun s453 =>
    lpB s453 fun (x447, x450, x451) =>
    some (x450, true)
    else
    some ([], false))
def laws_markIntS_L1 (N : Nat) : Nat → (List Int) → Int → Int → Option ((List Int) × Int × Int)
  | 0, _, _, _ => none
  | k + 1, x138, x139, x140 =>
    (bif decide (x140 < (x138.length : Int)) then
    (ix x138 x140).bind fun x147 =>
    (sto x138 x140 x139).bind fun x152 =>
    (ad x139 1).bind fun x153 =>
    (ad x140 1).bind fun x154 =>
    laws_markIntS_L1 N k x152 x153 x154
    else
    some (x138, x139, x140))
def laws_markIntS (N : Nat) (a0 : List Int) (a1 : Int) : Option (Int × (List Int)) :=
    (laws_markIntS_L1 N N a0 a1 0).bind fun s160 =>
    lpB s160 fun (x156, x157, x158) =>
    some (x157, x156)
end Go.Proofs.Ytbjfbfjacchjiaa
