/- What functions of the program come to, written out by a program: none where a bound is passed. -/
import Derived.Test.YtkpeabpdiffjhaaW10D
namespace Go.Proofs.Ytkpeabpdiffjhaa
open Go.RowKit
def spec_NaturalJoin_L3 (N : Nat) : Nat → (List Int) → Int → (List (List Int)) → (List Int) → Int → (List (List Int)) → (List Int) → Int → (List (List Int)) → (List Int) → (List Int) → (List Int) → (List (List Int)) → Int → Int → (List Int) → Int → Option ((List Int) × Int)
  | 0, _, _, _, _, _, _, _, _, _, _, _, _, _, _, _, _, _ => none
  | k + 1, x720, x721, x724, x727, x728, x731, x734, x735, x738, x741, x744, x747, x750, x751, x752, x755, x756 =>
    (bif decide (x756 < (x747.length : Int)) then
    (ix x747 x756).bind fun x763 =>
    (spec_l7Find N x720 x763).bind fun r767 =>
    (bif decide (0 ≤ r767) then
    (ix x724 x751).bind fun x772 =>
    (ix x772 r767).bind fun x779 =>
    (apd 8 x755 [x779]).bind fun x791 =>
    (ad x756 1).bind fun x794 =>
    spec_NaturalJoin_L3 N k x720 x721 x724 x727 x728 x731 x734 x735 x738 x741 x744 x747 x750 x751 x752 x791 x794
    else
    (ix x731 x752).bind fun x797 =>
    (ix x747 x756).bind fun x804 =>
    (spec_l7Find N x727 x804).bind fun r808 =>
    (ix x797 r808).bind fun x811 =>
    (apd 8 x755 [x811]).bind fun x823 =>
    (ad x756 1).bind fun x826 =>
    spec_NaturalJoin_L3 N k x720 x721 x724 x727 x728 x731 x734 x735 x738 x741 x744 x747 x750 x751 x752 x823 x826)
    else
    some (x755, x756))
def spec_NaturalJoin_L2 (N : Nat) : Nat → (List Int) → Int → (List (List Int)) → (List Int) → Int → (List (List Int)) → (List Int) → Int → (List (List Int)) → (List Int) → (List Int) → (List Int) → (List (List Int)) → Int → Int → Option ((List (List Int)) × Int)
  | 0, _, _, _, _, _, _, _, _, _, _, _, _, _, _, _ => none
  | k + 1, x639, x640, x643, x646, x647, x650, x653, x654, x657, x660, x663, x666, x669, x670, x671 =>
    (bif decide (x671 < (x650.length : Int)) then
    (ix x643 x670).bind fun x681 =>
    (ix x650 x671).bind fun x688 =>
    (spec_l5Cols N x681 x660).bind fun r695 =>
    (spec_l5Cols N x688 x663).bind fun r700 =>
    (spec_CompareRows N r695 r700).bind fun r705 =>
    (bif (r705 != 0) then
    (ad x671 1).bind fun x709 =>
    spec_NaturalJoin_L2 N k x639 x640 x643 x646 x647 x650 x653 x654 x657 x660 x663 x666 x669 x670 x709
    else
    (spec_NaturalJoin_L3 N N x639 x640 x643 x646 x647 x650 x653 x654 x657 x660 x663 x666 x669 x670 x671 [] 0).bind fun s841 =>
    lpB s841 fun (x829, x830) =>
    (apd 24 x669 [x829]).bind fun x837 =>
    (ad x671 1).bind fun x840 =>
    spec_NaturalJoin_L2 N k x639 x640 x643 x646 x647 x650 x653 x654 x657 x660 x663 x666 x837 x670 x840)
    else
    some (x669, x671))
def spec_NaturalJoin_L1 (N : Nat) : Nat → (List Int) → Int → (List (List Int)) → (List Int) → Int → (List (List Int)) → (List Int) → Int → (List (List Int)) → (List Int) → (List Int) → (List Int) → (List (List Int)) → Int → Option ((List (List Int)) × Int)
  | 0, _, _, _, _, _, _, _, _, _, _, _, _, _, _ => none
  | k + 1, x598, x599, x602, x605, x606, x609, x612, x613, x616, x619, x622, x625, x628, x629 =>
    (bif decide (x629 < (x602.length : Int)) then
    (spec_NaturalJoin_L2 N N x598 x599 x602 x605 x606 x609 x612 x613 x616 x619 x622 x625 x628 x629 0).bind fun s847 =>
    lpB s847 fun (x844, x845) =>
    (ad x629 1).bind fun x846 =>
    spec_NaturalJoin_L1 N k x598 x599 x602 x605 x606 x609 x612 x613 x616 x619 x622 x625 x844 x846
    else
    some (x628, x629))
def spec_NaturalJoin (N : Nat) (a0 : List Int) (a1 : Int) (a2 : List (List Int)) (a3 : List Int) (a4 : Int) (a5 : List (List Int)) : Option ((List Int × (Int × List (List Int))) × Bool) :=
    (spec_IsValidVarRelation N a0 a1 a2).bind fun r116 =>
    (bif r116 then
    (spec_IsValidVarRelation N a3 a4 a5).bind fun r120 =>
    (bif r120 then
    (spec_l11Both N a0 a1 a2 a3 a4 a5).bind fun r125 =>
    (spec_l11Vars N a0 a3).bind fun r133 =>
    (spec_NaturalJoin_L1 N N a0 a1 a2 a3 a4 a5 [] 0 [] r125.1 r125.2 r133 [] 0).bind fun s870 =>
    lpB s870 fun (x850, x851) =>
    (spec_NewRelation N (r133.length : Int) x850).bind fun r853 =>
    (bif r853.2 then
    some ((r133, (r853.1.1, r853.1.2)), true)
    else
    some (([], (0, [])), false))
    else
    some (([], (0, [])), false))
    else
    some (([], (0, [])), false))
def spec_PairwiseJoin_L1 (N : Nat) : Nat → (List (ByteArray × (Int × List (List Int)))) → Int → (List (ByteArray × List Int)) → (List Int) → Int → (List (List Int)) → (List Int) → Int → (List (List Int)) → Int → Int → Option (Sum ((Int × List (List Int)) × Int × Bool) ((List Int) × Int × (List (List Int)) × Int × Int))
  | 0, _, _, _, _, _, _, _, _, _, _, _ => none
  | k + 1, x307, x308, x311, x314, x315, x318, x321, x322, x325, x326, x327 =>
    (bif decide (x327 < (x311.length : Int)) then
    (ix x311 x327).bind fun x336 =>
    (spec_AtomRelation N x307 x336.1 x336.2).bind fun r346 =>
    (spec_NaturalJoin N x321 x322 x325 r346.1 r346.2.1 r346.2.2).bind fun r353 =>
    (bif r353.2 then
    (ad x326 (r353.1.2.2.length : Int)).bind fun x370 =>
    (ad x327 1).bind fun x371 =>
    spec_PairwiseJoin_L1 N k x307 x308 x311 x314 x315 x318 r353.1.1 r353.1.2.1 r353.1.2.2 x370 x371
    else
    some (.inl ((0, []), 0, false)))
    else
    some (.inr (x321, x322, x325, x326, x327)))
def spec_PairwiseJoin (N : Nat) (a0 : List (ByteArray × (Int × List (List Int)))) (a1 : Int) (a2 : List (ByteArray × List Int)) (a3 : List Int) : Option ((Int × List (List Int)) × Int × Bool) :=
    (spec_IsQueryFor N a0 a1 a2 a3).bind fun r116 =>
    (bif r116 then
    (ix a2 0).bind fun x123 =>
    (spec_AtomRelation N a0 x123.1 x123.2).bind fun r133 =>
    (spec_PairwiseJoin_L1 N N a0 a1 a2 a3 0 [] r133.1 r133.2.1 r133.2.2 (r133.2.2.length : Int) 1).bind fun s396 =>
    lpS s396 (fun q => some q) fun (x376, x377, x380, x381, x382) =>
    (spec_Project N x377 x380 a3).bind fun r384 =>
    some ((r384.1.1, r384.1.2), x381, r384.2)
    else
    some ((0, []), 0, false))
def impl_AtomRelation (N : Nat) (a0 : List (ByteArray × (Int × List (List Int)))) (a1 : ByteArray) (a2 : List Int) : Option (List Int × (Int × List (List Int))) :=
    (impl_AtomVariables N a1 a2).bind fun r117 =>
    (impl_AtomBindings N a0 a1 a2).bind fun r122 =>
    some (r117, (r122.1, r122.2))
def impl_IsValidVarRelation_L1 (N : Nat) : Nat → (List Int) → Int → (List (List Int)) → (List Int) → Int → Int → Option (Sum Bool Int)
  | 0, _, _, _, _, _, _ => none
  | k + 1, x172, x173, x176, x179, x180, x181 =>
    (bif decide (x181 < x180) then
    (ix x179 x181).bind fun x188 =>
    (impl_within N x188 0 4).bind fun r195 =>
    (bif r195 then
    (bif decide (0 < x181) then
    (sb x181 1).bind fun x200 =>
    (ix x172 x200).bind fun x201 =>
    (bif decide (x188 ≤ x201) then
    some (.inl false)
    else
    (ad x181 1).bind fun x209 =>
    impl_IsValidVarRelation_L1 N k x172 x173 x176 x179 x180 x209)
    else
    (ad x181 1).bind fun x210 =>
    impl_IsValidVarRelation_L1 N k x172 x173 x176 x179 x180 x210)
    else
    some (.inl false))
    else
    some (.inr x181))
def impl_IsValidVarRelation (N : Nat) (a0 : List Int) (a1 : Int) (a2 : List (List Int)) : Option Bool :=
    (impl_IsValidVarRelation_L1 N N a0 a1 a2 a0 (a0.length : Int) 0).bind fun s218 =>
    lpS s218 (fun q => some q) fun x212 =>
    (impl_IsValidRelation N a1 a2).bind fun r214 =>
    (bif r214 then
    some (a1 == (a0.length : Int))
    else
    some false)
def impl_unite_L2 (N : Nat) : Nat → (List Int) → Int → Int → (List Int) → Int → Int → Option Int
  | 0, _, _, _, _, _, _ => none
  | k + 1, x429, x430, x431, x434, x435, x436 =>
    (bif decide (x431 < (x429.length : Int)) then
    (ix x429 x431).bind fun x440 =>
    (bif decide (x440 < x430) then
    (ad x431 1).bind fun x446 =>
    impl_unite_L2 N k x429 x430 x446 x434 x435 x436
    else
    some x431)
    else
    some x431)
def impl_unite_L1 (N : Nat) : Nat → (List Int) → (List Int) → Int → Int → Option ((List Int) × Int)
  | 0, _, _, _, _ => none
  | k + 1, x406, x409, x410, x411 =>
    (bif decide (x411 < x410) then
    (ix x409 x411).bind fun x418 =>
    (impl_unite_L2 N N x406 x418 0 x409 x410 x411).bind fun s520 =>
    lpB s520 fun x447 =>
    (bif (x447 == (x406.length : Int)) then
    (slc x406 0 x447).bind fun x452 =>
    (slc x406 x447 (x406.length : Int)).bind fun x455 =>
    (impl_copyInts N x452).bind fun r458 =>
    (apd 8 r458 [x418]).bind fun x469 =>
    (apd 8 x469 x455).bind fun x474 =>
    (ad x411 1).bind fun x481 =>
    impl_unite_L1 N k x474 x409 x410 x481
    else
    (ix x406 x447).bind fun x482 =>
    (bif (x482 != x418) then
    (slc x406 0 x447).bind fun x489 =>
    (slc x406 x447 (x406.length : Int)).bind fun x492 =>
    (impl_copyInts N x489).bind fun r495 =>
    (apd 8 r495 [x418]).bind fun x506 =>
    (apd 8 x506 x492).bind fun x511 =>
    (ad x411 1).bind fun x518 =>
    impl_unite_L1 N k x511 x409 x410 x518
    else
    (ad x411 1).bind fun x519 =>
    impl_unite_L1 N k x406 x409 x410 x519))
    else
    some (x406, x411))
def impl_unite (N : Nat) (a0 : List Int) (a1 : List Int) : Option (List Int) :=
    (impl_copyInts N a0).bind fun r103 =>
    (impl_unite_L1 N N r103 a1 (a1.length : Int) 0).bind fun s526 =>
    lpB s526 fun (x523, x524) =>
    some x523
def impl_glue_L1 (N : Nat) : Nat → (List Int) → (List Int) → (List Int) → (List Int) → (List Int) → (List Int) → Int → Int → Option (Sum ((List Int) × Bool) ((List Int) × Int))
  | 0, _, _, _, _, _, _, _, _ => none
  | k + 1, x402, x405, x408, x411, x414, x417, x418, x419 =>
    (bif decide (x419 < x418) then
    (ix x417 x419).bind fun x426 =>
    (impl_indexOf N x402 x426).bind fun r433 =>
    (impl_indexOf N x408 x426).bind fun r436 =>
    (bif decide (0 ≤ r433) then
    (bif decide (0 ≤ r436) then
    (ix x405 r433).bind fun x443 =>
    (ix x411 r436).bind fun x449 =>
    (bif (x443 != x449) then
    some (.inl ([], false))
    else
    (ix x405 r433).bind fun x460 =>
    (apd 8 x414 [x460]).bind fun x472 =>
    (ad x419 1).bind fun x475 =>
    impl_glue_L1 N k x402 x405 x408 x411 x472 x417 x418 x475)
    else
    (ix x405 r433).bind fun x479 =>
    (apd 8 x414 [x479]).bind fun x491 =>
    (ad x419 1).bind fun x494 =>
    impl_glue_L1 N k x402 x405 x408 x411 x491 x417 x418 x494)
    else
    (ix x411 r436).bind fun x498 =>
    (apd 8 x414 [x498]).bind fun x510 =>
    (ad x419 1).bind fun x513 =>
    impl_glue_L1 N k x402 x405 x408 x411 x510 x417 x418 x513)
    else
    some (.inr (x414, x419)))
def impl_glue (N : Nat) (a0 : List Int) (a1 : List Int) (a2 : List Int) (a3 : List Int) (a4 : List Int) : Option ((List Int) × Bool) :=
    (impl_glue_L1 N N a1 a2 a3 a4 [] a0 (a0.length : Int) 0).bind fun s519 =>
    lpS s519 (fun q => some q) fun (x516, x517) =>
    some (x516, true)
def impl_NaturalJoin_L2 (N : Nat) : Nat → (List Int) → Int → (List (List Int)) → (List Int) → Int → (List (List Int)) → (List Int) → Int → (List (List Int)) → (List Int) → (List (List Int)) → (List Int) → (List (List Int)) → Int → Int → (List (List Int)) → Int → Int → Option ((List (List Int)) × Int)
  | 0, _, _, _, _, _, _, _, _, _, _, _, _, _, _, _, _, _, _ => none
  | k + 1, x378, x379, x382, x385, x386, x389, x392, x393, x396, x399, x402, x405, x408, x409, x410, x413, x414, x415 =>
    (bif decide (x415 < x414) then
    (ix x413 x415).bind fun x422 =>
    (impl_glue N x399 x378 x405 x385 x422).bind fun r430 =>
    (bif r430.2 then
    (apd 24 x402 [r430.1]).bind fun x443 =>
    (ad x415 1).bind fun x446 =>
    impl_NaturalJoin_L2 N k x378 x379 x382 x385 x386 x389 x392 x393 x396 x399 x443 x405 x408 x409 x410 x413 x414 x446
    else
    (ad x415 1).bind fun x447 =>
    impl_NaturalJoin_L2 N k x378 x379 x382 x385 x386 x389 x392 x393 x396 x399 x402 x405 x408 x409 x410 x413 x414 x447)
    else
    some (x402, x415))
def impl_NaturalJoin_L1 (N : Nat) : Nat → (List Int) → Int → (List (List Int)) → (List Int) → Int → (List (List Int)) → (List Int) → Int → (List (List Int)) → (List Int) → (List (List Int)) → (List (List Int)) → Int → Int → Option (Sum ((List Int × (Int × List (List Int))) × Bool) ((List (List Int)) × Int))
  | 0, _, _, _, _, _, _, _, _, _, _, _, _, _, _ => none
  | k + 1, x329, x330, x333, x336, x337, x340, x343, x344, x347, x350, x353, x357, x358, x359 =>
    (bif decide (x359 < x358) then
    (ix x357 x359).bind fun x366 =>
    (impl_NaturalJoin_L2 N N x329 x330 x333 x336 x337 x340 x343 x344 x347 x350 x353 x366 x357 x358 x359 x340 (x340.length : Int) 0).bind fun s457 =>
    lpB s457 fun (x450, x451) =>
    (bif decide (4000 < (x450.length : Int)) then
    some (.inl (([], (0, [])), false))
    else
    (ad x359 1).bind fun x456 =>
    impl_NaturalJoin_L1 N k x329 x330 x333 x336 x337 x340 x343 x344 x347 x350 x450 x357 x358 x456)
    else
    some (.inr (x353, x359)))
def impl_NaturalJoin (N : Nat) (a0 : List Int) (a1 : Int) (a2 : List (List Int)) (a3 : List Int) (a4 : Int) (a5 : List (List Int)) : Option ((List Int × (Int × List (List Int))) × Bool) :=
    (impl_IsValidVarRelation N a0 a1 a2).bind fun r116 =>
    (bif r116 then
    (impl_IsValidVarRelation N a3 a4 a5).bind fun r120 =>
    (bif r120 then
    (impl_unite N a0 a3).bind fun r125 =>
    (impl_NaturalJoin_L1 N N a0 a1 a2 a3 a4 a5 [] 0 [] r125 [] a2 (a2.length : Int) 0).bind fun s470 =>
    lpS s470 (fun q => some q) fun (x460, x462) =>
    (impl_sorted N x460).bind fun r464 =>
    some ((r125, ((r125.length : Int), r464)), true)
    else
    some (([], (0, [])), false))
    else
    some (([], (0, [])), false))
def impl_PairwiseJoin_L1 (N : Nat) : Nat → (List (ByteArray × (Int × List (List Int)))) → Int → (List (ByteArray × List Int)) → (List Int) → Int → (List (List Int)) → (List Int) → Int → (List (List Int)) → Int → (List (ByteArray × List Int)) → Int → Int → Option (Sum ((Int × List (List Int)) × Int × Bool) ((List Int) × Int × (List (List Int)) × Int × Int))
  | 0, _, _, _, _, _, _, _, _, _, _, _, _, _ => none
  | k + 1, x328, x329, x332, x335, x336, x339, x342, x343, x346, x347, x350, x351, x352 =>
    (bif decide (x352 < x351) then
    (ix x350 x352).bind fun x359 =>
    (impl_AtomRelation N x328 x359.1 x359.2).bind fun r377 =>
    (impl_NaturalJoin N x342 x343 x346 r377.1 r377.2.1 r377.2.2).bind fun r384 =>
    (bif r384.2 then
    (ad x347 (r384.1.2.2.length : Int)).bind fun x401 =>
    (ad x352 1).bind fun x402 =>
    impl_PairwiseJoin_L1 N k x328 x329 x332 x335 x336 x339 r384.1.1 r384.1.2.1 r384.1.2.2 x401 x350 x351 x402
    else
    some (.inl ((0, []), 0, false)))
    else
    some (.inr (x342, x343, x346, x347, x352)))
def impl_PairwiseJoin (N : Nat) (a0 : List (ByteArray × (Int × List (List Int)))) (a1 : Int) (a2 : List (ByteArray × List Int)) (a3 : List Int) : Option ((Int × List (List Int)) × Int × Bool) :=
    (impl_IsQueryFor N a0 a1 a2 a3).bind fun r116 =>
    (bif r116 then
    (ix a2 0).bind fun x123 =>
    (impl_AtomRelation N a0 x123.1 x123.2).bind fun r133 =>
    (slc a2 1 (a2.length : Int)).bind fun x148 =>
    (impl_PairwiseJoin_L1 N N a0 a1 a2 a3 0 [] r133.1 r133.2.1 r133.2.2 (r133.2.2.length : Int) x148 (x148.length : Int) 0).bind fun s427 =>
    lpS s427 (fun q => some q) fun (x407, x408, x411, x412, x413) =>
    (impl_Project N x408 x411 a3).bind fun r415 =>
    some ((r415.1.1, r415.1.2), x412, r415.2)
    else
    some ((0, []), 0, false))
def laws_markRelation (N : Nat) (a0 : Int) (a1 : List (List Int)) (a2 : Int) : Option (Int × (List (List Int))) :=
    (laws_markIntSS N a1 a2).bind fun r107 =>
    some (r107.1, r107.2)
def laws_heldRelation (N : Nat) (a0 : Int) (a1 : List (List Int)) (a2 : Int) : Option Int :=
    (laws_heldIntSS N a1 a2).bind fun r107 =>
    (bif decide (r107 < 0) then
    some (-1)
    else
    some r107)
def laws_FnExactPairwiseJoin (N : Nat) (a0 : List (ByteArray × (Int × List (List Int)))) (a1 : Int) (a2 : List (ByteArray × List Int)) (a3 : List Int) : Option Bool :=
    (laws_szDatabase N a0 1048576).bind fun r112 =>
    (bif decide (r112 < 0) then
    some true
    else
    (laws_szQuery N a1 a2 a3 r112).bind fun r120 =>
    (bif decide (r120 < 0) then
    some true
    else
    (laws_toDatabase N a0).bind fun r130 =>
    (laws_toQuery N a1 a2 a3).bind fun r135 =>
    (spec_PairwiseJoin N r130 r135.1 r135.2.1 r135.2.2).bind fun r142 =>
    (laws_toDatabase N a0).bind fun r153 =>
    (laws_toQuery N a1 a2 a3).bind fun r164 =>
    (impl_PairwiseJoin N r153 r164.1 r164.2.1 r164.2.2).bind fun r177 =>
    (laws_eqRelation N r177.1.1 r177.1.2 r142.1.1 r142.1.2).bind fun r189 =>
    (bif r189 then
    (bif (r177.2.1 != r142.2.1) then
    some false
    else
    (bif (r177.2.2 != r142.2.2) then
    some false
    else
    (laws_toDatabase N a0).bind fun r201 =>
    (laws_eqDatabase N r153 r201).bind fun r206 =>
    (bif r206 then
    (laws_toQuery N a1 a2 a3).bind fun r214 =>
    (laws_eqQuery N r164.1 r164.2.1 r164.2.2 r214.1 r214.2.1 r214.2.2).bind fun r221 =>
    (bif r221 then
    (laws_markDatabase N r153 1).bind fun r227 =>
    (laws_markQuery N r164.1 r164.2.1 r164.2.2 r227.1).bind fun r230 =>
    (bif decide (r230.1 < 0) then
    some false
    else
    (laws_eqRelation N r177.1.1 r177.1.2 r142.1.1 r142.1.2).bind fun r236 =>
    (bif r236 then
    (laws_markRelation N r177.1.1 r177.1.2 1).bind fun r242 =>
    (laws_heldRelation N r177.1.1 r242.2 1).bind fun r246 =>
    (bif decide (r246 < 0) then
    some false
    else
    (bif (r246 != r242.1) then
    some false
    else
    (laws_toDatabase N a0).bind fun r260 =>
    (laws_toQuery N a1 a2 a3).bind fun r265 =>
    (impl_PairwiseJoin N r260 r265.1 r265.2.1 r265.2.2).bind fun r272 =>
    (laws_eqRelation N r272.1.1 r272.1.2 r142.1.1 r142.1.2).bind fun r284 =>
    (bif r284 then
    (bif (r272.2.1 != r142.2.1) then
    some false
    else
    (bif (r272.2.2 != r142.2.2) then
    some false
    else
    (laws_heldRelation N r177.1.1 r242.2 1).bind fun r294 =>
    (bif decide (r294 < 0) then
    some false
    else
    (bif (r294 != r242.1) then
    some false
    else
    some true))))
    else
    some false)))
    else
    some false))
    else
    some false)
    else
    some false)))
    else
    some false)))
end Go.Proofs.Ytkpeabpdiffjhaa
