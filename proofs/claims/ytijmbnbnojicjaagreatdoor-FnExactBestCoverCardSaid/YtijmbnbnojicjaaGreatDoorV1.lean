/- What functions of the program come to, written out by a program: none where a bound is passed. -/
import Derived.Test.YtijmbnbnojicjaaGreatDoorV0
namespace Go.Proofs.YtijmbnbnojicjaaGreatDoor
open Go.RowKit
def gA (N:Nat):Nat→(List (Int × Int))→Int→(List (List (Int × Int)))→(List (Int × Int))→(List (Int × Int))→(List (Int × Int))→Int→Int→Option (Sum Bool Int)
 | 0,_,_,_,_,_,_,_,_=>none
 | k+1,Aa,Ab,Ac,Ad,Ae,U,z9,J =>
  (bif decide (J<z9) then
  (ix U J).bind fun Af =>
  (bif decide (Af.1<0) then
  some (.inl false)
  else
  (ad J 1).bind fun Ag =>
  gA N k Aa Ab Ac Ad Ae U z9 Ag)
  else
  some (.inr J))
def gH (N:Nat):Nat→Int→(List (List (Int × Int)))→(List (Int × Int))→(List (Int × Int))→(List (Int × Int))→Int→Int→Option (Sum Bool Int)
 | 0,_,_,_,_,_,_,_=>none
 | k+1,U,Ae,z9,Af,Aa,Ab,J =>
  (bif decide (J<Ab) then
  (ix Aa J).bind fun Ac =>
  (ix z9 J).bind fun Ad =>
  (fc N Ac.1 Ac.2 Ad.1 Ad.2).bind fun Ag =>
  (ml U Ag).bind fun Ah =>
  (bif decide (Ah<0) then
  some (.inl false)
  else
  (ad J 1).bind fun Ai =>
  gH N k U Ae z9 Af Aa Ab Ai)
  else
  some (.inr J))
def iy (N:Nat) (a0:List (List (Int × Int))) (a1:List (Int × Int)) (a2:List (Int × Int)) (a3:List (Int × Int)) (a4:Int):Option Bool :=
  (c7 N a0 a1 a2).bind fun U =>
  (bif U then
  (bif ((a3.length:Int) != (a2.length:Int)) then
  some false
  else
  (dW N a3).bind fun z9 =>
  (bif z9 then
  (gA N N a3 a4 a0 a1 a2 a3 (a3.length:Int) 0).bind fun Aa =>
  lpS Aa (fun q=>some q) fun Ac =>
  (eE N a0 a3).bind fun J =>
  (bif J.2 then
  (gH N N a4 a0 a1 a2 J.1 (J.1.length:Int) 0).bind fun Ab =>
  lpS Ab (fun q=>some q) fun Ad =>
  some true
  else
  some false)
  else
  some false))
  else
  some false)
def dX (N:Nat):Nat→(List (Int × Int))→(List (Int × Int))→Int→Int→Option (Sum Bool Int)
 | 0,_,_,_,_=>none
 | k+1,U,z9,Aa,J =>
  (bif decide (J<Aa) then
  (ix U J).bind fun Ab =>
  (ix z9 J).bind fun Ac =>
  (bif (Ab.1 == Ac.1&&Ab.2 == Ac.2) then
  (ad J 1).bind fun Ad =>
  dX N k U z9 Aa Ad
  else
  some (.inl false))
  else
  some (.inr J))
def fG (N:Nat) (a0:List (Int × Int)) (a1:List (Int × Int)):Option Bool :=
  (bif ((a0.length:Int) != (a1.length:Int)) then
  some false
  else
  (dX N N a0 a1 (a0.length:Int) 0).bind fun J =>
  lpS J (fun q=>some q) fun U =>
  some true)
def eZ (rec:Int→(List Int)→Int→(List (List (Int × Int)))→(List (Int × Int))→(List (List (Int × Int)))→(List (Int × Int))→(List (Int × Int))→Int→(List (List (Int × Int)))→Option (List (List (Int × Int)))) (N:Nat):Nat→(List Int)→Int→(List (List (Int × Int)))→(List (Int × Int))→(List (List (Int × Int)))→(List (Int × Int))→(List (Int × Int))→Int→(List (List (Int × Int)))→Int→Option ((List (List (Int × Int))) × Int)
 | 0,_,_,_,_,_,_,_,_,_,_=>none
 | k+1,z9,Aa,U,Ab,Ac,Ad,Ae,Af,Ag,J =>
  (bif decide (J<(U.length:Int)) then
  (ad J 1).bind fun Ah =>
  (iA N z9).bind fun Ai =>
  (apd 8 Ai [J]).bind fun Aj =>
  (rec Ah Aj Aa U Ab Ac Ad Ae Af Ag).bind fun Ak =>
  (ad J 1).bind fun Al =>
  eZ rec N k z9 Aa U Ab Ac Ad Ae Af Ak Al
  else
  some (Ag,J))
def c8 (rec:Int→(List Int)→Int→(List (List (Int × Int)))→(List (Int × Int))→(List (List (Int × Int)))→(List (Int × Int))→(List (Int × Int))→Int→(List (List (Int × Int)))→Option (List (List (Int × Int)))) (N:Nat):Nat→(List Int)→Int→(List (List (Int × Int)))→(List (Int × Int))→(List (List (Int × Int)))→(List (Int × Int))→(List (Int × Int))→Int→(List (List (Int × Int)))→(List (List (Int × Int)))→(List (Int × Int))→(List Int)→Int→Int→Option ((List (List (Int × Int))) × (List (Int × Int)) × Int)
 | 0,_,_,_,_,_,_,_,_,_,_,_,_,_,_=>none
 | k+1,Ag,Ah,U,z9,Ai,Aj,Ak,Al,Am,Aa,Ab,Ac,Ad,J =>
  (bif decide (J<Ad) then
  (ix Ac J).bind fun Ae =>
  (ix U Ae).bind fun An =>
  (apd 24 Aa [An]).bind fun Ao =>
  (ix z9 Ae).bind fun Af =>
  (apd 16 Ab [(Af.1,Af.2)]).bind fun Ap =>
  (ad J 1).bind fun Aq =>
  c8 rec N k Ag Ah U z9 Ai Aj Ak Al Am Ao Ap Ac Ad Aq
  else
  some (Aa,Ab,J))
def fa (rec:Int→(List Int)→Int→(List (List (Int × Int)))→(List (Int × Int))→(List (List (Int × Int)))→(List (Int × Int))→(List (Int × Int))→Int→(List (List (Int × Int)))→Option (List (List (Int × Int)))) (N:Nat):Nat→(List Int)→Int→(List (List (Int × Int)))→(List (Int × Int))→(List (List (Int × Int)))→(List (Int × Int))→(List (Int × Int))→Int→(List (List (Int × Int)))→(List (Int × Int))→(List (List (Int × Int)))→Int→Int→Option (Sum (List (List (Int × Int))) Int)
 | 0,_,_,_,_,_,_,_,_,_,_,_,_,_=>none
 | k+1,Ac,Ad,Ae,Af,Ag,Ah,Ai,Aj,U,z9,Aa,Ab,J =>
  (bif decide (J<Ab) then
  (ix Aa J).bind fun Ak =>
  (fG N z9 Ak).bind fun Al =>
  (bif Al then
  some (.inl U)
  else
  (ad J 1).bind fun Am =>
  fa rec N k Ac Ad Ae Af Ag Ah Ai Aj U z9 Aa Ab Am)
  else
  some (.inr J))
def ce:Nat→Int→(List Int)→Int→(List (List (Int × Int)))→(List (Int × Int))→(List (List (Int × Int)))→(List (Int × Int))→(List (Int × Int))→Int→(List (List (Int × Int)))→Option (List (List (Int × Int)))
 | 0,_,_,_,_,_,_,_,_,_,_=>none
 | N+1,a0,a1,a2,a3,a5,a6,a7,a8,a9,J =>
  (bif decide ((a1.length:Int)<a2) then
  (eZ (ce N) N N a1 a2 a3 a5 a6 a7 a8 a9 J a0).bind fun z9 =>
  lpB z9 fun (Aa,Ah) =>
  some Aa
  else
  (c8 (ce N) N N a1 a2 a3 a5 a6 a7 a8 a9 J [] [] a1 (a1.length:Int) 0).bind fun Ab =>
  lpB Ab fun (Ac,Ad,Ai) =>
  (eS N Ac Ad).bind fun U =>
  (bif U.2 then
  (iy N a6 a7 a8 U.1 a9).bind fun Ae =>
  (bif Ae then
  (fa (ce N) N N a1 a2 a3 a5 a6 a7 a8 a9 J U.1 J (J.length:Int) 0).bind fun Af =>
  lpS Af (fun q=>some q) fun Aj =>
  (apd 24 J [U.1]).bind fun Ag =>
  some Ag
  else
  some J)
  else
  some J))
def dz (N:Nat):Nat→(List (List (Int × Int)))→(List (Int × Int))→(List (Int × Int))→Int→Int→(List (List (Int × Int)))→(List (Int × Int))→Int→(List (Int × Int))→Int→Option ((List (Int × Int)) × Int)
 | 0,_,_,_,_,_,_,_,_,_,_=>none
 | k+1,Ab,Ac,Ad,Ae,U,Af,Ag,z9,Aa,J =>
  (bif decide (J<U) then
  (jY N (z9 == J)).bind fun Ah =>
  (apd 16 Aa [(Ah,1)]).bind fun Ai =>
  (ad J 1).bind fun Aj =>
  dz N k Ab Ac Ad Ae U Af Ag z9 Ai Aj
  else
  some (Aa,J))
def dB (N:Nat):Nat→(List (List (Int × Int)))→(List (Int × Int))→(List (Int × Int))→Int→Int→(List (List (Int × Int)))→(List (Int × Int))→Int→Option ((List (List (Int × Int))) × (List (Int × Int)) × Int)
 | 0,_,_,_,_,_,_,_,_=>none
 | k+1,Ab,Ac,Ad,Ae,U,z9,Aa,J =>
  (bif decide (J<U) then
  (dz N N Ab Ac Ad Ae U z9 Aa J [] 0).bind fun Af =>
  lpB Af fun (Ag,Ak) =>
  (apd 24 z9 [Ag]).bind fun Ah =>
  (apd 16 Aa [(0,1)]).bind fun Ai =>
  (ad J 1).bind fun Aj =>
  dB N k Ab Ac Ad Ae U Ah Ai Aj
  else
  some (z9,Aa,J))
def iz (N:Nat) (a0:List (List (Int × Int))) (a1:List (Int × Int)) (a2:List (Int × Int)) (a3:Int):Option (List (List (Int × Int))) :=
  (apd 24 [] a0).bind fun J =>
  (fd N a1).bind fun U =>
  (dB N N a0 a1 a2 a3 (a2.length:Int) J U 0).bind fun z9 =>
  lpB z9 fun (Aa,Ab,Ad) =>
  (ce N 0 [] (a2.length:Int) Aa Ab a0 a1 a2 a3 []).bind fun Ac =>
  some Ac
def fg (N:Nat) (a0:List (List (Int × Int))) (a1:List (Int × Int)) (a2:List (Int × Int)):Option (List (List (Int × Int))) :=
  (c7 N a0 a1 a2).bind fun J =>
  (bif J then
  (iz N a0 a1 a2 1).bind fun U =>
  some U
  else
  some [])
def gr (N:Nat):Nat→(List Int)→Int→(List (ByteArray × List Int))→(List Int)→(List Int)→Int→Int→Option (Sum ((List (Int × Int)) × Bool) Int)
 | 0,_,_,_,_,_,_,_=>none
 | k+1,Aa,Ab,Ac,Ad,U,z9,J =>
  (bif decide (J<z9) then
  (ix U J).bind fun Ae =>
  (cC N Ae 0 16).bind fun Af =>
  (bif Af then
  (ad J 1).bind fun Ag =>
  gr N k Aa Ab Ac Ad U z9 Ag
  else
  some (.inl ([],false)))
  else
  some (.inr J))
def cU (N:Nat):Nat→(List Int)→(List (Int × Int))→(List (List (Int × Int)))→Int→Int→Option ((List (Int × Int)) × Int)
 | 0,_,_,_,_,_=>none
 | k+1,U,z9,Aa,Ab,J =>
  (bif decide (J<Ab) then
  (ix Aa J).bind fun Ac =>
  (ff N U Ac z9).bind fun Ad =>
  (bif (Ad.1 == (-1)) then
  (ad J 1).bind fun Ae =>
  cU N k U Ac Aa Ab Ae
  else
  (ad J 1).bind fun Af =>
  cU N k U z9 Aa Ab Af)
  else
  some (z9,J))
def eY (N:Nat) (a0:Int) (a1:List (ByteArray × List Int)) (a2:List Int) (a3:List Int):Option ((List (Int × Int)) × Bool) :=
  (eJ N a0 a1 a2).bind fun Aa =>
  (bif Aa then
  (bif ((a3.length:Int) != (a1.length:Int)) then
  some ([],false)
  else
  (gr N N a3 a0 a1 a2 a3 (a3.length:Int) 0).bind fun Ab =>
  lpS Ab (fun q=>some q) fun Af =>
  (gq N a0 a1 a2).bind fun U =>
  (fg N U.1.1 U.1.2.1 U.1.2.2).bind fun J =>
  (bif ((J.length:Int) == 0) then
  some ([],false)
  else
  (ix J 0).bind fun Ac =>
  (slc J 1 (J.length:Int)).bind fun z9 =>
  (cU N N a3 Ac z9 (z9.length:Int) 0).bind fun Ad =>
  lpB Ad fun (Ae,Ag) =>
  some (Ae,true)))
  else
  some ([],false))
def fm (N:Nat) (a0:Int) (a1:Int) (a2:Int) (a3:Int):Option Bool :=
  (bif (a0 != a2) then
  some false
  else
  (bif (a1 != a3) then
  some false
  else
  some true))
def fE (N:Nat):Nat→(List (Int × Int))→(List (Int × Int))→Int→Option (Sum Bool Int)
 | 0,_,_,_=>none
 | k+1,U,z9,J =>
  (bif decide (J<(U.length:Int)) then
  (ix U J).bind fun Aa =>
  (ix z9 J).bind fun Ab =>
  (fm N Aa.1 Aa.2 Ab.1 Ab.2).bind fun Ac =>
  (bif Ac then
  (ad J 1).bind fun Ad =>
  fE N k U z9 Ad
  else
  some (.inl false))
  else
  some (.inr J))
def eW (N:Nat) (a0:List (Int × Int)) (a1:List (Int × Int)):Option Bool :=
  (bif ((a0.length:Int) != (a1.length:Int)) then
  some false
  else
  (fE N N a0 a1 0).bind fun J =>
  lpS J (fun q=>some q) fun U =>
  some true)
def ii (N:Nat):Nat→(List Int)→(List Int)→Int→Option (Sum Bool Int)
 | 0,_,_,_=>none
 | k+1,U,z9,J =>
  (bif decide (J<(U.length:Int)) then
  (ix U J).bind fun Aa =>
  (ix z9 J).bind fun Ab =>
  (bif (Aa != Ab) then
  some (.inl false)
  else
  (ad J 1).bind fun Ac =>
  ii N k U z9 Ac)
  else
  some (.inr J))
def hO (N:Nat) (a0:List Int) (a1:List Int):Option Bool :=
  (bif ((a0.length:Int) != (a1.length:Int)) then
  some false
  else
  (ii N N a0 a1 0).bind fun J =>
  lpS J (fun q=>some q) fun U =>
  some true)
def hU (N:Nat) (a0:ByteArray) (a1:List Int) (a2:ByteArray) (a3:List Int):Option Bool :=
  (bif (eqS a0 a2) then
  (hO N a1 a3).bind fun J =>
  (bif J then
  some true
  else
  some false)
  else
  some false)
def g6 (N:Nat):Nat→(List (ByteArray × List Int))→(List (ByteArray × List Int))→Int→Option (Sum Bool Int)
 | 0,_,_,_=>none
 | k+1,U,z9,J =>
  (bif decide (J<(U.length:Int)) then
  (ix U J).bind fun Aa =>
  (ix z9 J).bind fun Ab =>
  (hU N Aa.1 Aa.2 Ab.1 Ab.2).bind fun Ac =>
  (bif Ac then
  (ad J 1).bind fun Ad =>
  g6 N k U z9 Ad
  else
  some (.inl false))
  else
  some (.inr J))
def i6 (N:Nat) (a0:List (ByteArray × List Int)) (a1:List (ByteArray × List Int)):Option Bool :=
  (bif ((a0.length:Int) != (a1.length:Int)) then
  some false
  else
  (g6 N N a0 a1 0).bind fun J =>
  lpS J (fun q=>some q) fun U =>
  some true)
def iX (N:Nat) (a0:Int) (a1:List (ByteArray × List Int)) (a2:List Int) (a3:Int) (a4:List (ByteArray × List Int)) (a5:List Int):Option Bool :=
  (bif (a0 != a3) then
  some false
  else
  (i6 N a1 a4).bind fun J =>
  (bif J then
  (hO N a2 a5).bind fun U =>
  (bif U then
  some true
  else
  some false)
  else
  some false))
def dS (N:Nat):Nat→(List Int)→Int→Int→Option ((List Int) × Int × Int)
 | 0,_,_,_=>none
 | k+1,U,z9,J =>
  (bif decide (J<(U.length:Int)) then
  (ix U J).bind fun Ad =>
  (sto U J z9).bind fun Aa =>
  (ad z9 1).bind fun Ab =>
  (ad J 1).bind fun Ac =>
  dS N k Aa Ab Ac
  else
  some (U,z9,J))
def fB (N:Nat) (a0:List Int) (a1:Int):Option (Int × (List Int)) :=
  (dS N N a0 a1 0).bind fun J =>
  lpB J fun (U,z9,Aa) =>
  some (z9,U)
def fU (N:Nat):Nat→Int→ByteArray→Option (Int × ByteArray)
 | 0,_,_=>none
 | k+1,J,U =>
  (bif decide (0<J) then
  (rm J 10).bind fun z9 =>
  (ad 48 z9).bind fun Aa =>
  (my (ofB ([(IntKind.u8.wrap Aa)])) U).bind fun Ab =>
  (qt J 10).bind fun Ac =>
  fU N k Ac Ab
  else
  some (J,U))
def gO (N:Nat) (a0:Int):Option ByteArray :=
  (bif decide (a0≤0) then
  some (⟨#[109,48]⟩:ByteArray)
  else
  (fU N N a0 ByteArray.empty).bind fun J =>
  lpB J fun (Aa,U) =>
  (my (⟨#[109]⟩:ByteArray) U).bind fun z9 =>
  some z9)
def dH (N:Nat):Nat→(List (ByteArray × List Int))→Int→Int→Option ((List (ByteArray × List Int)) × Int × Int)
 | 0,_,_,_=>none
 | k+1,U,z9,J =>
  (bif decide (J<(U.length:Int)) then
  (gO N z9).bind fun Ad =>
  (ix U J).bind fun Ae =>
  (sto U J (Ad,Ae.2)).bind fun Aa =>
  (ad z9 1).bind fun Af =>
  (ix Aa J).bind fun Ab =>
  (fB N Ab.2 Af).bind fun Ac =>
  (sto Aa J (Ab.1,Ac.2)).bind fun Ag =>
  (ad J 1).bind fun Ah =>
  dH N k Ag Ac.1 Ah
  else
  some (U,z9,J))
def ij (N:Nat) (a0:List (ByteArray × List Int)) (a1:Int):Option (Int × (List (ByteArray × List Int))) :=
  (dH N N a0 a1 0).bind fun J =>
  lpB J fun (U,z9,Aa) =>
  some (z9,U)
def ig (N:Nat) (a0:Int) (a1:List (ByteArray × List Int)) (a2:List Int) (a3:Int):Option (Int × (List (ByteArray × List Int)) × (List Int)) :=
  (ij N a1 a3).bind fun J =>
  (fB N a2 J.1).bind fun U =>
  some (U.1,J.2,U.2)
def cN (N:Nat):Nat→(List (Int × Int))→Int→Int→Option ((List (Int × Int)) × Int × Int)
 | 0,_,_,_=>none
 | k+1,U,z9,J =>
  (bif decide (J<(U.length:Int)) then
  (ix U J).bind fun Ac =>
  (sto U J (z9,Ac.2)).bind fun Aa =>
  (ad z9 1).bind fun Ab =>
  (ix Aa J).bind fun Ad =>
  (sto Aa J (Ad.1,Ab)).bind fun Ae =>
  (ad Ab 1).bind fun Af =>
  (ad J 1).bind fun Ag =>
  cN N k Ae Af Ag
  else
  some (U,z9,J))
def fY (N:Nat) (a0:List (Int × Int)) (a1:Int):Option (Int × (List (Int × Int))) :=
  (cN N N a0 a1 0).bind fun J =>
  lpB J fun (U,z9,Aa) =>
  some (z9,U)
def cL (N:Nat):Nat→(List (Int × Int))→Int→Int→Option (Sum Int (Int × Int))
 | 0,_,_,_=>none
 | k+1,U,z9,J =>
  (bif decide (J<(U.length:Int)) then
  (ix U J).bind fun Ab =>
  (bif (Ab.1 != z9) then
  some (.inl (-1))
  else
  (ad z9 1).bind fun Aa =>
  (ix U J).bind fun Ac =>
  (bif (Ac.2 != Aa) then
  some (.inl (-1))
  else
  (ad Aa 1).bind fun Ad =>
  (ad J 1).bind fun Ae =>
  cL N k U Ad Ae))
  else
  some (.inr (z9,J)))
def e9 (N:Nat) (a0:List (Int × Int)) (a1:Int):Option Int :=
  (cL N N a0 a1 0).bind fun J =>
  lpS J (fun q=>some q) fun (U,z9) =>
  some U
def f9 (N:Nat) (a0:Int) (a1:List (ByteArray × List Int)) (a2:List Int) (a3:List Int):Option Bool :=
  (bif decide (1048576<(a3.length:Int)) then
  some true
  else
  (i3 N a0 a1 a2 1048576).bind fun Ai =>
  (bif decide (Ai<0) then
  some true
  else
  (f5 N a0 a1 a2).bind fun Ab =>
  (fi N a3).bind fun Aj =>
  (fP N Ab.1 Ab.2.1 Ab.2.2 Aj).bind fun U =>
  (f5 N a0 a1 a2).bind fun J =>
  (fi N a3).bind fun Ac =>
  (eY N J.1 J.2.1 J.2.2 Ac).bind fun z9 =>
  (eW N z9.1 U.1).bind fun Ak =>
  (bif Ak then
  (bif (z9.2 != U.2) then
  some false
  else
  (f5 N a0 a1 a2).bind fun Ad =>
  (iX N J.1 J.2.1 J.2.2 Ad.1 Ad.2.1 Ad.2.2).bind fun Al =>
  (bif Al then
  (fi N a3).bind fun Am =>
  (hO N Ac Am).bind fun An =>
  (bif An then
  (ig N J.1 J.2.1 J.2.2 1).bind fun Ao =>
  (fB N Ac Ao.1).bind fun Ap =>
  (bif decide (Ap.1<0) then
  some false
  else
  (eW N z9.1 U.1).bind fun Aq =>
  (bif Aq then
  (fY N z9.1 1).bind fun Aa =>
  (e9 N Aa.2 1).bind fun Af =>
  (bif decide (Af<0) then
  some false
  else
  (bif (Af != Aa.1) then
  some false
  else
  (f5 N a0 a1 a2).bind fun Ae =>
  (fi N a3).bind fun Ar =>
  (eY N Ae.1 Ae.2.1 Ae.2.2 Ar).bind fun Ag =>
  (eW N Ag.1 U.1).bind fun As =>
  (bif As then
  (bif (Ag.2 != U.2) then
  some false
  else
  (e9 N Aa.2 1).bind fun Ah =>
  (bif decide (Ah<0) then
  some false
  else
  (bif (Ah != Aa.1) then
  some false
  else
  some true)))
  else
  some false)))
  else
  some false))
  else
  some false)
  else
  some false))
  else
  some false)))
theorem tz {N:Nat}:∀ (m k:Nat) (x:Int) (b:ByteArray),0≤x→x≤9000000000000000000→x<10 ^ m→m<k→b.size+m≤1000000→∃ x' b',fU N k x b=some (x',b')∧b'.size≤b.size+m:=by
 intro m
 induction m with
 | zero =>
  intro k x b h0 hx9 h1 hk hb
  obtain ⟨k,rfl⟩:∃ k',k=k'+1:=⟨k-1,by omega⟩
  rw [fU,decide_eq_false (by simp at h1;omega),cond_false]
  exact ⟨_,_,rfl,by omega⟩
 | succ m ih =>
  intro k x b h0 hx9 h1 hk hb
  obtain ⟨k,rfl⟩:∃ k',k=k'+1:=⟨k-1,by omega⟩
  rw [fU]
  by_cases hx:0<x
  ·have hm:=Int.tmod_nonneg 10 h0
   have hm2:=Int.tmod_lt_of_pos x (by omega:(0:Int)<10)
   have hsz:(ofB [IntKind.u8.wrap (48+x.tmod 10)]++b).size=b.size+1:=by rw [ByteArray.size_append,n0];simp;omega
   have hq:x.tdiv 10=x / 10:=Int.tdiv_eq_ediv_of_nonneg h0
   have hd:0≤x / 10∧x / 10<10 ^ m:=by
    rw [Int.pow_succ] at h1
    refine ⟨by omega,?_⟩
    generalize (10:Int) ^ m=p at *
    omega
   have hxb:x / 10≤x:=by omega
   rw [decide_eq_true hx,cond_true]
   unfold rm
   rw [if_pos (by decide),bs,bF (by omega) (by omega),bs]
   unfold my
   rw [if_pos (by rw [n0];simp;omega),bs]
   by_cases hr:rng (x.tdiv 10)=true
   ·unfold qt
    rw [if_pos ⟨by decide,hr⟩,bs,hq]
    obtain ⟨x',b',e1,e2⟩:=ih k (x / 10) (ofB [IntKind.u8.wrap (48+x.tmod 10)]++b) hd.1 (by omega) hd.2 (by omega) (by omega)
    exact ⟨x',b',e1,by omega⟩
   ·exact absurd (by rw [hq];unfold rng;simp only [Bool.and_eq_true,decide_eq_true_eq];omega) hr
  ·rw [decide_eq_false hx,cond_false]
   exact ⟨_,_,rfl,by omega⟩
theorem rl {N:Nat} (hN:1073741824≤N) {s:Int} (h0:0≤s) (h1:s≤4611686018427387904):∃ t,gO N s=some t∧t.size≤1000:=by
 unfold gO
 by_cases h:s≤0
 ·rw [decide_eq_true h,cond_true];exact ⟨_,rfl,by decide⟩
 ·rw [decide_eq_false h,cond_false]
  obtain ⟨x',b',e1,e2⟩:=tz (N:=N) 19 N s ByteArray.empty h0 (by omega) (by omega) (by omega) (by simp)
  rw [e1,bs,lpB]
  simp only []
  unfold my
  have:(ByteArray.empty).size=0:=rfl
  have h2:(⟨#[109]⟩:ByteArray).size=1:=rfl
  rw [if_pos (by omega),bs]
  exact ⟨_,rfl,by rw [ByteArray.size_append];omega⟩
theorem tT {α:Type} {xs:List α} {i:Nat} {y:α} (h:i<xs.length):ix (xs.set i y) (i:Int)=some y:=by rw [aS (by simpa using h)];simp
theorem rt {α:Type} {xs:List α} {i:Nat} {y z:α} (h:i<xs.length):sto (xs.set i y) (i:Int) z=some (xs.set i z):=by rw [iC (by simpa using h),List.set_set]
theorem vW {α:Type} {b:Bool} {o:Option α} {r:α} (h:(bif b then none else o)=some r):b=false∧o=some r:=by
 cases b
 ·exact ⟨rfl,h⟩
 ·cases h
theorem ru {N:Nat} {x:List Int} {l:Int} (_:1073741824≤N) (hp:(bC (fun _=>True) 9223372036854775807) x) (h0:0≤l) (h1:l≤1048576):∃ r,iD N x l=some r∧(0≤r→(bC (fun _=>True) 1048576) x∧r≤1048576):=by
 unfold iD
 have hs:sb l (x.length:Int)=some (l-x.length):=by
  unfold sb;rw [if_pos];unfold rng;simp only [Bool.and_eq_true,decide_eq_true_eq];have:=hp.1;omega
 rw [hs,bs]
 by_cases hl:l-x.length<0
 ·rw [decide_eq_true hl,cond_true];exact ⟨-1,rfl,fun h=>absurd h (by omega)⟩
 ·rw [decide_eq_false hl,cond_false];exact ⟨_,rfl,fun _=>⟨⟨by omega,fun _ _=>trivial⟩,by omega⟩⟩
theorem vt (N:Nat):∀ k xs ys i,io N k xs ys i=ms (fun x:Int=>some x) k xs ys i:=by
 intro k
 induction k with
 | zero=>intros;rfl
 | succ k ih=>intro xs ys i;rw [io,ms];simp only [ih,bs]
theorem px {N:Nat} {x:List Int} (hN:1073741824≤N) (h:(bC (fun _=>True) 1048576) x):fi N x=some x:=by
 have:=tR (b:=8) (z:=(0:Int)) (by decide) hN (f:=fun x:Int=>some x) (fun x _=>rfl) h
 unfold gto at this;unfold fi;simp only [vt];exact this
theorem ve (N:Nat):∀ k xs ys i,ii N k xs ys i=jS (fun x y:Int=>some (decide (x=y))) k xs ys i:=by
 intro k
 induction k with
 | zero=>intros;rfl
 | succ k ih =>
  intro xs ys i;rw [ii,jS];simp only [ih,bs]
  have e:∀ x y:Int,(x != y)=!decide (x=y):=fun x y=>by by_cases h:x=y <;> simp [h]
  congr 1
  refine congrArg _ (funext fun x=>congrArg _ (funext fun y=>?_))
  rw [e];cases decide (x=y) <;> rfl
theorem o6 {N:Nat} {x y:List Int} (hN:1073741824≤N) (hx:(bC (fun _=>True) 1048576) x) (hy:(bC (fun _=>True) 1048576) y):hO N x y=some (decide (x=y)):=by
 have:=qZ hN (f:=fun x y:Int=>some (decide (x=y))) (fun x y _ _=>rfl) hx hy
 unfold geq at this;unfold hO;simp only [ve];exact this
theorem wM {N:Nat} {x:ByteArray × List Int} {l:Int} (hN:1073741824≤N) (hp:(fun x=>(fun s=>s.size≤9223372036854775807) x.1∧(bC (fun _=>True) 9223372036854775807) x.2) x) (h0:0≤l) (h1:l≤1048576):∃ r,hJ N x.1 x.2 l=some r∧(0≤r→(fun x=>(fun s=>s.size≤1048576) x.1∧(bC (fun _=>True) 1048576) x.2) x∧r≤1048576):=by
 unfold hJ
 have e0:sb l ((x.1).size:Int)=some (l-(x.1).size):=by unfold sb;rw [if_pos];unfold rng;simp only [Bool.and_eq_true,decide_eq_true_eq];have:=hp.1;omega
 rw [e0,bs]
 generalize hr0:l-((x.1).size:Int)=r0
 by_cases hn0:r0<0
 ·rw [decide_eq_true hn0,cond_true];exact ⟨-1,rfl,fun h=>absurd h (by omega)⟩
 rw [decide_eq_false hn0,cond_false]
 have b0:r0≤1048576:=by omega
 obtain ⟨r1,e1,k1⟩:=ru hN hp.2 (l:=r0) (by omega) (by omega)
 rw [e1,bs]
 by_cases hn1:r1<0
 ·rw [decide_eq_true hn1,cond_true];exact ⟨-1,rfl,fun h=>absurd h (by omega)⟩
 rw [decide_eq_false hn1,cond_false]
 have b1:r1≤1048576:=(k1 (by omega)).2
 exact ⟨_,rfl,fun _=>⟨⟨(by show (x.1).size≤1048576;omega),(k1 (by omega)).1⟩,b1⟩⟩
theorem wZ {N:Nat} {x:ByteArray × List Int} (hN:1073741824≤N) (h:(fun x=>(fun s=>s.size≤1048576) x.1∧(bC (fun _=>True) 1048576) x.2) x):hQ N x.1 x.2=some x:=by
 unfold hQ
 rw [px hN h.2,bs]
theorem wH {N:Nat} {x y:ByteArray × List Int} (hN:1073741824≤N) (hx:(fun x=>(fun s=>s.size≤1048576) x.1∧(bC (fun _=>True) 1048576) x.2) x) (hy:(fun x=>(fun s=>s.size≤1048576) x.1∧(bC (fun _=>True) 1048576) x.2) y):hU N x.1 x.2 y.1 y.2=some (decide (x=y)):=by
 unfold hU
 simp only [o6 hN hx.2 hy.2,bs,lA,uD]
 obtain ⟨x0,x1⟩:=x
 obtain ⟨y0,y1⟩:=y
 clear hx hy
 by_cases h0:x0=y0 <;> by_cases h1:x1=y1 <;> simp [h0,h1]
theorem tX (N:Nat):∀ k xs l i,gS N k xs l i=o9 (fun (x:ByteArray × List Int) l=>hJ N x.1 x.2 l) k xs l i:=by
 intro k
 induction k with
 | zero=>intros;rfl
 | succ k ih=>intro xs l i;rw [gS,o9];simp only [ih]
theorem uB {N:Nat} {x:List (ByteArray × List Int)} {l:Int} (hN:1073741824≤N) (hp:(bC (fun x=>(fun s=>s.size≤9223372036854775807) x.1∧(bC (fun _=>True) 9223372036854775807) x.2) 9223372036854775807) x) (h0:0≤l) (h1:l≤1048576):∃ r,iS N x l=some r∧(0≤r→(bC (fun x=>(fun s=>s.size≤1048576) x.1∧(bC (fun _=>True) 1048576) x.2) 1048576) x∧r≤1048576):=by
 have:=xJ hN (f:=fun (x:ByteArray × List Int) l=>hJ N x.1 x.2 l) (p:=fun x=>(fun s=>s.size≤9223372036854775807) x.1∧(bC (fun _=>True) 9223372036854775807) x.2) (ok:=fun x=>(fun s=>s.size≤1048576) x.1∧(bC (fun _=>True) 1048576) x.2) (fun x l hp h0 h1=>wM hN hp h0 h1) hp h0 h1
 unfold gsz at this;unfold iS;simp only [tX];exact this
theorem tu (N:Nat):∀ k xs ys i,gP N k xs ys i=ms (fun (x:ByteArray × List Int)=>hQ N x.1 x.2) k xs ys i:=by
 intro k
 induction k with
 | zero=>intros;rfl
 | succ k ih=>intro xs ys i;rw [gP,ms];simp only [ih]
theorem vp {N:Nat} {x:List (ByteArray × List Int)} (hN:1073741824≤N) (h:(bC (fun x=>(fun s=>s.size≤1048576) x.1∧(bC (fun _=>True) 1048576) x.2) 1048576) x):iT N x=some x:=by
 have:=tR (b:=40) (z:=((ByteArray.empty,[]):ByteArray × List Int)) (by decide) hN (f:=fun (x:ByteArray × List Int)=>hQ N x.1 x.2) (fun x hx=>wZ hN hx) h
 unfold gto at this;unfold iT;simp only [tu];exact this
theorem t9 (N:Nat):∀ k xs ys i,g6 N k xs ys i=jS (fun (x y:ByteArray × List Int)=>hU N x.1 x.2 y.1 y.2) k xs ys i:=by
 intro k
 induction k with
 | zero=>intros;rfl
 | succ k ih=>intro xs ys i;rw [g6,jS];simp only [ih]
theorem vn {N:Nat} {x y:List (ByteArray × List Int)} (hN:1073741824≤N) (hx:(bC (fun x=>(fun s=>s.size≤1048576) x.1∧(bC (fun _=>True) 1048576) x.2) 1048576) x) (hy:(bC (fun x=>(fun s=>s.size≤1048576) x.1∧(bC (fun _=>True) 1048576) x.2) 1048576) y):i6 N x y=some (decide (x=y)):=by
 have:=qZ hN (f:=fun (x y:ByteArray × List Int)=>hU N x.1 x.2 y.1 y.2) (fun x y hx hy=>wH hN hx hy) hx hy
 unfold geq at this;unfold i6;simp only [t9];exact this
theorem vz {N:Nat} {x:Int × List (ByteArray × List Int) × List Int} {l:Int} (hN:1073741824≤N) (hp:(fun x=>(bC (fun x=>(fun s=>s.size≤9223372036854775807) x.1∧(bC (fun _=>True) 9223372036854775807) x.2) 9223372036854775807) x.2.1∧(bC (fun _=>True) 9223372036854775807) x.2.2) x) (h0:0≤l) (h1:l≤1048576):∃ r,i3 N x.1 x.2.1 x.2.2 l=some r∧(0≤r→(fun x=>(bC (fun x=>(fun s=>s.size≤1048576) x.1∧(bC (fun _=>True) 1048576) x.2) 1048576) x.2.1∧(bC (fun _=>True) 1048576) x.2.2) x∧r≤1048576):=by
 unfold i3
 obtain ⟨r0,e0,k0⟩:=uB hN hp.1 (l:=l) (by omega) (by omega)
 rw [e0,bs]
 by_cases hn0:r0<0
 ·rw [decide_eq_true hn0,cond_true];exact ⟨-1,rfl,fun h=>absurd h (by omega)⟩
 rw [decide_eq_false hn0,cond_false]
 have b0:r0≤1048576:=(k0 (by omega)).2
 obtain ⟨r1,e1,k1⟩:=ru hN hp.2 (l:=r0) (by omega) (by omega)
 rw [e1,bs]
 by_cases hn1:r1<0
 ·rw [decide_eq_true hn1,cond_true];exact ⟨-1,rfl,fun h=>absurd h (by omega)⟩
 rw [decide_eq_false hn1,cond_false]
 have b1:r1≤1048576:=(k1 (by omega)).2
 exact ⟨_,rfl,fun _=>⟨⟨(k0 (by omega)).1,(k1 (by omega)).1⟩,b1⟩⟩
theorem uL {N:Nat} {x:Int × List (ByteArray × List Int) × List Int} (hN:1073741824≤N) (h:(fun x=>(bC (fun x=>(fun s=>s.size≤1048576) x.1∧(bC (fun _=>True) 1048576) x.2) 1048576) x.2.1∧(bC (fun _=>True) 1048576) x.2.2) x):f5 N x.1 x.2.1 x.2.2=some x:=by
 unfold f5
 rw [vp hN h.1,bs,px hN h.2,bs]
theorem vI {N:Nat} {x y:Int × List (ByteArray × List Int) × List Int} (hN:1073741824≤N) (hx:(fun x=>(bC (fun x=>(fun s=>s.size≤1048576) x.1∧(bC (fun _=>True) 1048576) x.2) 1048576) x.2.1∧(bC (fun _=>True) 1048576) x.2.2) x) (hy:(fun x=>(bC (fun x=>(fun s=>s.size≤1048576) x.1∧(bC (fun _=>True) 1048576) x.2) 1048576) x.2.1∧(bC (fun _=>True) 1048576) x.2.2) y):iX N x.1 x.2.1 x.2.2 y.1 y.2.1 y.2.2=some (decide (x=y)):=by
 unfold iX
 simp only [vn hN hx.1 hy.1,o6 hN hx.2 hy.2,bs,lA,uD]
 obtain ⟨x0,x1,x2⟩:=x
 obtain ⟨y0,y1,y2⟩:=y
 clear hx hy
 by_cases h0:x0=y0 <;> by_cases h1:x1=y1 <;> by_cases h2:x2=y2 <;> simp [h0,h1,h2]
theorem rp {N:Nat} {x y:Int × Int} (hN:1073741824≤N) (hx:(fun x=>True) x) (hy:(fun x=>True) y):fm N x.1 x.2 y.1 y.2=some (decide (x=y)):=by
 unfold fm
 simp only [bs,lA,uD]
 obtain ⟨x0,x1⟩:=x
 obtain ⟨y0,y1⟩:=y
 clear hx hy
 by_cases h0:x0=y0 <;> by_cases h1:x1=y1 <;> simp [h0,h1]
theorem p7 (N:Nat):∀ k xs ys i,fE N k xs ys i=jS (fun (x y:Int × Int)=>fm N x.1 x.2 y.1 y.2) k xs ys i:=by
 intro k
 induction k with
 | zero=>intros;rfl
 | succ k ih=>intro xs ys i;rw [fE,jS];simp only [ih]
theorem qX {N:Nat} {x y:List (Int × Int)} (hN:1073741824≤N) (hx:(bC (fun x=>True) 1048576) x) (hy:(bC (fun x=>True) 1048576) y):eW N x y=some (decide (x=y)):=by
 have:=qZ hN (f:=fun (x y:Int × Int)=>fm N x.1 x.2 y.1 y.2) (fun x y hx hy=>rp hN hx hy) hx hy
 unfold geq at this;unfold eW;simp only [p7];exact this
theorem pA {N:Nat} {x:List Int} (hN:1073741824≤N) (h:(bC (fun _=>True) 1048576) x) {k:Int} (h0:0≤k) (h1:k+1048576≤4611686018427387904):∃ r,fB N x k=some r∧k≤r.1∧r.1≤k+1048576:=by
 have hl:x.length≤1048576:=by have:=h.1;omega
 obtain ⟨ys,s',e1,e2,e3,e4⟩:=yT (fun n xs s i=>dS N n xs s i) (fun (_:Int) s=>(ad s 1).bind fun t=>some (t,s)) (fun _=>True) 1 4611686018427387904 (by omega)
   (fun n xs s i h r hl hr=>by
    obtain ⟨t,ht,h2⟩:=ob hr
    cases h2
    show dS N (n+1) xs s (i:Int)=_
    rw [dS,dlt h,cond_true,aS h,bs,iC h,bs,ht,bs,ad1 (by omega),bs])
   (fun n xs s=>by
    show dS N (n+1) xs s (xs.length:Int)=_
    rw [dS,dge (by omega),cond_false])
   (fun x s _ h0 h1=>⟨(s+1,s),by rw [bF (by omega) (by omega),bs],by simp only [];omega,by simp only [];omega⟩) x.length 0 N x k (by omega) (by omega) (by omega) (fun j hj _=>h.2 _ (List.getElem_mem hj)) h0 (by have h9:(x.length:Int)*1≤1048576:=(by omega);omega)
 have e1':dS N N x k 0=some (ys,s',(ys.length:Int)):=e1
 refine ⟨(s',ys),by unfold fB;rw [e1',bs,lpB],e2,?_⟩
 ·have:(x.length:Int)*1≤1048576:=by omega
  simp only [];omega
theorem uH {N:Nat} {x:List (ByteArray × List Int)} (hN:1073741824≤N) (h:(bC (fun x=>(fun s=>s.size≤1048576) x.1∧(bC (fun _=>True) 1048576) x.2) 1048576) x) {k:Int} (h0:0≤k) (h1:k+1099512676352≤4611686018427387904):∃ r,ij N x k=some r∧k≤r.1∧r.1≤k+1099512676352:=by
 have hl:x.length≤1048576:=by have:=h.1;omega
 obtain ⟨ys,s',e1,e2,e3,e4⟩:=yT (fun n xs s i=>dH N n xs s i) (fun (x:ByteArray × List Int) s=>(gO N s).bind fun t0=>(ad s 1).bind fun s0=>(fB N x.2 s0).bind fun r1=>some (r1.1,(t0,r1.2))) (fun x=>(fun s=>s.size≤1048576) x.1∧(bC (fun _=>True) 1048576) x.2) 1048577 4611686018427387904 (by omega)
   (by
  intro n xs s i h r hl hr
  obtain ⟨t0,ht0,hr⟩:=ob hr
  obtain ⟨s0,hs0,hr⟩:=ob hr
  obtain ⟨r1,hr1,hr⟩:=ob hr
  cases hr
  show dH N (n+1) xs s (i:Int)=_
  rw [dH]
  simp only [dlt h,cond_true,aS h,iC h,bs,tT h,rt h,ht0,hs0,hr1,ad1 (show i<1099511627776 by omega)])
   (fun n xs s=>by
    show dH N (n+1) xs s (xs.length:Int)=_
    rw [dH,dge (by omega),cond_false])
   (by
  intro x s hx h0 h1
  obtain ⟨t0,ht0,_⟩:=rl (N:=N) hN (s:=s) (by omega) (by omega)
  have hs0:ad s 1=some (s+1):=bF (by omega) (by omega)
  obtain ⟨r1,hr1,a1,b1⟩:=pA (x:=x.2) hN hx.2 (k:=(s+1)) (by omega) (by omega)
  exact ⟨(r1.1,(t0,r1.2)),by simp only [ht0,hs0,hr1,bs],by simp only [];omega,by simp only [];omega⟩) x.length 0 N x k (by omega) (by omega) (by omega) (fun j hj _=>h.2 _ (List.getElem_mem hj)) h0 (by have h9:(x.length:Int)*1048577≤1099512676352:=(by omega);omega)
 have e1':dH N N x k 0=some (ys,s',(ys.length:Int)):=e1
 refine ⟨(s',ys),by unfold ij;rw [e1',bs,lpB],e2,?_⟩
 ·have:(x.length:Int)*1048577≤1099512676352:=by omega
  simp only [];omega
theorem vH {N:Nat} {x:Int × List (ByteArray × List Int) × List Int} (hN:1073741824≤N) (h:(fun x=>(bC (fun x=>(fun s=>s.size≤1048576) x.1∧(bC (fun _=>True) 1048576) x.2) 1048576) x.2.1∧(bC (fun _=>True) 1048576) x.2.2) x) {k:Int} (h0:0≤k) (h1:k+1099513724928≤4611686018427387904):∃ r,ig N x.1 x.2.1 x.2.2 k=some r∧k≤r.1∧r.1≤k+1099513724928:=by
 obtain ⟨r0,e0,a0,b0⟩:=uH hN h.1 (k:=k) (by omega) (by omega)
 obtain ⟨r1,e1,a1,b1⟩:=pA hN h.2 (k:=r0.1) (by omega) (by omega)
 unfold ig
 rw [e0,bs,e1,bs]
 refine ⟨_,rfl,by simp only [];omega,by simp only [];omega⟩
theorem ql {N:Nat} {x:List (Int × Int)} (hN:1073741824≤N) (h:(bC (fun x=>True) 1048576) x) {k:Int} (h0:0≤k) (h1:k+2097152≤4611686018427387904):∃ r,fY N x k=some r∧k≤r.1∧r.1≤k+2097152∧e9 N r.2 k=some r.1:=by
 have hl:x.length≤1048576:=by have:=h.1;omega
 obtain ⟨ys,s',e1,e2,e3,e4,_,e6⟩:=gmk (fun n xs s i=>cN N n xs s i) (fun n xs s i=>cL N n xs s i) (fun (x:Int × Int) s=>(ad s 1).bind fun s0=>(ad s0 1).bind fun s1=>some (s1,(s,s0))) (fun (y:Int × Int) s=>bif (y.1 != s) then none else (ad s 1).bind fun s0=>bif (y.2 != s0) then none else (ad s0 1).bind fun s1=>some s1) (fun x=>True) 2 4611686018427387904 (by omega)
   (by
  intro n xs s i h r hl hr
  obtain ⟨s0,hs0,hr⟩:=ob hr
  obtain ⟨s1,hs1,hr⟩:=ob hr
  cases hr
  show cN N (n+1) xs s (i:Int)=_
  rw [cN]
  simp only [dlt h,cond_true,aS h,iC h,bs,tT h,rt h,hs0,hs1,ad1 (show i<1099511627776 by omega)])
   (fun n xs s=>by
    show cN N (n+1) xs s (xs.length:Int)=_
    rw [cN,dge (by omega),cond_false])
   (by
  intro n xs s i h r hl hr h0 h1
  obtain ⟨hb0,hr⟩:=vW hr
  obtain ⟨s0,hs0,hr⟩:=ob hr
  obtain ⟨hb1,hr⟩:=vW hr
  obtain ⟨s1,hs1,hr⟩:=ob hr
  cases hr
  show cL N (n+1) xs s (i:Int)=_
  rw [cL]
  simp only [dlt h,cond_true,cond_false,aS h,bs,hb0,hs0,hb1,hs1,ad1 (show i<1099511627776 by omega)])
   (fun n xs s=>by
    show cL N (n+1) xs s (xs.length:Int)=_
    rw [cL,dge (by omega),cond_false])
   (by
  intro x s hx h0 h1
  have hs0:ad s 1=some (s+1):=bF (by omega) (by omega)
  have hs1:ad (s+1) 1=some ((s+1)+1):=bF (by omega) (by omega)
  exact ⟨(((s+1)+1),(s,(s+1))),by simp only [hs0,hs1,bs],by simp only [];omega,by simp only [];omega,by simp only [hs0,hs1,bs,bne_self_eq_false,lA,decide_true,Bool.not_true,cond_false]⟩) x.length 0 N x k (by omega) (by omega) (by omega) (fun j hj _=>h.2 _ (List.getElem_mem hj)) h0 (by have h9:(x.length:Int)*2≤2097152:=(by omega);omega)
 have e1':cN N N x k 0=some (ys,s',(ys.length:Int)):=e1
 refine ⟨(s',ys),by unfold fY;rw [e1',bs,lpB],e2,?_,?_⟩
 ·have:(x.length:Int)*2≤2097152:=by omega
  simp only [];omega
 ·have e6':cL N N ys k 0=some (.inr (s',(ys.length:Int))):=e6 N (by omega)
  unfold e9;simp only [];rw [e6',bs];rfl
def inR (n lo hi:Int):Bool:=decide (lo≤n)&&decide (n≤hi)
theorem eD (N:Nat) (n lo hi:Int):cC N n lo hi=some (inR n lo hi):=by
 unfold cC inR;cases decide (lo≤n) <;> rfl
theorem d5 (N:Nat) (n lo hi:Int):cu N n lo hi=some (inR n lo hi):=by
 unfold cu inR;cases decide (lo≤n) <;> rfl
theorem cx {n lo hi:Int}:inR n lo hi=true↔lo≤n∧n≤hi:=by unfold inR;simp
def lM (a b:Int):Int:=if a<b then -1 else if b<a then 1 else 0
def yf:List Int→List Int→Int
 | [],[]=>0
 | [],_ :: _=>-1
 | _ :: _,[]=>1
 | a :: xs,b :: ys=>if a<b then -1 else if b<a then 1 else yf xs ys
theorem ie (N:Nat) (a b:Int):eU N a b=some (lM a b):=by
 unfold eU lM
 by_cases h1:a<b
 ·rw [decide_eq_true h1,if_pos h1];rfl
 ·rw [decide_eq_false h1,if_neg h1]
  by_cases h2:b<a
  ·rw [decide_eq_true h2,if_pos h2];rfl
  ·rw [decide_eq_false h2,if_neg h2];rfl
theorem jw {α:Type} {xs:List α} {i:Nat} (h:i<xs.length):xs.drop i=xs[i] :: xs.drop (i+1):=List.drop_eq_getElem_cons h
section
variable {N:Nat} {xs ys:List Int}
def fnd (v:Int):List Int→Int→Int
 | [],_=>-1
 | x :: xs,i=>if x=v then i else fnd v xs (i+1)
def kV (xs:List Int) (v:Int):Int:=fnd v xs 0
theorem qh (v:Int):∀ (xs:List Int) (i:Nat),(v∉xs∧fnd v xs i=-1)∨∃ j,∃ h:j<xs.length,xs[j]=v∧fnd v xs i=((i+j:Nat):Int)∧v∉xs.take j
 | [],i=>.inl ⟨by simp,rfl⟩
 | x :: xs,i=>by
  unfold fnd
  by_cases h:x=v
  ·rw [if_pos h];exact .inr ⟨0,by simp,by simpa using h,by simp,by simp⟩
  ·rw [if_neg h]
   rcases qh v xs (i+1) with ⟨h1,h2⟩ | ⟨j,hj,h1,h2,h3⟩
   ·exact .inl ⟨by simp [h1,Ne.symm h],by simpa using h2⟩
   ·exact .inr ⟨j+1,by simpa using hj,by simpa using h1,by rw [show ((i:Int)+1)=((i+1:Nat):Int) by simp,h2];congr 1;omega,by simp [h3,Ne.symm h]⟩
theorem su (xs:List Int) (v:Int):(v∉xs∧kV xs v=-1)∨∃ j,∃ h:j<xs.length,xs[j]=v∧kV xs v=(j:Int)∧v∉xs.take j:=by
 have:=qh v xs 0
 simpa [kV] using this
theorem mv (xs:List Int) (v:Int):decide (0≤kV xs v)=decide (v∈xs):=by
 rcases su xs v with ⟨h1,h2⟩ | ⟨j,hj,h1,h2,_⟩
 ·rw [h2,decide_eq_false (by omega),decide_eq_false h1]
 ·rw [h2,decide_eq_true (by omega),decide_eq_true (h1 ▸ List.getElem_mem hj)]
theorem sE (hN:1073741824≤N) (hx:xs.length≤1048576) (v:Int):iW N xs v=some (kV xs v):=by
 have key:∀ k i,i≤xs.length→xs.length-i<k→∃ s,gZ N k v xs (xs.length:Int) (i:Int)=some s∧(match s with | .inl r=>fnd v (xs.drop i) i=r | .inr _=>fnd v (xs.drop i) i=-1):=by
  intro k
  induction k with
  | zero=>intro i h1 h2;omega
  | succ k ih =>
   intro i h1 h2
   rw [gZ]
   by_cases h:i<xs.length
   ·rw [dlt h,cond_true,aS h,bs,jw h,fnd]
    by_cases he:xs[i]=v
    ·rw [show (xs[i] == v)=true by simpa using he,cond_true,if_pos he];exact ⟨_,rfl,rfl⟩
    ·rw [show (xs[i] == v)=false by simpa using he,cond_false,if_neg he,ad1 (by omega),bs]
     have:=ih (i+1) (by omega) (by omega)
     simpa using this
   ·rw [dge h,cond_false,List.drop_of_length_le (by omega)];exact ⟨_,rfl,rfl⟩
 obtain ⟨s,h1,h2⟩:=key N 0 (by omega) (by omega)
 unfold iW kV
 rw [show ((0:Int))=((0:Nat):Int) from rfl,h1,bs]
 simp only [List.drop_zero] at h2
 cases s with
 | inl r=>rw [h2];rfl
 | inr r=>rw [h2];rfl
theorem tg (hN:1073741824≤N) (hx:xs.length≤1048576) (v:Int):jj N xs v=some (kV xs v):=by
 have key:∀ k i,i≤xs.length→xs.length-i<k→∃ s,iq N k xs v (i:Int)=some s∧(match s with | .inl r=>fnd v (xs.drop i) i=r | .inr _=>fnd v (xs.drop i) i=-1):=by
  intro k
  induction k with
  | zero=>intro i h1 h2;omega
  | succ k ih =>
   intro i h1 h2
   rw [iq]
   by_cases h:i<xs.length
   ·rw [dlt h,cond_true,aS h,bs,jw h,fnd]
    by_cases he:xs[i]=v
    ·rw [show (xs[i] == v)=true by simpa using he,cond_true,if_pos he];exact ⟨_,rfl,rfl⟩
    ·rw [show (xs[i] == v)=false by simpa using he,cond_false,if_neg he,ad1 (by omega),bs]
     have:=ih (i+1) (by omega) (by omega)
     simpa using this
   ·rw [dge h,cond_false,List.drop_of_length_le (by omega)];exact ⟨_,rfl,rfl⟩
 obtain ⟨s,h1,h2⟩:=key N 0 (by omega) (by omega)
 unfold jj kV
 rw [show ((0:Int))=((0:Nat):Int) from rfl,h1,bs]
 simp only [List.drop_zero] at h2
 cases s with
 | inl r=>rw [h2];rfl
 | inr r=>rw [h2];rfl
theorem p4 (hN:1073741824≤N) (hx:xs.length≤1048576) (v:Int):iF N xs v=some (decide (v∈xs)):=by
 unfold iF;rw [sE hN hx,bs,mv]
def kT (xs:List Int):Bool:=xs.all fun x=>inR x 0 99
def asc:List Int→Bool
 | []=>true
 | [_]=>true
 | x :: y :: t=>decide (x<y)&&asc (y :: t)
def iU (xs:List Int) (n:Int):Bool:=(List.range' 0 xs.length).all fun i=>inR (xs.getD i 0) 0 (n-1)&&!decide (xs.getD i 0∈xs.take i)
theorem fw {xs:List Int} {i:Nat} (h:i<xs.length):xs.getD i 0=xs[i]:=by simp [h]
theorem sK (hN:1073741824≤N) (hx:xs.length≤1048576) {n:Int} (hn:-1099511627776≤n∧n≤1099511627776):i4 N xs n=some (iU xs n):=by
 have:=mR (L:=fun k i=>eM N k xs n xs (xs.length:Int) i) xs.length (by omega) false (fun i=>inR (xs.getD i 0) 0 (n-1)&&!decide (xs.getD i 0∈xs.take i)) (xs.length:Int)
  (fun k i h=>by
   show eM N (k+1) xs n xs _ (i:Int)=_
   rw [eM,dlt h,cond_true,aS h,bs,fu (by omega) (by omega),bs,eD,bs,show ((0:Int))=((0:Nat):Int) from rfl,mz (Nat.zero_le _) (by omega),bs,List.drop_zero,p4 hN (by simp;omega),bs,ad1 (by omega),bs]
   simp only [show ((0:Nat):Int)=0 from rfl,fw h]
   cases inR xs[i] 0 (n-1)
   ·rfl
   ·cases decide (xs[i]∈xs.take i) <;> rfl)
  (fun k=>by
   show eM N (k+1) xs n xs _ (xs.length:Int)=_
   rw [eM,dge (by omega),cond_false]) N 0 (by omega) (by omega)
 unfold i4 iU
 rw [show ((0:Int))=((0:Nat):Int) from rfl,this,bs,Nat.sub_zero]
 simp only [show ((0:Nat):Int)=0 from rfl]
 cases (List.range' 0 xs.length).all fun i=>inR (xs.getD i 0) 0 (n-1)&&!decide (xs.getD i 0∈xs.take i) <;> rfl
end
abbrev okI (xs:List Int):Prop:=bC (fun _=>True) 1048576 xs
def zD (n:Int) (rows:List (List Int)) (i:Nat):Bool :=
 decide (((rows.getD i []).length:Int)=n)&&kT (rows.getD i [])&&(Nat.beq i 0||decide (yf (rows.getD (i-1) []) (rows.getD i [])<0))
def uo (n:Int) (rows:List (List Int)):Bool:=inR n 0 5&&decide ((rows.length:Int)≤4000)&&(List.range' 0 rows.length).all (zD n rows)
section
variable {N:Nat}
theorem p9 {a b:Int} (h:b≠0):rm a b=some (a.tmod b):=by unfold rm;rw [if_pos h]
theorem w7 {a b:Int} (ha:0≤a) (hb:0<b):0≤a.tmod b∧a.tmod b<b:=⟨Int.tmod_nonneg _ ha,Int.tmod_lt_of_pos _ hb⟩
end
abbrev iv:=List Int × List Int
def uT (far:List Int) (i:Nat) (ch:List Int) (j:Nat):Bool:=inR (ch.getD j 0) 0 ((i:Int)-1)&&decide (far.getD (ch.getD j 0).toNat 0=far.getD (ch.getD 0 0).toNat 0)
def rR (nodes:List iv) (i:Nat) (x:iv):Bool:=((nodes.take i).drop 1).all fun m=>!decide (m=x)
def vQ (nodes:List iv) (olen:Nat) (far:List Int) (i:Nat) (x:iv):Option Int :=
 bif decide (x.1.length=x.2.length)&&kT x.1&&asc x.1 then
  bif decide (x.1.length=0) then (bif decide (i+1=nodes.length) then some (olen:Int) else none)
  else bif (List.range' 0 x.2.length).all (uT far i x.2)&&rR nodes i x then some (far.getD (x.2.getD 0 0).toNat 0+1) else none
 else none
structure VF (olen:Nat) (nodes:List iv) (far:List Int):Prop where
 pos:1≤nodes.length
 le:nodes.length≤4000
 z1:(nodes.getD 0 ([],[])).1=[]
 z2:(nodes.getD 0 ([],[])).2=[]
 len:far.length=nodes.length
 f0:far.getD 0 0=0
 last:far.getD (nodes.length-1) 0=(olen:Int)
 nd:∀ i,1≤i→i<nodes.length→vQ nodes olen (far.take i) i (nodes.getD i ([],[]))=some (far.getD i 0)
theorem sV {xs:List Int} {i j:Nat} (h:j<i):(xs.take i).getD j 0=xs.getD j 0:=by
 rw [List.getD_eq_getElem?_getD,List.getD_eq_getElem?_getD,List.getElem?_take,if_pos h]
theorem VF.node {olen:Nat} {nodes:List iv} {far:List Int} (V:VF olen nodes far) {i:Nat} (h1:1≤i) (h2:i<nodes.length) :
    (nodes.getD i ([],[])).1.length=(nodes.getD i ([],[])).2.length∧asc (nodes.getD i ([],[])).1=true ∧
    ((nodes.getD i ([],[])).1=[]∧i+1=nodes.length∧far.getD i 0=olen ∨
     (nodes.getD i ([],[])).1≠[]∧∀ j,j<(nodes.getD i ([],[])).2.length→0≤(nodes.getD i ([],[])).2.getD j 0∧(nodes.getD i ([],[])).2.getD j 0<i∧far.getD ((nodes.getD i ([],[])).2.getD j 0).toNat 0+1=far.getD i 0):=by
  have h:=V.nd i h1 h2
  generalize nodes.getD i ([],[])=x at *
  unfold vQ at h
  cases e1:(decide (x.1.length=x.2.length)&&kT x.1&&asc x.1) with
  | false=>rw [e1] at h;cases h
  | true =>
    rw [e1,cond_true] at h
    simp only [Bool.and_eq_true,decide_eq_true_eq] at e1
    refine ⟨e1.1.1,e1.2,?_⟩
    by_cases hz:x.1.length=0
    · rw [decide_eq_true hz,cond_true] at h
      by_cases hi:i+1=nodes.length
      · rw [decide_eq_true hi,cond_true] at h
        exact .inl ⟨List.length_eq_zero_iff.1 hz,hi,(Option.some.inj h).symm⟩
      · rw [decide_eq_false hi] at h;cases h
    · rw [decide_eq_false hz,cond_false] at h
      cases ha:(List.range' 0 x.2.length).all (uT (far.take i) i x.2) with
      | false=>rw [ha] at h;cases h
      | true =>
        rw [ha,Bool.true_and] at h
        cases hb:rR nodes i x with
        | false=>rw [hb] at h;cases h
        | true =>
          rw [hb,cond_true] at h
          refine .inr ⟨fun e=>hz (by simp [e]),fun j hj=>?_⟩
          have hc:∀ j,j<x.2.length→0≤x.2.getD j 0∧x.2.getD j 0<i∧far.getD (x.2.getD j 0).toNat 0=(far.take i).getD (x.2.getD 0 0).toNat 0:=by
            intro j hj
            have:=(List.all_eq_true.1 ha) j (by simp;omega)
            unfold uT at this
            simp only [Bool.and_eq_true,decide_eq_true_eq] at this
            have g:=cx.1 this.1
            refine ⟨g.1,by omega,?_⟩
            rw [← this.2,sV (by omega)]
          obtain ⟨q1,q2,q3⟩:=hc j hj
          exact ⟨q1,q2,by rw [q3];exact Option.some.inj h⟩
theorem gQ {σ V:Type} (L:Nat→σ→Int→Option V) (n:Nat) (A:Nat→σ) (v:V)
  (hstep:∀ k i,i<n→L (k+1) (A i) (i:Int)=L k (A (i+1)) ((i+1:Nat):Int)) (hend:∀ k,L (k+1) (A n) (n:Int)=some v) :
  ∀ k i,i≤n→n-i<k→L k (A i) (i:Int)=some v:=by
 intro k
 induction k with
 | zero=>intro i hi hk;omega
 | succ k ih =>
  intro i hi hk
  by_cases h:i<n
  ·rw [hstep k i h];exact ih (i+1) (by omega) (by omega)
  ·obtain rfl:i=n:=by omega
   exact hend k
theorem VF.lens {olen:Nat} {nodes:List iv} {far:List Int} (V:VF olen nodes far) {i:Nat} (h2:i<nodes.length):(nodes.getD i ([],[])).1.length=(nodes.getD i ([],[])).2.length:=by
 by_cases h1:1≤i
 ·exact (V.node h1 h2).1
 ·obtain rfl:i=0:=by omega
  rw [V.z1,V.z2]
theorem VF.asc {olen:Nat} {nodes:List iv} {far:List Int} (V:VF olen nodes far) {i:Nat} (h2:i<nodes.length):Go.Proofs.YtijmbnbnojicjaaGreatDoor.asc (nodes.getD i ([],[])).1=true:=by
 by_cases h1:1≤i
 ·exact (V.node h1 h2).2.1
 ·obtain rfl:i=0:=by omega
  rw [V.z1];rfl
theorem vM {α R V:Type} (L:Nat→Int→Option (Sum R V)) (xs:List α) (q:α→Bool) (g:α→R) (v:V) (hl:xs.length<1099511627776)
  (hstep:∀ k i (h:i<xs.length),L (k+1) (i:Int)=bif q xs[i] then some (.inl (g xs[i])) else L k ((i+1:Nat):Int)) (hend:∀ k,L (k+1) (xs.length:Int)=some (.inr v)) :
  ∀ k i,i≤xs.length→xs.length-i<k→L k (i:Int)=some (match (xs.drop i).find? q with | some x=>.inl (g x) | none=>.inr v):=by
 intro k
 induction k with
 | zero=>intro i h1 h2;omega
 | succ k ih =>
  intro i h1 h2
  by_cases h:i<xs.length
  ·rw [hstep k i h,jw h,List.find?_cons]
   cases hq:q xs[i]
   ·rw [cond_false];exact ih (i+1) (by omega) (by omega)
   ·rfl
  ·obtain rfl:i=xs.length:=by omega
   rw [hend,List.drop_length];rfl
abbrev iB:=ByteArray × (Int × List (List Int))
abbrev zL (ts:List iB):Prop:=bC (fun x=>x.1.size≤1048576∧bC (bC (fun _=>True) 1048576) 1048576 x.2.2) 1048576 ts
def lx (s:ByteArray) (i:Nat):Int:=match s[i]? with | some b=>(b.toNat:Int) | none=>0
theorem yY {s:ByteArray} {i:Nat} (h:i<s.size):bx s (i:Int)=some (lx s i):=by
 unfold bx lx
 rw [if_pos (by omega),Int.toNat_natCast,getElem?_pos s i h];rfl
def jW (s:ByteArray) (i:Nat):Bool:=!decide (lx s i<97)&&!decide (122<lx s i)
def ke (s:ByteArray):Bool:=inR s.size 1 4&&(List.range' 0 s.size).all (jW s)
def zE (ts:List iB) (i:Nat):Bool :=
 let t:=ts.getD i (ByteArray.empty,0,[])
 ke t.1&&(Nat.beq i 0||ltS (ts.getD (i-1) (ByteArray.empty,0,[])).1 t.1)&&uo t.2.1 t.2.2&&!decide (t.2.1<1)&&!decide (16<(t.2.2.length:Int))
def zY (ts:List iB):Bool:=decide ((ts.length:Int)≤6)&&(List.range' 0 ts.length).all (zE ts)
def vT (ts:List iB) (s:ByteArray):(Int × List (List Int)) × Bool :=
 bif zY ts then (match ts.find? (fun t=>decide (t.1=s)) with | some t=>(t.2,true) | none=>((0,[]),false)) else ((0,[]),false)
section
variable {N:Nat}
theorem xr {L:Nat→Int→Option (Sum Bool Int)} {s:ByteArray} (hs:s.size≤1048576) (hN:1073741824≤N)
  (hstep:∀ k i,L (k+1) i=(bif decide (i<(s.size:Int)) then (bx s i).bind fun a=>(bif decide (a<97) then some (.inl false) else (bx s i).bind fun b=>(bif decide (122<b) then some (.inl false) else (ad i 1).bind fun j=>L k j)) else some (.inr i))) :
  L N 0=some (bif (List.range' 0 s.size).all (jW s) then .inr (s.size:Int) else .inl false):=by
 have:=mR L s.size (by omega) false (jW s) (s.size:Int)
  (fun k i h=>by
   rw [hstep,dlt h,cond_true,yY h,bs,bs,ad1 (by omega),bs]
   unfold jW
   cases decide (lx s i<97)
   ·cases decide (122<lx s i) <;> rfl
   ·rfl)
  (fun k=>by rw [hstep,dge (by omega),cond_false]) N 0 (by omega) (by omega)
 rw [Nat.sub_zero] at this
 exact this
theorem mj (hN:1073741824≤N) {s:ByteArray} (hs:s.size≤1048576):gG N s=some (ke s):=by
 unfold gG i7 ke
 by_cases h1:(s.size:Int)<1
 ·rw [decide_eq_true h1,show inR (s.size:Int) 1 4=false by rw [← Bool.not_eq_true,cx];omega];rfl
 by_cases h4:(4:Int)<s.size
 ·rw [decide_eq_false h1,decide_eq_true h4,show inR (s.size:Int) 1 4=false by rw [← Bool.not_eq_true,cx];omega];rfl
 rw [decide_eq_false h1,decide_eq_false h4,show inR (s.size:Int) 1 4=true by rw [cx];omega,cond_false,cond_false,xr (L:=fun k i=>fx N k s i) hs hN (fun k i=>by
  show fx N (k+1) s i=_
  rw [fx]),bs]
 cases (List.range' 0 s.size).all (jW s) <;> rfl
theorem mm (hN:1073741824≤N) {s:ByteArray} (hs:s.size≤1048576):gE N s=some (ke s):=by
 unfold gE ke
 rw [xr (L:=fun k i=>eO N k s i) hs hN (fun k i=>by
  show eO N (k+1) s i=_
  rw [eO]),bs]
 cases (List.range' 0 s.size).all (jW s)
 ·cases inR (s.size:Int) 1 4 <;> rfl
 ·simp only [cond_true,lpS,d5,bs,Bool.and_true]
end
section
variable {N:Nat}
theorem rf {α:Type} {N:Nat} (L:Nat→Int→Option (Sum Bool Int)) (xs:List α) (q:α→Bool) (hN:1073741824≤N) (hl:xs.length≤1048576)
  (hstep:∀ k i (h:i<xs.length),L (k+1) (i:Int)=bif q xs[i] then L k ((i+1:Nat):Int) else some (.inl false)) (hend:∀ k,L (k+1) (xs.length:Int)=some (.inr (xs.length:Int))) :
  L N 0=some (bif xs.all q then .inr (xs.length:Int) else .inl false):=by
 have:=mR L xs.length (by omega) false (fun i=>if h:i<xs.length then q xs[i] else true) (xs.length:Int) (fun k i h=>by rw [hstep k i h];simp only [dif_pos h]) hend N 0 (by omega) (by omega)
 rw [Nat.sub_zero,mF xs q _ (fun i hi=>by rw [dif_pos hi])] at this
 exact this
end
theorem tW {σ R V:Type} (L:Nat→σ→Int→Option (Sum R V)) (n:Nat) (b:R) (p:Nat→Bool) (A:Nat→σ) (v:V)
  (hstep:∀ k i,i<n→L (k+1) (A i) (i:Int)=bif p i then L k (A (i+1)) ((i+1:Nat):Int) else some (.inl b)) (hend:∀ k,L (k+1) (A n) (n:Int)=some (.inr v)) :
  ∀ k i,i≤n→n-i<k→L k (A i) (i:Int)=some (bif (List.range' i (n-i)).all p then .inr v else .inl b):=by
 intro k
 induction k with
 | zero=>intro i hi hk;omega
 | succ k ih =>
  intro i hi hk
  by_cases h:i<n
  ·rw [hstep k i h,show n-i=(n-(i+1))+1 by omega,List.range'_succ,List.all_cons]
   cases hp:p i with
   | true=>rw [cond_true,Bool.true_and];exact ih (i+1) (by omega) (by omega)
   | false=>rfl
  ·obtain rfl:i=n:=by omega
   rw [hend k,Nat.sub_self];rfl
theorem gm {R V S:Type} {v:V} {f:R→Option S} {g:V→Option S}:lpS (.inr v) f g=g v:=rfl
theorem iL {R V S:Type} {v:R} {f:R→Option S} {g:V→Option S}:lpS (.inl v) f g=f v:=rfl
abbrev aY:=ByteArray × List Int
abbrev eQ (xs:List aY):Prop:=bC (fun x=>x.1.size≤1048576∧(bC (fun _=>True) 1048576) x.2) 1048576 xs
def iV (n:Int) (a:aY):Bool:=ke a.1&&inR a.2.length 1 5&&a.2.all fun v=>inR v 0 (n-1)
def ju (n:Int) (atoms:List aY):Bool:=(List.range' 0 n.toNat).all fun v=>atoms.any fun a=>decide ((v:Int)∈a.2)
def fS (n:Int) (atoms:List aY) (out:List Int):Bool:=inR n 1 5&&inR atoms.length 1 4&&iU out n&&atoms.all (iV n)&&ju n atoms
theorem rj:∀ (n:Nat) (xs:List Int),xs.Nodup→(∀ x∈xs,0≤x∧x<n)→xs.length≤n:=by
 intro n
 induction n with
 | zero =>
  intro xs _ h
  cases xs with
  | nil=>simp
  | cons x xs=>have:=h x (by simp);omega
 | succ n ih =>
  intro xs hn h
  by_cases hm:(n:Int)∈xs
  ·have h1:=ih (xs.erase (n:Int)) (hn.erase _) (fun x hx=>by
    have h2:=h x (List.mem_of_mem_erase hx)
    have h3:x≠n:=by rintro rfl;exact (hn.mem_erase_iff.1 hx).1 rfl
    omega)
   rw [List.length_erase_of_mem hm] at h1
   omega
  ·have:=ih xs hn (fun x hx=>by
    have h2:=h x hx
    have h3:x≠n:=by rintro rfl;exact hm hx
    omega)
   omega
theorem rn {xs:List Int} {n:Int} (h:iU xs n=true):xs.Nodup∧∀ x∈xs,0≤x∧x≤n-1:=by
 unfold iU at h
 rw [List.all_eq_true] at h
 have hk:∀ i (hi:i<xs.length),(0≤xs[i]∧xs[i]≤n-1)∧xs[i]∉xs.take i:=by
  intro i hi
  have:=h i (by simp;omega)
  simp only [fw hi,Bool.and_eq_true,cx,Bool.not_eq_true',decide_eq_false_iff_not] at this
  exact this
 refine ⟨?_,fun x hx=>?_⟩
 ·rw [List.nodup_iff_pairwise_ne,List.pairwise_iff_getElem]
  intro i j hi hj hij e
  refine (hk j hj).2 ?_
  rw [← e]
  have:(xs.take j)[i]'(by simp;omega)=xs[i]:=List.getElem_take
  rw [← this];exact List.getElem_mem _
 ·obtain ⟨i,hi,rfl⟩:=List.getElem_of_mem hx
  exact (hk i hi).1
theorem sN {xs:List Int} {n:Int} (h0:0≤n) (h:iU xs n=true):(xs.length:Int)≤n:=by
 obtain ⟨h1,h2⟩:=rn h
 have:=rj n.toNat xs h1 (fun x hx=>by have:=h2 x hx;omega)
 omega
def jh (m:Nat) (g:Nat→Bool):List Bool:=(List.range' 0 m).map g
theorem nX (m:Nat) (g:Nat→Bool):(jh m g).length=m:=by simp [jh]
theorem xk {m:Nat} {g:Nat→Bool} {i:Nat} (h:i<m):ix (jh m g) (i:Int)=some (g i):=by
 rw [aS (by rw [nX];exact h)];simp [jh]
theorem vE {m:Nat} {g:Nat→Bool} {c:Nat} (h:c<m):sto (jh m g) (c:Int) true=some (jh m fun v=>g v||decide (v=c)):=by
 rw [iC (by rw [nX];exact h)]
 congr 1
 refine List.ext_getElem (by simp [jh]) fun i h1 h2=>?_
 simp only [jh,List.getElem_set,List.getElem_map,List.getElem_range']
 simp only [Nat.zero_add,Nat.one_mul]
 by_cases e:c=i
 ·subst e;simp
 ·have e2:¬ i=c:=fun h=>e h.symm
  rw [if_neg e,decide_eq_false e2,Bool.or_false]
theorem nW {m:Nat} {f g:Nat→Bool} (h:∀ v,f v=g v):jh m f=jh m g:=by rw [show f=g from funext h]
theorem vK (m:Nat) (g:Nat→Bool):(jh m g).all id=(List.range' 0 m).all g:=by simp [jh,List.all_map]
theorem mi {α:Type} {p:α→Bool} {xs:List α} {i:Nat} (h:i<xs.length):(xs.take (i+1)).any p=((xs.take i).any p||p xs[i]):=by
 rw [List.take_succ_eq_append_getElem h,List.any_append];simp
theorem p8 {xs:List Int} {i:Nat} (h:i<xs.length) (v:Int):decide (v∈xs.take (i+1))=(decide (v∈xs.take i)||decide (v=xs[i])):=by
 have e:v∈xs.take (i+1)↔v∈xs.take i∨v=xs[i]:=by
  rw [List.take_succ_eq_append_getElem h,List.mem_append,List.mem_singleton]
 rw [Bool.eq_iff_iff];simp only [decide_eq_true_eq,Bool.or_eq_true];exact e
section
variable {N:Nat}
def iO (m:Nat) (atoms:List aY) (i:Nat):List Bool:=jh m fun v=>(atoms.take i).any fun a=>decide ((v:Int)∈a.2)
def jH (m:Nat) (atoms:List aY) (i:Nat) (xs:List Int) (j:Nat):List Bool:=jh m fun v=>(atoms.take i).any (fun a=>decide ((v:Int)∈a.2))||decide ((v:Int)∈xs.take j)
theorem wP (m:Nat) (atoms:List aY) (i:Nat) (xs:List Int):jH m atoms i xs 0=iO m atoms i:=nW fun v=>by simp
theorem sU (m:Nat) (atoms:List aY) {i:Nat} (h:i<atoms.length):jH m atoms i atoms[i].2 atoms[i].2.length=iO m atoms (i+1):=nW fun v=>by rw [List.take_length,mi h]
theorem sO {m:Nat} {atoms:List aY} {i:Nat} {xs:List Int} {j c:Nat} (hj:j<xs.length) (hc:xs[j]=(c:Int)) (hm:c<m):sto (jH m atoms i xs j) (c:Int) true=some (jH m atoms i xs (j+1)):=by
 unfold jH
 rw [vE hm]
 congr 1
 refine nW fun v=>?_
 rw [p8 hj,hc,Bool.or_assoc]
 congr 2
 rw [decide_eq_decide];omega
theorem uK {m:Nat} {atoms:List aY} {i:Nat} {xs:List Int} {j c:Nat} (hm:c<m):∃ b,ix (jH m atoms i xs j) (c:Int)=some b:=⟨_,xk hm⟩
theorem wL (m:Nat) (atoms:List aY):List.replicate m false=iO m atoms 0:=by
 refine List.ext_getElem (by simp [iO,jh]) fun i h1 h2=>?_
 simp [iO,jh]
theorem rk {m:Nat} {atoms:List aY} {i:Nat} {xs:List Int} {t:List aY} {tl ti:Int} (hx:xs.length≤1048576) (hm:m≤5) (k j:Nat) (hj:j<xs.length) :
  cE N (k+1) (m:Int) (jH m atoms i xs j) t tl ti xs (xs.length:Int) (j:Int)=bif (if h:j<xs.length then inR xs[j] 0 ((m:Int)-1) else true) then cE N k (m:Int) (jH m atoms i xs (j+1)) t tl ti xs (xs.length:Int) ((j+1:Nat):Int) else some (.inl false):=by
 rw [cE,dlt hj,cond_true,aS hj,bs,fu (by omega) (by omega),bs,eD,bs,dif_pos hj]
 cases hc:inR xs[j] 0 ((m:Int)-1) with
 | false=>rw [cond_false,cond_false]
 | true =>
  have hc':=cx.1 hc
  obtain ⟨c,hcc⟩:=Int.eq_ofNat_of_zero_le hc'.1
  obtain ⟨b,hb⟩:=uK (m:=m) (atoms:=atoms) (i:=i) (xs:=xs) (j:=j) (c:=c) (by omega)
  rw [cond_true,cond_true,hcc,hb,bs,sO hj hcc (by omega),bs,ad1 (by omega),bs]
theorem xD (hN:1073741824≤N) {m:Nat} {atoms:List aY} {i:Nat} {xs:List Int} {t:List aY} {tl ti:Int} (hx:xs.length≤1048576) (hm:m≤5) :
  cE N N (m:Int) (iO m atoms i) t tl ti xs (xs.length:Int) 0=some (bif xs.all (fun v=>inR v 0 ((m:Int)-1)) then .inr (jH m atoms i xs xs.length,(xs.length:Int)) else .inl false):=by
 have h:=tW (fun k (s:List Bool) j=>cE N k (m:Int) s t tl ti xs (xs.length:Int) j) xs.length false (fun j=>if h:j<xs.length then inR xs[j] 0 ((m:Int)-1) else true) (jH m atoms i xs) (jH m atoms i xs xs.length,(xs.length:Int))
  (fun k j hj=>rk hx hm k j hj)
  (fun k=>by
   show cE N (k+1) (m:Int) _ t tl ti xs _ (xs.length:Int)=_
   rw [cE,dge (by omega),cond_false]) N 0 (by omega) (by omega)
 rw [Nat.sub_zero,mF xs (fun v=>inR v 0 ((m:Int)-1)) _ (fun j hj=>by rw [dif_pos hj]),wP] at h
 exact h
theorem ro (hN:1073741824≤N) {m:Nat} {atoms:List aY} (ha:eQ atoms) (hm:m≤5) (k i:Nat) (h:i<atoms.length) :
  cI N (k+1) (m:Int) (iO m atoms i) atoms (atoms.length:Int) (i:Int)=bif (if h:i<atoms.length then iV m atoms[i] else true) then cI N k (m:Int) (iO m atoms (i+1)) atoms (atoms.length:Int) ((i+1:Nat):Int) else some (.inl false):=by
 have hl:=ha.1
 obtain ⟨g1,g2⟩:=ha.2 _ (List.getElem_mem h)
 rw [cI,dlt h,cond_true,aS h,bs,mj hN g1,bs,eD,bs,dif_pos h]
 unfold iV
 cases ke atoms[i].1 with
 | false=>simp only [Bool.false_and,Bool.and_false,Bool.true_and,cond_false,cond_true]
 | true =>
  cases inR (atoms[i].2.length:Int) 1 5 with
  | false=>simp only [Bool.false_and,Bool.and_false,Bool.true_and,cond_false,cond_true]
  | true =>
   simp only [cond_true,Bool.true_and]
   rw [xD hN g2.1 hm,bs]
   cases atoms[i].2.all fun v=>inR v 0 ((m:Int)-1) with
   | false=>simp only [cond_false,lpS]
   | true =>
    rw [cond_true,gm,ad1 (by omega),bs,sU m atoms h,cond_true]
theorem xt (hN:1073741824≤N) {m:Nat} {atoms:List aY} (ha:eQ atoms) (hm:m≤5) :
  cI N N (m:Int) (List.replicate m false) atoms (atoms.length:Int) 0=some (bif atoms.all (iV m) then .inr (iO m atoms atoms.length,(atoms.length:Int)) else .inl false):=by
 have hl:=ha.1
 have h:=tW (fun k (s:List Bool) i=>cI N k (m:Int) s atoms (atoms.length:Int) i) atoms.length false (fun i=>if h:i<atoms.length then iV m atoms[i] else true) (iO m atoms) (iO m atoms atoms.length,(atoms.length:Int))
  (fun k i h=>ro hN ha hm k i h)
  (fun k=>by
   show cI N (k+1) (m:Int) _ atoms _ (atoms.length:Int)=_
   rw [cI,dge (by omega),cond_false]) N 0 (by omega) (by omega)
 rw [Nat.sub_zero,mF atoms (iV m) _ (fun i hi=>by rw [dif_pos hi]),← wL] at h
 exact h
theorem xS (hN:1073741824≤N) {xs:List Bool} (hx:xs.length≤1048576):c4 N N xs (xs.length:Int) 0=some (bif xs.all id then .inr (xs.length:Int) else .inl false) :=
 rf (fun k i=>c4 N k xs (xs.length:Int) i) xs id hN hx
  (fun k i h=>by
   show c4 N (k+1) _ _ (i:Int)=_
   rw [c4,dlt h,cond_true,aS h,bs,ad1 (by omega),bs];rfl)
  (fun k=>by
   show c4 N (k+1) _ _ (xs.length:Int)=_
   rw [c4,dge (by omega),cond_false])
theorem tI {m:Nat} {atoms:List aY}:(iO m atoms atoms.length).all id=ju m atoms:=by
 unfold iO ju
 rw [vK,Int.toNat_natCast,List.take_length]
theorem oS {n:Int} {atoms:List aY} {out:List Int} (h:inR n 1 5=false):fS n atoms out=false:=by unfold fS;rw [h];rfl
theorem gv (hN:1073741824≤N) {n:Int} {atoms:List aY} {out:List Int} (ha:eQ atoms) (ho:okI out):eJ N n atoms out=some (fS n atoms out):=by
 have hl:=ha.1
 unfold eJ
 rw [eD,bs,eD,bs]
 cases hn:inR n 1 5 with
 | false=>rw [oS hn];rfl
 | true =>
  have hn':=cx.1 hn
  unfold fS
  rw [hn,cond_true,sK hN ho.1 (by omega),bs]
  cases inR (atoms.length:Int) 1 4 with
  | false=>rfl
  | true =>
   cases iU out n with
   | false=>rfl
   | true =>
    obtain ⟨m,rfl⟩:=Int.eq_ofNat_of_zero_le (by omega:0≤n)
    simp only [cond_true,Bool.and_self,Bool.true_and]
    rw [og (by decide) (by omega),bs,xt hN ha (by omega),bs]
    cases atoms.all (iV m) with
    | false=>rfl
    | true =>
     simp only [cond_true,lpS,Bool.true_and]
     rw [xS hN (by unfold iO;rw [nX];omega),bs,tI]
     cases ju m atoms <;> rfl
theorem iR (hN:1073741824≤N) {s:ByteArray} {xs:List Int} {v:Int} (hx:okI xs):ez N s xs v=some (decide (v∈xs)):=by
 have hl:=hx.1
 have:=vM (fun k i=>b9 N k v s xs i) xs (fun x=>decide (x=v)) (fun _=>true) (xs.length:Int) (by omega)
  (fun k i h=>by
   show b9 N (k+1) v s xs (i:Int)=_
   rw [b9,dlt h,cond_true,aS h,bs,ad1 (by omega),bs,zK])
  (fun k=>by
   show b9 N (k+1) v s xs (xs.length:Int)=_
   rw [b9,dge (by omega),cond_false]) N 0 (by omega) (by omega)
 rw [List.drop_zero] at this
 have this':b9 N N v s xs 0=_:=this
 unfold ez
 rw [this',bs]
 cases hf:xs.find? (fun x=>decide (x=v)) with
 | none =>
  have:v∉xs:=fun hm=>by have:=(List.find?_eq_none.1 hf) v hm;simp at this
  simp [lpS,this]
 | some y =>
  have h1:=List.find?_some hf
  have h2:=List.mem_of_find?_eq_some hf
  have:v∈xs:=by simp at h1;rw [← h1];exact h2
  simp [lpS,this]
theorem kN (hN:1073741824≤N) {s:ByteArray} {xs:List Int} {v:Int} (hx:okI xs):fb N s xs v=some (decide (v∈xs)):=by
 unfold fb;rw [p4 hN hx.1,bs]
theorem xF (hN:1073741824≤N) {n:Int} {atoms:List aY} {out:List Int} {i:Nat} (h:i<atoms.length) (hn:n≤5) (h0:0≤n) (hx:atoms[i].2.length≤1048576) :
  c5 N N n atoms out (i:Int) 0=some (bif atoms[i].2.all (fun v=>inR v 0 (n-1)) then .inr (atoms[i].2.length:Int) else .inl false) :=
 rf (fun k2 j=>c5 N k2 n atoms out (i:Int) j) atoms[i].2 (fun v=>inR v 0 (n-1)) hN hx
  (fun k2 j hj=>by
   show c5 N (k2+1) n atoms out (i:Int) (j:Int)=_
   rw [c5,aS h,bs,dlt hj,cond_true,bs,aS hj,bs,fu (by omega) (by omega),bs,d5,bs,ad1 (by omega),bs])
  (fun k2=>by
   show c5 N (k2+1) n atoms out (i:Int) (atoms[i].2.length:Int)=_
   rw [c5,aS h,bs,dge (by omega),cond_false])
theorem xT (hN:1073741824≤N) {n:Int} {atoms:List aY} {out:List Int} (ha:eQ atoms) (hn:n≤5) (h0:0≤n) :
  cX N N n atoms out 0=some (bif atoms.all (iV n) then .inr (atoms.length:Int) else .inl false) :=
 rf (fun k i=>cX N k n atoms out i) atoms (iV n) hN ha.1
  (fun k i h=>by
   have hl:=ha.1
   obtain ⟨g1,g2⟩:=ha.2 _ (List.getElem_mem h)
   show cX N (k+1) n atoms out (i:Int)=_
   rw [cX,dlt h,cond_true,aS h,bs,mm hN g1,bs,bs,d5,bs]
   unfold iV
   cases ke atoms[i].1 with
   | false=>simp only [Bool.false_and,Bool.and_false,Bool.true_and,cond_false,cond_true]
   | true =>
    cases inR (atoms[i].2.length:Int) 1 5 with
    | false=>simp only [Bool.false_and,Bool.and_false,Bool.true_and,cond_false,cond_true]
    | true =>
     simp only [cond_true,Bool.true_and]
     rw [xF hN h hn h0 g2.1,bs]
     cases atoms[i].2.all fun v=>inR v 0 (n-1) with
     | false=>simp only [cond_false,lpS]
     | true =>
      rw [cond_true,gm,ad1 (by omega),bs,cond_true])
  (fun k=>by
   show cX N (k+1) n atoms out (atoms.length:Int)=_
   rw [cX,dge (by omega),cond_false])
theorem yk (hN:1073741824≤N) {n v:Int} {atoms:List aY} {out:List Int} (ha:eQ atoms) :
  cG N N n atoms out v false 0=some (atoms.any (fun a=>decide (v∈a.2)),(atoms.length:Int)):=by
 have hl:=ha.1
 exact gQ (fun k2 (s:Bool) j=>cG N k2 n atoms out v s j) atoms.length (fun j=>(atoms.take j).any fun a=>decide (v∈a.2)) (atoms.any (fun a=>decide (v∈a.2)),(atoms.length:Int))
  (fun k2 j hj=>by
   obtain ⟨g1,g2⟩:=ha.2 _ (List.getElem_mem hj)
   show cG N (k2+1) n atoms out v _ (j:Int)=_
   rw [cG,dlt hj,cond_true,mi hj,ad1 (by omega),bs,aS hj,bs,iR hN g2,bs,bs]
   cases (atoms.take j).any fun a=>decide (v∈a.2) <;> rfl)
  (fun k2=>by
   show cG N (k2+1) n atoms out v _ (atoms.length:Int)=_
   rw [cG,dge (by omega),cond_false,List.take_length]) N 0 (by omega) (by omega)
theorem yO (hN:1073741824≤N) {m:Nat} {atoms:List aY} {out:List Int} (ha:eQ atoms) (hm:m≤5) :
  cY N N (m:Int) atoms out 0=some (bif ju m atoms then .inr (m:Int) else .inl false):=by
 have h:=mR (fun k i=>cY N k (m:Int) atoms out i) m (by omega) false (fun v=>atoms.any fun a=>decide ((v:Int)∈a.2)) (m:Int)
  (fun k v h=>by
   show cY N (k+1) (m:Int) atoms out (v:Int)=_
   rw [cY,dlt h,cond_true,yk hN ha,bs,lpB]
   simp only []
   rw [ad1 (by omega),bs])
  (fun k=>by
   show cY N (k+1) (m:Int) atoms out (m:Int)=_
   rw [cY,dge (by omega),cond_false]) N 0 (by omega) (by omega)
 unfold ju
 rw [Int.toNat_natCast]
 rw [Nat.sub_zero] at h
 exact h
theorem xu (hN:1073741824≤N) {n:Int} {atoms:List aY} {out:List Int} (ho:out.length≤1048576) (hn:n≤5) (h0:0≤n) :
  c6 N N n atoms out 0=some (bif iU out n then .inr (out.length:Int) else .inl false):=by
 have h:=mR (fun k i=>c6 N k n atoms out i) out.length (by omega) false (fun i=>inR (out.getD i 0) 0 (n-1)&&!decide (out.getD i 0∈out.take i)) (out.length:Int)
  (fun k i h=>by
   show c6 N (k+1) n atoms out (i:Int)=_
   rw [c6,dlt h,cond_true,aS h,bs,fu (by omega) (by omega),bs,d5,bs,show ((0:Int))=((0:Nat):Int) from rfl,mz (Nat.zero_le _) (by omega),bs,bs,List.drop_zero,tg hN (by simp;omega),bs,ad1 (by omega),bs]
   simp only [fw h,mv,show ((0:Nat):Int)=0 from rfl]
   cases inR out[i] 0 (n-1)
   ·rfl
   ·cases decide (out[i]∈out.take i) <;> rfl)
  (fun k=>by
   show c6 N (k+1) n atoms out (out.length:Int)=_
   rw [c6,dge (by omega),cond_false]) N 0 (by omega) (by omega)
 rw [Nat.sub_zero] at h
 exact h
theorem jG (hN:1073741824≤N) {n:Int} {atoms:List aY} {out:List Int} (ha:eQ atoms) (ho:okI out):gt N n atoms out=some (fS n atoms out):=by
 have hl:=ha.1
 have hol:=ho.1
 unfold gt
 rw [d5,bs,d5,bs]
 cases hn:inR n 1 5 with
 | false=>rw [oS hn];rfl
 | true =>
  have hn':=cx.1 hn
  unfold fS
  rw [hn]
  cases inR (atoms.length:Int) 1 4 with
  | false=>rfl
  | true =>
   simp only [cond_true,Bool.true_and]
   by_cases hlen:n<(out.length:Int)
   ·have:iU out n=false:=by
     rw [← Bool.not_eq_true];intro h
     have:=sN (by omega) h;omega
    rw [decide_eq_true hlen,cond_true,this];rfl
   ·obtain ⟨m,rfl⟩:=Int.eq_ofNat_of_zero_le (by omega:0≤n)
    rw [decide_eq_false hlen,cond_false,xT hN ha (by omega) (by omega),bs]
    cases atoms.all (iV m) with
    | false=>rw [Bool.and_false,Bool.false_and];rfl
    | true =>
     simp only [cond_true,lpS,Bool.and_true]
     rw [yO hN ha (by omega),bs]
     cases ju m atoms with
     | false=>rw [Bool.and_false];rfl
     | true =>
      simp only [cond_true,lpS,Bool.and_true]
      rw [xu hN hol (by omega) (by omega),bs]
      cases iU out m <;> rfl
theorem kc {n:Int} {atoms:List aY} {out:List Int} (h:fS n atoms out=true):1≤n∧n≤5∧1≤(atoms.length:Int)∧(atoms.length:Int)≤4:=by
 unfold fS at h
 simp only [Bool.and_eq_true,cx] at h
 exact ⟨h.1.1.1.1.1,h.1.1.1.1.2,h.1.1.1.2.1,h.1.1.1.2.2⟩
end
section
variable {N:Nat}
theorem zO (N:Nat):∀ (k:Nat) (x y:Int),cQ N k x y=fV N k x y:=by
 intro k
 induction k with
 | zero=>intro x y;rw [cQ,fV]
 | succ k ih=>intro x y;rw [cQ,fV];simp only [ih]
theorem nT (N:Nat) (x y:Int):dT N x y=gl N x y:=by unfold dT gl;rw [zO]
theorem vX {a b:Int} (ha:0≤a) (hb:0<b) (h:a≤4611686018427387904):qt a b=some (a.tdiv b):=by
 have h1:0≤a.tdiv b:=Int.tdiv_nonneg ha (by omega)
 have h2:a.tdiv b≤a:=Int.tdiv_le_self b ha
 unfold qt;rw [if_pos ⟨by omega,lu (by omega) (by omega)⟩]
theorem rq {a b:Int} (ha:0≤a) (hb:0<b):0≤a.tdiv b∧a.tdiv b≤a:=⟨Int.tdiv_nonneg ha (by omega),Int.tdiv_le_self b ha⟩
theorem tm:∀ (m k:Nat) (x y:Int),0≤x→0≤y→y≤m→m<k→(0<x∨0<y)→∃ g z,fV N k x y=some (g,z)∧0<g:=by
 intro m
 induction m with
 | zero =>
  intro k x y hx hy hm hk h
  obtain ⟨k,rfl⟩:∃ k',k=k'+1:=⟨k-1,by omega⟩
  obtain rfl:y=0:=by omega
  rw [fV,show ((0:Int) != 0)=false from rfl,cond_false]
  exact ⟨x,0,rfl,by omega⟩
 | succ m ih =>
  intro k x y hx hy hm hk h
  obtain ⟨k,rfl⟩:∃ k',k=k'+1:=⟨k-1,by omega⟩
  rw [fV]
  by_cases h0:y=0
  ·subst h0
   rw [show ((0:Int) != 0)=false from rfl,cond_false]
   exact ⟨x,0,rfl,by omega⟩
  ·rw [show (y != 0)=true by simpa using h0,cond_true,p9 h0,bs]
   obtain ⟨t1,t2⟩:=w7 (b:=y) hx (by omega)
   exact ih k y (x.tmod y) hy t1 (by omega) (by omega) (.inl (by omega))
theorem qW (hN:1073741824≤N) {x y:Int} (hx:0≤x) (hy:0≤y) (h1:y≤1000000000) (h:0<x∨0<y):∃ g,gl N x y=some g∧0<g:=by
 obtain ⟨g,z,e,hg⟩:=tm (N:=N) 1000000000 N x y hx hy (by omega) (by omega) h
 refine ⟨g,?_,hg⟩
 unfold gl;rw [e,bs,lpB]
abbrev cK:=Int × Int
theorem kC (N:Nat) (n d:Int):ay N n d=bh N n d:=by
 unfold ay bh
 rw [d5,eD,bs,bs,d5,eD,bs,bs]
 unfold ir
 cases inR d 1 1000000000
 ·rfl
 cases inR n (-1000000000) 1000000000
 ·rfl
 rw [cond_true,cond_true,cond_true,cond_true]
 cases sb 0 n with
 | none=>rfl
 | some z=>rw [bs,bs,bs,nT]
theorem qz (hN:1073741824≤N) (n d:Int):∃ b,bh N n d=some b∧(b=true→1≤d∧d≤1000000000∧-1000000000≤n∧n≤1000000000):=by
 unfold bh
 rw [eD,bs,eD,bs]
 cases h1:inR d 1 1000000000
 ·exact ⟨false,rfl,fun h=>by cases h⟩
 cases h2:inR n (-1000000000) 1000000000
 ·exact ⟨false,rfl,fun h=>by cases h⟩
 have h1':=cx.1 h1
 have h2':=cx.1 h2
 have hab:0≤imx n (0-n):=by unfold imx;split <;> omega
 obtain ⟨g,e,_⟩:=qW (N:=N) hN hab (by omega:0≤d) (by omega) (.inr (by omega))
 unfold ir
 rw [cond_true,cond_true,fu (by omega) (by omega),bs,bs,e,bs]
 exact ⟨_,rfl,fun _=>⟨h1'.1,h1'.2,h2'.1,h2'.2⟩⟩
def wOk (N:Nat) (r:cK):Bool:=(bh N r.1 r.2).getD false&&decide (0≤r.1)
theorem lX (hN:1073741824≤N) {r:cK} (h:wOk N r=true):bh N r.1 r.2=some true∧0≤r.1∧r.1≤1000000000∧1≤r.2∧r.2≤1000000000:=by
 obtain ⟨b,e,hb⟩:=qz hN r.1 r.2
 unfold wOk at h
 rw [e,Option.getD_some,Bool.and_eq_true,decide_eq_true_eq] at h
 obtain ⟨rfl,h2⟩:=h
 have:=hb rfl
 exact ⟨e,h2,this.2.2.2,this.1,this.2.1⟩
theorem pD (hN:1073741824≤N) (r:cK):wOk N r=true∨(wOk N r=false∧(bh N r.1 r.2=some false∨bh N r.1 r.2=some true∧r.1<0)):=by
 obtain ⟨b,e,hb⟩:=qz hN r.1 r.2
 unfold wOk
 rw [e,Option.getD_some]
 cases b with
 | false=>exact .inr ⟨rfl,.inl rfl⟩
 | true =>
  by_cases h:0≤r.1
  ·exact .inl (by rw [decide_eq_true h];rfl)
  ·exact .inr ⟨by rw [decide_eq_false h];rfl,.inr ⟨rfl,by omega⟩⟩
def km (N:Nat) (d:Int) (r:cK):Int:=(d.tdiv ((gl N d r.2).getD 1))*r.2
theorem nK (hN:1073741824≤N) {d:Int} {r:cK} (h:wOk N r=true) (h0:0≤d) (h1:d≤1000):∃ g,gl N d r.2=some g∧qt d g=some (d.tdiv g)∧ml (d.tdiv g) r.2=some (km N d r)∧0≤km N d r:=by
 obtain ⟨_,_,_,k1,k2⟩:=lX hN h
 obtain ⟨g,e,hg⟩:=qW (N:=N) hN h0 (by omega:0≤r.2) k2 (.inr (by omega))
 obtain ⟨t1,t2⟩:=rq h0 hg
 have hm:0≤d.tdiv g*r.2:=Int.mul_nonneg t1 (by omega)
 have hm2:d.tdiv g*r.2≤1000*1000000000:=Int.mul_le_mul (by omega) k2 (by omega) (by omega)
 have es:km N d r=d.tdiv g*r.2:=by unfold km;rw [e];rfl
 refine ⟨g,e,vX h0 hg (by omega),?_,?_⟩
 ·rw [es,eL (by omega) (by omega)]
 ·rw [es];exact hm
def sD (N:Nat) (rs:List cK):Nat→Nat→Int→Option Int
 | 0,_,d=>some d
 | m+1,i,d=>if 1000<km N d (rs.getD i (0,0)) then none else sD N rs m (i+1) (km N d (rs.getD i (0,0)))
theorem zj (hN:1073741824≤N) {rs:List cK} (ha:∀ i,i<rs.length→wOk N (rs.getD i (0,0))=true):∀ m i d d',i+m=rs.length→0≤d→d≤1000→sD N rs m i d=some d'→0≤d'∧d'≤1000:=by
 intro m
 induction m with
 | zero=>intro i d d' _ h0 h1 h;unfold sD at h;cases h;exact ⟨h0,h1⟩
 | succ m ih =>
  intro i d d' hi h0 h1 h
  unfold sD at h
  obtain ⟨g,_,_,_,g4⟩:=nK hN (ha i (by omega)) h0 h1
  by_cases hc:1000<km N d (rs.getD i (0,0))
  ·rw [if_pos hc] at h;cases h
  ·rw [if_neg hc] at h;exact ih (i+1) _ d' (by omega) g4 (by omega) h
theorem kB {rs:List cK} {i:Nat} (h:i<rs.length):rs[i]=rs.getD i (0,0):=by simp [h]
def qp (rs:List cK) (o:Option Int):Sum (List Int × Int) (Int × Int):=match o with | none=>.inl ([],0) | some d=>.inr (d,(rs.length:Int))
theorem tc (hN:1073741824≤N) {rs:List cK} (hl:rs.length≤1048576):∀ m i k d,i+m=rs.length→m<k→0≤d→d≤1000 →
  bL N k rs d (i:Int)=some (bif (List.range' i m).all (fun j=>wOk N (rs.getD j (0,0))) then qp rs (sD N rs m i d) else .inl ([],0)):=by
 intro m
 induction m with
 | zero =>
  intro i k d hi hk h0 h1
  obtain ⟨k,rfl⟩:∃ k',k=k'+1:=⟨k-1,by omega⟩
  obtain rfl:i=rs.length:=by omega
  rw [bL,dge (by omega),cond_false];rfl
 | succ m ih =>
  intro i k d hi hk h0 h1
  obtain ⟨k,rfl⟩:∃ k',k=k'+1:=⟨k-1,by omega⟩
  have h:i<rs.length:=by omega
  rw [bL,dlt h,cond_true,aS h,bs,kB h,kC,List.range'_succ,List.all_cons]
  rcases pD hN (rs.getD i (0,0)) with hw | ⟨hw,hw2 | ⟨hw2,hw3⟩⟩
  ·obtain ⟨k1,k2,k3,k4,k5⟩:=lX hN hw
   obtain ⟨g,g1,g2,g3,g4⟩:=nK hN hw h0 h1
   rw [hw,k1,bs,cond_true,bs,decide_eq_false (by omega),cond_false,bs,nT,g1,bs,g2,bs,bs,g3,bs,Bool.true_and,sD]
   by_cases hc:1000<km N d (rs.getD i (0,0))
   ·rw [decide_eq_true hc,cond_true,if_pos hc]
    cases (List.range' (i+1) m).all (fun j=>wOk N (rs.getD j (0,0))) <;> rfl
   ·rw [decide_eq_false hc,cond_false,if_neg hc,ad1 (by omega),bs,ih (i+1) k _ (by omega) (by omega) g4 (by omega)]
  ·rw [hw,hw2,bs,cond_false,Bool.false_and,cond_false]
  ·rw [hw,hw2,bs,cond_true,bs,decide_eq_true hw3,cond_true,Bool.false_and,cond_false]
theorem tS (hN:1073741824≤N) {rs:List cK} (hl:rs.length≤1048576):∀ m i k d,i+m=rs.length→m<k →
  dn N k rs d rs (rs.length:Int) (i:Int)=some (bif (List.range' i m).all (fun j=>wOk N (rs.getD j (0,0))) then .inr (rs.length:Int) else .inl ([],0)):=by
 intro m
 induction m with
 | zero =>
  intro i k d hi hk
  obtain ⟨k,rfl⟩:∃ k',k=k'+1:=⟨k-1,by omega⟩
  obtain rfl:i=rs.length:=by omega
  rw [dn,dge (by omega),cond_false];rfl
 | succ m ih =>
  intro i k d hi hk
  obtain ⟨k,rfl⟩:∃ k',k=k'+1:=⟨k-1,by omega⟩
  have h:i<rs.length:=by omega
  rw [dn,dlt h,cond_true,aS h,bs,kB h,List.range'_succ,List.all_cons]
  rcases pD hN (rs.getD i (0,0)) with hw | ⟨hw,hw2 | ⟨hw2,hw3⟩⟩
  ·obtain ⟨k1,k2,k3,k4,k5⟩:=lX hN hw
   rw [hw,k1,bs,cond_true,decide_eq_false (by omega),cond_false,Bool.true_and,ad1 (by omega),bs,ih (i+1) k d (by omega) (by omega)]
  ·rw [hw,hw2,bs,cond_false,Bool.false_and,cond_false]
  ·rw [hw,hw2,bs,cond_true,decide_eq_true hw3,cond_true,Bool.false_and,cond_false]
theorem tZ (hN:1073741824≤N) {rs:List cK} (hl:rs.length≤1048576) (ha:∀ i,i<rs.length→wOk N (rs.getD i (0,0))=true):∀ m i k d,i+m=rs.length→m<k→0≤d→d≤1000 →
  dm N k rs d rs (rs.length:Int) (i:Int)=some (qp rs (sD N rs m i d)):=by
 intro m
 induction m with
 | zero =>
  intro i k d hi hk h0 h1
  obtain ⟨k,rfl⟩:∃ k',k=k'+1:=⟨k-1,by omega⟩
  obtain rfl:i=rs.length:=by omega
  rw [dm,dge (by omega),cond_false];rfl
 | succ m ih =>
  intro i k d hi hk h0 h1
  obtain ⟨k,rfl⟩:∃ k',k=k'+1:=⟨k-1,by omega⟩
  have h:i<rs.length:=by omega
  obtain ⟨g,g1,g2,g3,g4⟩:=nK hN (ha i h) h0 h1
  rw [dm,dlt h,cond_true,aS h,bs,kB h,g1,bs,g2,bs,g3,bs,sD]
  by_cases hc:1000<km N d (rs.getD i (0,0))
  ·rw [decide_eq_true hc,cond_true,if_pos hc];rfl
  ·rw [decide_eq_false hc,cond_false,if_neg hc,ad1 (by omega),bs,ih (i+1) k _ (by omega) (by omega) g4 (by omega)]
def gj (rs:List cK) (d:Int) (i:Nat):List Int:=(rs.take i).map fun r=>r.1*d.tdiv r.2
theorem pV {rs:List cK} {d:Int} {i:Nat} (h:i<rs.length):gj rs d i++[(rs.getD i (0,0)).1*d.tdiv (rs.getD i (0,0)).2]=gj rs d (i+1):=by
 unfold gj;rw [List.take_succ_eq_append_getElem h,List.map_append,kB h];rfl
theorem nH {rs:List cK} {d:Int} {i:Nat}:(gj rs d i).length≤rs.length:=by unfold gj;simp;omega
theorem rE (hN:1073741824≤N) {d:Int} {r:cK} (h:wOk N r=true) (h0:0≤d) (h1:d≤1000):qt d r.2=some (d.tdiv r.2)∧ml r.1 (d.tdiv r.2)=some (r.1*d.tdiv r.2):=by
 obtain ⟨_,k0,k1,k2,k3⟩:=lX hN h
 obtain ⟨t1,t2⟩:=rq h0 (by omega:0<r.2)
 have hm:0≤r.1*d.tdiv r.2:=Int.mul_nonneg k0 t1
 have hm2:r.1*d.tdiv r.2≤1000000000*1000:=Int.mul_le_mul k1 (by omega) t1 (by omega)
 exact ⟨vX h0 (by omega) (by omega),eL (by omega) (by omega)⟩
theorem pG (hN:1073741824≤N) {rs:List cK} (hl:rs.length≤1048576) (ha:∀ i,i<rs.length→wOk N (rs.getD i (0,0))=true) {d:Int} (h0:0≤d) (h1:d≤1000) :
  cn N N rs d [] 0=some (gj rs d rs.length,(rs.length:Int)) :=
 gQ (fun k (s:List Int) i=>cn N k rs d s i) rs.length (gj rs d) (gj rs d rs.length,(rs.length:Int))
  (fun k i h=>by
   obtain ⟨q1,q2⟩:=rE hN (ha i h) h0 h1
   have ho:=nH (rs:=rs) (d:=d) (i:=i)
   show cn N (k+1) rs d (gj rs d i) (i:Int)=_
   rw [cn,dlt h,cond_true,aS h,bs,bs,kB h,q1,bs,q2,bs,bB (by decide) (by simp;omega),bs,pV h,ad1 (by omega),bs])
  (fun k=>by
   show cn N (k+1) rs d (gj rs d rs.length) (rs.length:Int)=_
   rw [cn,dge (by omega),cond_false]) N 0 (by omega) (by omega)
theorem uk (hN:1073741824≤N) {rs:List cK} (hl:rs.length≤1048576) (ha:∀ i,i<rs.length→wOk N (rs.getD i (0,0))=true) {d:Int} (h0:0≤d) (h1:d≤1000) :
  cp N N d [] rs (rs.length:Int) 0=some (gj rs d rs.length,(rs.length:Int)) :=
 gQ (fun k (s:List Int) i=>cp N k d s rs (rs.length:Int) i) rs.length (gj rs d) (gj rs d rs.length,(rs.length:Int))
  (fun k i h=>by
   obtain ⟨q1,q2⟩:=rE hN (ha i h) h0 h1
   have ho:=nH (rs:=rs) (d:=d) (i:=i)
   show cp N (k+1) d (gj rs d i) rs (rs.length:Int) (i:Int)=_
   rw [cp,dlt h,cond_true,aS h,bs,kB h,q1,bs,q2,bs,bB (by decide) (by simp;omega),bs,pV h,ad1 (by omega),bs])
  (fun k=>by
   show cp N (k+1) d (gj rs d rs.length) rs (rs.length:Int) (rs.length:Int)=_
   rw [cp,dge (by omega),cond_false]) N 0 (by omega) (by omega)
theorem st (hN:1073741824≤N) {rs:List cK} (hl:rs.length≤1048576):∃ v:List Int × Int,bY N rs=some v∧dV N rs=some v∧v.1.length≤1048576:=by
 have s1:=tc hN hl rs.length 0 N 1 (by omega) (by omega) (by omega) (by omega)
 have i1:=tS hN hl rs.length 0 N 1 (by omega) (by omega)
 have s1':bL N N rs 1 0=_:=s1
 have i1':dn N N rs 1 rs (rs.length:Int) 0=_:=i1
 unfold bY dV
 rw [s1',i1',bs,bs]
 cases ha:(List.range' 0 rs.length).all (fun j=>wOk N (rs.getD j (0,0))) with
 | false=>exact ⟨([],0),by rw [cond_false,iL],by rw [cond_false,iL],Nat.zero_le _⟩
 | true =>
  have ha':∀ i,i<rs.length→wOk N (rs.getD i (0,0))=true:=fun i h=>(List.all_eq_true.1 ha) i (by simp;omega)
  have i2:=tZ hN hl ha' rs.length 0 N 1 (by omega) (by omega) (by omega) (by omega)
  have i2':dm N N rs 1 rs (rs.length:Int) 0=_:=i2
  rw [cond_true,cond_true,gm,i2',bs]
  cases hd:sD N rs rs.length 0 1 with
  | none=>exact ⟨([],0),by unfold qp;rw [iL],by unfold qp;rw [iL],Nat.zero_le _⟩
  | some d =>
   obtain ⟨d0,d1⟩:=zj hN ha' rs.length 0 1 d (by omega) (by omega) (by omega) hd
   unfold qp
   rw [gm,gm]
   simp only []
   rw [pG hN hl ha' d0 d1,uk hN hl ha' d0 d1,bs,lpB]
   exact ⟨_,rfl,rfl,by have:=nH (rs:=rs) (d:=d) (i:=rs.length);show (gj rs d rs.length).length≤_;omega⟩
end
theorem qd {σ V:Type} (L1 L2:Nat→σ→Int→Option V) (n:Nat) (I:Nat→σ→Prop) (P:V→Prop)
  (hstep:∀ k i s,i<n→I i s→(∃ s',L1 (k+1) s (i:Int)=L1 k s' ((i+1:Nat):Int)∧L2 (k+1) s (i:Int)=L2 k s' ((i+1:Nat):Int)∧I (i+1) s')∨∃ v,L1 (k+1) s (i:Int)=some v∧L2 (k+1) s (i:Int)=some v∧P v)
  (hend:∀ k s,I n s→∃ v,L1 (k+1) s (n:Int)=some v∧L2 (k+1) s (n:Int)=some v∧P v) :
  ∀ k i s,i≤n→n-i<k→I i s→∃ v,L1 k s (i:Int)=some v∧L2 k s (i:Int)=some v∧P v:=by
 intro k
 induction k with
 | zero=>intro i s hi hk;omega
 | succ k ih =>
  intro i s hi hk hI
  by_cases h:i<n
  ·rcases hstep k i s h hI with ⟨s',e1,e2,hI'⟩ | ⟨v,e1,e2,hP⟩
   ·rw [e1,e2];exact ih (i+1) s' (by omega) (by omega) hI'
   ·exact ⟨v,e1,e2,hP⟩
  ·obtain rfl:i=n:=by omega
   exact hend k s hI
section
variable {N:Nat}
theorem zR (N:Nat):∀ (k:Nat) (x:Int) (a b:List Int),eu N k x a b=bN N k x a b:=by
 intro k
 induction k with
 | zero=>intro x a b;rw [eu,bN]
 | succ k ih=>intro x a b;rw [eu,bN];simp only [ih]
theorem lJ (N:Nat) (n:Int):dy N n=cJ N n:=by unfold dy cJ;rw [zR]
theorem pu {x:Int} (h0:0≤x) (h1:x≤9223372036854775807):qt x 10=some (x / 10):=by
 have e:x.tdiv 10=x / 10:=Int.tdiv_eq_ediv_of_nonneg h0
 unfold qt
 rw [if_pos ⟨by decide,by rw [e];unfold rng;simp only [Bool.and_eq_true,decide_eq_true_eq];omega⟩,e]
theorem o4 (x:Int):rm x 10=some (x.tmod 10):=p9 (by decide)
theorem z8:∀ (m k:Nat) (x:Int) (a b:List Int),0≤x→x≤9223372036854775807→x<10 ^ m→m<k→b.length+m≤1048576→∃ y b',bN N k x a b=some (y,b')∧b'.length≤b.length+m:=by
 intro m
 induction m with
 | zero =>
  intro k x a b h0 hm h1 hk hb
  obtain ⟨k,rfl⟩:∃ k',k=k'+1:=⟨k-1,by omega⟩
  rw [bN,decide_eq_false (by simp at h1;omega),cond_false]
  exact ⟨x,b,rfl,by omega⟩
 | succ m ih =>
  intro k x a b h0 hm h1 hk hb
  obtain ⟨k,rfl⟩:∃ k',k=k'+1:=⟨k-1,by omega⟩
  rw [bN]
  by_cases hx:0<x
  ·have hd:x / 10<10 ^ m:=by rw [Int.pow_succ] at h1;omega
   rw [decide_eq_true hx,cond_true,o4,bs,bB (by decide) (by simp;omega),bs,pu h0 hm,bs]
   obtain ⟨y,b',e,hl⟩:=ih k (x / 10) a (b++[x.tmod 10]) (by omega) (by omega) hd (by omega) (by rw [List.length_append,List.length_singleton];omega)
   rw [List.length_append,List.length_singleton] at hl
   exact ⟨y,b',e,by omega⟩
  ·rw [decide_eq_false hx,cond_false]
   exact ⟨x,b,rfl,by omega⟩
theorem nF (hN:1073741824≤N) {n:Int} (h0:0≤n) (h1:n≤9223372036854775807):∃ b,cJ N n=some b∧b.length≤19:=by
 have hp:(10:Int) ^ 19=10000000000000000000:=by decide
 obtain ⟨y,b,e,hl⟩:=z8 (N:=N) 19 N n [] [] h0 h1 (by rw [hp];omega) (by omega) (by rw [List.length_nil];omega)
 refine ⟨b,?_,by rw [List.length_nil] at hl;omega⟩
 unfold cJ;rw [e,bs,lpB]
def vF (xs:List Int):Option Bool :=
 bif xs.all (fun v=>inR v 0 9) then
  (bif decide ((xs.length:Int)≤60) then (bif ((xs.length:Int) == 0) then some true else (sb (xs.length:Int) 1).bind fun x=>(ix xs x).bind fun y=>some (y != 0)) else some false)
 else some false
theorem oZ (hN:1073741824≤N) {xs:List Int} (hx:xs.length≤1048576):dQ N xs=vF xs:=by
 have h:=rf (fun k i=>dj N k xs i) xs (fun v=>inR v 0 9) hN hx
  (fun k i h=>by
   show dj N (k+1) xs (i:Int)=_
   rw [dj,dlt h,cond_true,aS h,bs,d5,bs,ad1 (by omega),bs])
  (fun k=>by
   show dj N (k+1) xs (xs.length:Int)=_
   rw [dj,dge (by omega),cond_false])
 unfold dQ vF
 rw [h,bs]
 cases xs.all fun v=>inR v 0 9 <;> rfl
theorem j9 (hN:1073741824≤N) {xs:List Int} (hx:xs.length≤1048576):dP N xs=vF xs:=by
 have h:=rf (fun k i=>dl N k xs (xs.length:Int) xs (xs.length:Int) i) xs (fun v=>inR v 0 9) hN hx
  (fun k i h=>by
   show dl N (k+1) xs (xs.length:Int) xs (xs.length:Int) (i:Int)=_
   rw [dl,dlt h,cond_true,aS h,bs,eD,bs,ad1 (by omega),bs])
  (fun k=>by
   show dl N (k+1) xs (xs.length:Int) xs (xs.length:Int) (xs.length:Int)=_
   rw [dl,dge (by omega),cond_false])
 unfold dP vF
 rw [h,bs]
 cases xs.all fun v=>inR v 0 9 <;> rfl
theorem nh {xs:List Int} (hx:xs.length≤1048576):∃ b,vF xs=some b∧(b=true→xs.length≤60∧∀ v∈xs,0≤v∧v≤9):=by
 unfold vF
 cases ha:xs.all fun v=>inR v 0 9 with
 | false=>exact ⟨false,rfl,fun h=>by cases h⟩
 | true =>
  rw [cond_true]
  have hd:∀ v∈xs,0≤v∧v≤9:=fun v hv=>cx.1 ((List.all_eq_true.1 ha) v hv)
  by_cases h60:(xs.length:Int)≤60
  ·rw [decide_eq_true h60,cond_true]
   by_cases h0:xs.length=0
   ·rw [show ((xs.length:Int) == 0)=true by simp [h0],cond_true]
    exact ⟨true,rfl,fun _=>⟨by omega,hd⟩⟩
   ·rw [show ((xs.length:Int) == 0)=false by simp;simpa using h0,cond_false,fu (by omega) (by omega),bs,show (xs.length:Int)-1=((xs.length-1:Nat):Int) by omega,aS (by omega),bs]
    exact ⟨_,rfl,fun _=>⟨by omega,hd⟩⟩
  ·rw [decide_eq_false h60,cond_false]
   exact ⟨false,rfl,fun h=>by cases h⟩
theorem zZ (N:Nat):∀ (k:Nat) (a b c:List Int) (d i:Int),eK N k a b c d i=bH N k a b c d i:=by
 intro k
 induction k with
 | zero=>intro a b c d i;rw [eK,bH]
 | succ k ih=>intro a b c d i;rw [eK,bH];simp only [ih]
theorem zI {a b:List Int}:∀ (m k:Nat) (c:Int) (out:List Int) (i:Nat),a.length≤i→0≤c→c≤1000000000→c<10 ^ m→m<k→out.length+m≤1048576→i+m≤1048576→∃ o y z,bH N k a b out c (i:Int)=some (o,y,z)∧o.length≤out.length+m:=by
 intro m
 induction m with
 | zero =>
  intro k c out i hi h0 hm h1 hk hb hi2
  obtain ⟨k,rfl⟩:∃ k',k=k'+1:=⟨k-1,by omega⟩
  rw [bH,dge (by omega),cond_false,decide_eq_false (by simp at h1;omega),cond_false]
  exact ⟨out,c,_,rfl,by omega⟩
 | succ m ih =>
  intro k c out i hi h0 hm h1 hk hb hi2
  obtain ⟨k,rfl⟩:∃ k',k=k'+1:=⟨k-1,by omega⟩
  rw [bH,dge (by omega),cond_false]
  by_cases hx:0<c
  ·have hd:c / 10<10 ^ m:=by rw [Int.pow_succ] at h1;omega
   rw [decide_eq_true hx,cond_true,o4,bs,bB (by decide) (by simp;omega),bs,pu h0 (by omega),bs,ad1 (by omega),bs]
   obtain ⟨o,y,z,e,hl⟩:=ih k (c / 10) (out++[c.tmod 10]) (i+1) (by omega) (by omega) (by omega) hd (by omega) (by rw [List.length_append,List.length_singleton];omega) (by omega)
   rw [List.length_append,List.length_singleton] at hl
   exact ⟨o,y,z,e,by omega⟩
  ·rw [decide_eq_false hx,cond_false]
   exact ⟨out,c,_,rfl,by omega⟩
theorem zP {a b:List Int} (ha:a.length≤1000) (hv:∀ v∈a,0≤v∧v≤1000000):∀ (m k:Nat) (c:Int) (out:List Int) (i:Nat),i+m=a.length→0≤c→c≤1000000→m+20<k→out.length≤i→∃ o y z,bH N k a b out c (i:Int)=some (o,y,z)∧o.length≤2000:=by
 intro m
 induction m with
 | zero =>
  intro k c out i hi h0 h1 hk hb
  have hp:(10:Int) ^ 7=10000000:=by decide
  obtain ⟨o,y,z,e,hl⟩:=zI (N:=N) (a:=a) (b:=b) 7 k c out i (by omega) h0 (by omega) (by rw [hp];omega) (by omega) (by omega) (by omega)
  exact ⟨o,y,z,e,by omega⟩
 | succ m ih =>
  intro k c out i hi h0 h1 hk hb
  obtain ⟨k,rfl⟩:∃ k',k=k'+1:=⟨k-1,by omega⟩
  have h:i<a.length:=by omega
  have hx:=hv _ (List.getElem_mem h)
  rw [bH,dlt h,cond_true,aS h,bs,bF (by omega) (by omega),bs,o4,bs,bB (by decide) (by simp;omega),bs,pu (by omega) (by omega),bs,ad1 (by omega),bs]
  exact ih k _ _ (i+1) (by omega) (by omega) (by omega) (by omega) (by rw [List.length_append,List.length_singleton];omega)
def dI (xs:List Int):Nat→Nat
 | 0=>0
 | m+1=>if xs.getD m 0=0 then dI xs m else m+1
theorem mt (xs:List Int):∀ m,dI xs m≤m
 | 0=>Nat.le_refl _
 | m+1=>by
  have:=mt xs m
  unfold dI;split <;> omega
theorem tF {b xs:List Int} (hx:xs.length≤1048576):∀ m k,m≤xs.length→m<k→gb N k b xs (m:Int)=some ((dI xs m:Nat):Int):=by
 intro m
 induction m with
 | zero =>
  intro k hm hk
  obtain ⟨k,rfl⟩:∃ k',k=k'+1:=⟨k-1,by omega⟩
  rw [gb,decide_eq_false (by omega),cond_false];rfl
 | succ m ih =>
  intro k hm hk
  obtain ⟨k,rfl⟩:∃ k',k=k'+1:=⟨k-1,by omega⟩
  have h:m<xs.length:=by omega
  rw [gb,decide_eq_true (by omega),cond_true,fu (by omega) (by omega),bs,show ((m+1:Nat):Int)-1=(m:Int) by omega,aS h,bs,dI,fw h]
  by_cases e:xs[m]=0
  ·rw [show (xs[m] == 0)=true by simpa using e,cond_true,if_pos e,bs,ih k (by omega) (by omega)]
  ·rw [show (xs[m] == 0)=false by simpa using e,cond_false,if_neg e]
theorem xO {b xs:List Int} (hx:xs.length≤1048576):∀ m k,m≤xs.length→m<k→gc N k b (xs.take m)=some (xs.take (dI xs m)):=by
 intro m
 induction m with
 | zero =>
  intro k hm hk
  obtain ⟨k,rfl⟩:∃ k',k=k'+1:=⟨k-1,by omega⟩
  rw [gc,decide_eq_false (by simp),cond_false];rfl
 | succ m ih =>
  intro k hm hk
  obtain ⟨k,rfl⟩:∃ k',k=k'+1:=⟨k-1,by omega⟩
  have h:m<xs.length:=by omega
  have hl:(xs.take (m+1)).length=m+1:=by rw [List.length_take];omega
  have hg:(xs.take (m+1))[m]'(by omega)=xs[m]:=List.getElem_take
  rw [gc,hl,decide_eq_true (by omega),cond_true,fu (by omega) (by omega),bs,show ((m+1:Nat):Int)-1=(m:Int) by omega,aS (by omega),bs,dI,fw h,hg]
  by_cases e:xs[m]=0
  ·rw [show (xs[m] == 0)=true by simpa using e,cond_true,if_pos e,bs,show (0:Int)=((0:Nat):Int) from rfl,mz (Nat.zero_le _) (by omega),bs,List.drop_zero,List.take_take,Nat.min_eq_left (by omega),ih k (by omega) (by omega)]
  ·rw [show (xs[m] == 0)=false by simpa using e,cond_false,if_neg e]
theorem sG (hN:1073741824≤N) {a:List Int} (ha:a.length≤1000) (hv:∀ v∈a,0≤v∧v≤1000000):∃ r:List Int × Bool,gz N a=some r∧eR N a=some r∧r.1.length≤60:=by
 obtain ⟨o,y,z,e,hl⟩:=zP (N:=N) (b:=[]) ha hv a.length N 0 [] 0 (by omega) (by omega) (by omega) (by omega) (by simp)
 have e':bH N N a [] [] 0 0=_:=e
 have es:eK N N a [] [] 0 0=_:=(zZ N N a [] [] 0 0).trans e'
 have s1:=tF (N:=N) (b:=[]) (xs:=o) (by omega) o.length N (Nat.le_refl _) (by omega)
 have s2:=xO (N:=N) (b:=[]) (xs:=o) (by omega) o.length N (Nat.le_refl _) (by omega)
 rw [List.take_length] at s2
 have hle:=mt o o.length
 have hlen:(o.take (dI o o.length)).length=dI o o.length:=by rw [List.length_take];omega
 have hS:gz N a=bif decide (60<((dI o o.length:Nat):Int)) then some ([],false) else some (o.take (dI o o.length),true):=by
  unfold gz
  rw [es,bs,lpB]
  simp only []
  rw [s2,bs,lpB,hlen]
 have hI:eR N a=bif decide (60<((dI o o.length:Nat):Int)) then some ([],false) else some (o.take (dI o o.length),true):=by
  unfold eR
  rw [e',bs,lpB]
  simp only []
  rw [s1,bs,lpB,show (0:Int)=((0:Nat):Int) from rfl,mz (Nat.zero_le _) (by omega),bs,List.drop_zero]
 rw [hS,hI]
 by_cases h:60<((dI o o.length:Nat):Int)
 ·rw [decide_eq_true h,cond_true];exact ⟨_,rfl,rfl,Nat.zero_le _⟩
 ·rw [decide_eq_false h,cond_false];exact ⟨_,rfl,rfl,by show (o.take (dI o o.length)).length≤60;omega⟩
theorem adN {i j:Nat} (h:i+j≤1000000):ad (i:Int) (j:Int)=some ((i+j:Nat):Int):=by rw [bF (by omega) (by omega)];congr 1
theorem rC {x y:Int} (hx:0≤x∧x≤9) (hy:0≤y∧y≤9):0≤x*y∧x*y≤81:=⟨Int.mul_nonneg hx.1 hy.1,Int.mul_le_mul hx.2 hy.2 hy.1 (by omega)⟩
theorem ye (hN:1073741824≤N) {a b:List Int} (ha:a.length≤60) (hb:b.length≤60) (da:∀ v∈a,0≤v∧v≤9) (db:∀ v∈b,0≤v∧v≤9) {i:Nat} (hi:i<a.length) {C:Int} (hC:C≤500000) {l:List Int} (hl:l.length=a.length+b.length) (hv:∀ v∈l,0≤v∧v≤C) :
  ∃ v:List Int × Int,dF N N a b [] l (i:Int) 0=some v∧cj N N b [] l (i:Int) a[i] a (a.length:Int) (i:Int) b (b.length:Int) 0=some v∧(v.1.length=a.length+b.length∧∀ x∈v.1,0≤x∧x≤C+4860):=by
 have hai:=da _ (List.getElem_mem hi)
 exact qd (fun k (s:List Int) j=>dF N k a b [] s (i:Int) j) (fun k (s:List Int) j=>cj N k b [] s (i:Int) a[i] a (a.length:Int) (i:Int) b (b.length:Int) j) b.length
  (fun j s=>s.length=a.length+b.length∧∀ x∈s,0≤x∧x≤C+81*(j:Int)) (fun v=>v.1.length=a.length+b.length∧∀ x∈v.1,0≤x∧x≤C+4860)
  (fun k j s hj hI=>by
   obtain ⟨h1,h2⟩:=hI
   have hbj:=db _ (List.getElem_mem hj)
   obtain ⟨m1,m2⟩:=rC hai hbj
   have hij:i+j<s.length:=by omega
   have hs:=h2 _ (List.getElem_mem hij)
   refine .inl ⟨s.set (i+j) (s[i+j]+a[i]*b[j]),?_,?_,by simpa using h1,fun x hx=>?_⟩
   ·show dF N (k+1) a b [] s (i:Int) (j:Int)=_
    rw [dF,dlt hj,cond_true,adN (by omega),bs,bs,aS hij,bs,aS hi,bs,aS hj,bs,eL (by omega) (by omega),bs,bF (by omega) (by omega),bs,bs,iC hij,bs,ad1 (by omega),bs]
   ·show cj N (k+1) b [] s (i:Int) a[i] a (a.length:Int) (i:Int) b (b.length:Int) (j:Int)=_
    rw [cj,dlt hj,cond_true,aS hj,bs,adN (by omega),bs,aS hij,bs,eL (by omega) (by omega),bs,bF (by omega) (by omega),bs,bs,iC hij,bs,ad1 (by omega),bs]
   ·rcases List.mem_or_eq_of_mem_set hx with hx | rfl
    ·have:=h2 x hx;omega
    ·omega)
  (fun k s hI=>by
   obtain ⟨h1,h2⟩:=hI
   refine ⟨(s,(b.length:Int)),?_,?_,h1,fun x hx=>by have:=h2 x hx;omega⟩
   ·show dF N (k+1) a b [] s (i:Int) (b.length:Int)=_
    rw [dF,dge (by omega),cond_false]
   ·show cj N (k+1) b [] s (i:Int) a[i] a (a.length:Int) (i:Int) b (b.length:Int) (b.length:Int)=_
    rw [cj,dge (by omega),cond_false]) N 0 l (by omega) (by omega) ⟨hl,fun x hx=>by have:=hv x hx;omega⟩
theorem wC (hN:1073741824≤N) {a b:List Int} (ha:a.length≤60) (hb:b.length≤60) (da:∀ v∈a,0≤v∧v≤9) (db:∀ v∈b,0≤v∧v≤9) {l:List Int} (hl:l.length=a.length+b.length) (hv:∀ v∈l,0≤v∧v≤0) :
  ∃ v:List Int × Int,dG N N a b [] l 0=some v∧ci N N b [] l a (a.length:Int) 0=some v∧(v.1.length=a.length+b.length∧∀ x∈v.1,0≤x∧x≤500000) :=
 qd (fun k (s:List Int) i=>dG N k a b [] s i) (fun k (s:List Int) i=>ci N k b [] s a (a.length:Int) i) a.length
  (fun i s=>s.length=a.length+b.length∧∀ x∈s,0≤x∧x≤4860*(i:Int)) (fun v=>v.1.length=a.length+b.length∧∀ x∈v.1,0≤x∧x≤500000)
  (fun k i s hi hI=>by
   obtain ⟨h1,h2⟩:=hI
   obtain ⟨⟨v,z⟩,e1,e2,h3,h4⟩:=ye (N:=N) hN ha hb da db hi (C:=4860*(i:Int)) (by omega) h1 h2
   refine .inl ⟨v,?_,?_,h3,fun x hx=>by have:=h4 x hx;omega⟩
   ·show dG N (k+1) a b [] s (i:Int)=_
    rw [dG,dlt hi,cond_true,e1,bs,lpB,ad1 (by omega)];rfl
   ·show ci N (k+1) b [] s a (a.length:Int) (i:Int)=_
    rw [ci,dlt hi,cond_true,aS hi,bs,e2,bs,lpB,ad1 (by omega)];rfl)
  (fun k s hI=>by
   obtain ⟨h1,h2⟩:=hI
   refine ⟨(s,(a.length:Int)),?_,?_,h1,fun x hx=>by have:=h2 x hx;omega⟩
   ·show dG N (k+1) a b [] s (a.length:Int)=_
    rw [dG,dge (by omega),cond_false]
   ·show ci N (k+1) b [] s a (a.length:Int) (a.length:Int)=_
    rw [ci,dge (by omega),cond_false]) N 0 l (by omega) (by omega) ⟨hl,fun x hx=>by have:=hv x hx;omega⟩
theorem nD (hN:1073741824≤N) {a b:List Int} (ha:a.length≤1048576) (hb:b.length≤1048576):∃ r:List Int × Bool,fI N a b=some r∧eX N a b=some r∧r.1.length≤60:=by
 unfold fI eX
 rw [oZ hN ha,j9 hN ha,oZ hN hb,j9 hN hb]
 obtain ⟨x,ex,hx⟩:=nh ha
 obtain ⟨y,ey,hy⟩:=nh hb
 rw [ex,ey]
 cases x with
 | false=>exact ⟨([],false),rfl,rfl,Nat.zero_le _⟩
 | true =>
  cases y with
  | false=>exact ⟨([],false),rfl,rfl,Nat.zero_le _⟩
  | true =>
   obtain ⟨a1,a2⟩:=hx rfl
   obtain ⟨b1,b2⟩:=hy rfl
   obtain ⟨⟨v,z⟩,e1,e2,h3,h4⟩:=wC (N:=N) hN a1 b1 a2 b2 (l:=List.replicate (a.length+b.length) 0) (by simp) (fun v hv=>by rw [List.eq_of_mem_replicate hv];omega)
   obtain ⟨r,f1,f2,f3⟩:=sG (N:=N) hN (a:=v) (by have h3':v.length=_:=h3;omega) (fun z hz=>by have:=h4 z hz;omega)
   refine ⟨r,?_,?_,f3⟩
   ·show (ad (a.length:Int) (b.length:Int)).bind _=_
    rw [adN (by omega),bs,og (by decide) (by omega),bs,e1,bs,lpB]
    show (gz N v).bind _=_
    rw [f1,bs]
   ·show (ad (a.length:Int) (b.length:Int)).bind _=_
    rw [adN (by omega),bs,og (by decide) (by omega),bs,e2,bs,lpB]
    show (eR N v).bind _=_
    rw [f2,bs]
end
def zJ (s:Sum (List Int × Bool) (List Int × Int)):Prop:=match s with | .inl q=>q.1.length≤1048576 | .inr v=>v.1.length≤1048576
section
variable {N:Nat}
theorem qY (hN:1073741824≤N) {n k:Int} (h1:n≤9223372036854775807):∃ r:List Int × Bool,fN N n k=some r∧fR N n k=some r∧r.1.length≤1048576∧(n<0→r.2=false)∧(100<k→r.2=false):=by
 unfold fN fR
 by_cases h0:n<0
 ·rw [decide_eq_true h0,cond_true,cond_true];exact ⟨_,rfl,rfl,Nat.zero_le _,fun _=>rfl,fun _=>rfl⟩
 rw [decide_eq_false h0,cond_false,cond_false,d5,eD]
 cases hk:inR k 0 100 with
 | false=>exact ⟨([],false),rfl,rfl,Nat.zero_le _,fun _=>rfl,fun _=>rfl⟩
 | true =>
  have hk':=cx.1 hk
  obtain ⟨m,rfl⟩:=Int.eq_ofNat_of_zero_le hk'.1
  obtain ⟨o,eo,ho⟩:=nF (N:=N) hN (n:=1) (by omega) (by omega)
  obtain ⟨c,ec,hc⟩:=nF (N:=N) hN (n:=n) (by omega) h1
  obtain ⟨s,e1,e2,hs⟩:=qd (fun f (s:List Int) i=>cA N f n (m:Int) [] s i) (fun f (s:List Int) i=>bE N f n (m:Int) [] s i) m (fun _ s=>s.length≤1048576) zJ
   (fun f i s hi hI=>by
    obtain ⟨r,m1,m2,hr⟩:=nD (N:=N) hN hI (b:=c) (by omega)
    cases hb:r.2 with
    | true =>
     refine .inl ⟨r.1,?_,?_,by omega⟩
     ·show cA N (f+1) n (m:Int) [] s (i:Int)=_
      rw [cA,dlt hi,cond_true,lJ,ec,bs,m1,bs,hb,cond_true,ad1 (by omega),bs]
     ·show bE N (f+1) n (m:Int) [] s (i:Int)=_
      rw [bE,dlt hi,cond_true,ec,bs,m2,bs,hb,cond_true,ad1 (by omega),bs]
    | false =>
     refine .inr ⟨.inl ([],false),?_,?_,Nat.zero_le _⟩
     ·show cA N (f+1) n (m:Int) [] s (i:Int)=_
      rw [cA,dlt hi,cond_true,lJ,ec,bs,m1,bs,hb,cond_false]
     ·show bE N (f+1) n (m:Int) [] s (i:Int)=_
      rw [bE,dlt hi,cond_true,ec,bs,m2,bs,hb,cond_false])
   (fun f s hI=>by
    refine ⟨.inr (s,(m:Int)),?_,?_,hI⟩
    ·show cA N (f+1) n (m:Int) [] s (m:Int)=_
     rw [cA,dge (by omega),cond_false]
    ·show bE N (f+1) n (m:Int) [] s (m:Int)=_
     rw [bE,dge (by omega),cond_false]) N 0 o (by omega) (by omega) (by omega)
  have e1':cA N N n (m:Int) [] o 0=_:=e1
  have e2':bE N N n (m:Int) [] o 0=_:=e2
  rw [bs,bs,cond_true,cond_true,lJ,eo,bs,bs,e1',e2',bs]
  cases s with
  | inl q=>exact ⟨q,rfl,rfl,hs,fun h=>absurd h h0,fun h=>by omega⟩
  | inr v=>exact ⟨(v.1,true),rfl,rfl,hs,fun h=>absurd h h0,fun h=>by omega⟩
def zS (xs:List Int) (s:Sum (List Int × Bool) (List Int × Int)):Prop:=match s with | .inl q=>q.1.length≤1048576∧q.2=false | .inr v=>v.1.length≤1048576∧∀ x∈xs,0≤x
theorem ut (hN:1073741824≤N) {xs ks:List Int} (hx:xs.length≤1048576) (hr:∀ v∈xs,v≤9223372036854775807):∃ r:List Int × Bool,cZ N xs ks=some r∧dU N xs ks=some r∧r.1.length≤1048576∧(r.2=true→∀ x∈xs,0≤x):=by
 unfold cZ dU
 by_cases hl:xs.length=ks.length
 ·obtain ⟨o,eo,ho⟩:=nF (N:=N) hN (n:=1) (by omega) (by omega)
  obtain ⟨s,e1,e2,hs⟩:=qd (fun f (s:List Int) i=>ba N f xs ks [] s i) (fun f (s:List Int) i=>bA N f xs ks [] s (xs.length:Int) i) xs.length (fun i s=>s.length≤1048576∧∀ x∈xs.take i,0≤x) (zS xs)
   (fun f i s hi hI=>by
    obtain ⟨hI1,hI2⟩:=hI
    have hi2:i<ks.length:=by omega
    obtain ⟨p,p1,p2,hp,hp2,_⟩:=qY (N:=N) hN (n:=xs[i]) (k:=ks[i]) (hr _ (List.getElem_mem hi))
    obtain ⟨r,m1,m2,hr⟩:=nD (N:=N) hN hI1 (b:=p.1) hp
    cases hb:p.2 with
    | true =>
     cases hc:r.2 with
     | true =>
      refine .inl ⟨r.1,?_,?_,by omega,fun x hx=>?_⟩
      ·show ba N (f+1) xs ks [] s (i:Int)=_
       rw [ba,dlt hi,cond_true,aS hi,bs,aS hi2,bs,p1,bs,m1,bs,hb,cond_true,hc,cond_true,ad1 (by omega),bs]
      ·show bA N (f+1) xs ks [] s (xs.length:Int) (i:Int)=_
       rw [bA,dlt hi,cond_true,aS hi,bs,aS hi2,bs,p2,bs,m2,bs,hb,cond_true,hc,cond_true,ad1 (by omega),bs]
      ·rw [List.take_succ_eq_append_getElem hi] at hx
       rcases List.mem_append.1 hx with hx | hx
       ·exact hI2 x hx
       ·simp only [List.mem_singleton] at hx
        subst hx
        by_cases hneg:xs[i]<0
        ·rw [hp2 hneg] at hb;cases hb
        ·omega
     | false =>
      refine .inr ⟨.inl ([],false),?_,?_,Nat.zero_le _,rfl⟩
      ·show ba N (f+1) xs ks [] s (i:Int)=_
       rw [ba,dlt hi,cond_true,aS hi,bs,aS hi2,bs,p1,bs,m1,bs,hb,cond_true,hc,cond_false]
      ·show bA N (f+1) xs ks [] s (xs.length:Int) (i:Int)=_
       rw [bA,dlt hi,cond_true,aS hi,bs,aS hi2,bs,p2,bs,m2,bs,hb,cond_true,hc,cond_false]
    | false =>
     refine .inr ⟨.inl ([],false),?_,?_,Nat.zero_le _,rfl⟩
     ·show ba N (f+1) xs ks [] s (i:Int)=_
      rw [ba,dlt hi,cond_true,aS hi,bs,aS hi2,bs,p1,bs,m1,bs,hb,cond_false]
     ·show bA N (f+1) xs ks [] s (xs.length:Int) (i:Int)=_
      rw [bA,dlt hi,cond_true,aS hi,bs,aS hi2,bs,p2,bs,m2,bs,hb,cond_false])
   (fun f s hI=>by
    obtain ⟨hI1,hI2⟩:=hI
    rw [List.take_length] at hI2
    refine ⟨.inr (s,(xs.length:Int)),?_,?_,hI1,hI2⟩
    ·show ba N (f+1) xs ks [] s (xs.length:Int)=_
     rw [ba,dge (by omega),cond_false]
    ·show bA N (f+1) xs ks [] s (xs.length:Int) (xs.length:Int)=_
     rw [bA,dge (by omega),cond_false]) N 0 o (by omega) (by omega) ⟨by omega,fun x hx=>by simp at hx⟩
  have e1':ba N N xs ks [] o 0=_:=e1
  have e2':bA N N xs ks [] o (xs.length:Int) 0=_:=e2
  rw [show ((xs.length:Int) != (ks.length:Int))=false by simp [hl],cond_false,cond_false,lJ,eo,bs,bs,e1',e2',bs]
  cases s with
  | inl q =>
   obtain ⟨h1,h2⟩:=hs
   exact ⟨q,rfl,rfl,h1,fun h=>by rw [h2] at h;cases h⟩
  | inr v =>
   obtain ⟨h1,h2⟩:=hs
   exact ⟨(v.1,true),rfl,rfl,h1,fun _=>h2⟩
 ·rw [show ((xs.length:Int) != (ks.length:Int))=true by simp;omega,cond_true,cond_true]
  exact ⟨_,rfl,rfl,Nat.zero_le _,fun h=>by cases h⟩
theorem y3 {a b:List Int} (hl:a.length=b.length) (ha:a.length≤1048576):∀ m k,m≤a.length→m<k→∃ s:Sum Int Int,dY N k a b ((m:Int)-1)=some s∧bX N k a b ((m:Int)-1)=some s:=by
 intro m
 induction m with
 | zero =>
  intro k hm hk
  obtain ⟨k,rfl⟩:∃ k',k=k'+1:=⟨k-1,by omega⟩
  rw [dY,bX,decide_eq_false (by omega),cond_false,cond_false]
  exact ⟨_,rfl,rfl⟩
 | succ m ih =>
  intro k hm hk
  obtain ⟨k,rfl⟩:∃ k',k=k'+1:=⟨k-1,by omega⟩
  have h1:m<a.length:=by omega
  have h2:m<b.length:=by omega
  have hm1:((m+1:Nat):Int)-1=(m:Int):=by omega
  obtain ⟨s,e1,e2⟩:=ih k (by omega) (by omega)
  rw [hm1,dY,bX,decide_eq_true (by omega),cond_true,cond_true,aS h1,aS h2]
  simp only [bs]
  rw [fu (by omega) (by omega)]
  simp only [bs,ie]
  rcases Int.lt_trichotomy a[m] b[m] with h | h | h
  ·rw [decide_eq_true h,cond_true,show (a[m] != b[m])=true by simp;omega,cond_true,lM,if_pos h]
   exact ⟨_,rfl,rfl⟩
  ·rw [decide_eq_false (by omega),cond_false,decide_eq_false (by omega),cond_false,show (a[m] != b[m])=false by simp [h],cond_false]
   exact ⟨s,e1,e2⟩
  ·rw [decide_eq_false (by omega),cond_false,decide_eq_true h,cond_true,show (a[m] != b[m])=true by simp;omega,cond_true,lM,if_neg (by omega),if_pos h]
   exact ⟨_,rfl,rfl⟩
theorem qk (hN:1073741824≤N) {a b:List Int} (ha:a.length≤1048576) (hb:b.length≤1048576):∃ c,eN N a b=some c∧d6 N a b=some c:=by
 unfold eN d6
 rw [oZ hN ha,j9 hN ha,oZ hN hb,j9 hN hb]
 obtain ⟨x,ex,_⟩:=nh ha
 obtain ⟨y,ey,_⟩:=nh hb
 rw [ex,ey]
 cases x with
 | false=>exact ⟨0,rfl,rfl⟩
 | true =>
  cases y with
  | false=>exact ⟨0,rfl,rfl⟩
  | true =>
   simp only [bs,cond_true,ie]
   by_cases hl:a.length=b.length
   ·obtain ⟨s,e1,e2⟩:=y3 (N:=N) hl ha a.length N (Nat.le_refl _) (by omega)
    rw [show ((a.length:Int) != (b.length:Int))=false by simp [hl],cond_false,cond_false,fu (by omega) (by omega)]
    simp only [bs]
    rw [e1,e2,bs]
    cases s with
    | inl q=>exact ⟨q,rfl,rfl⟩
    | inr v=>exact ⟨0,rfl,rfl⟩
   ·rw [show ((a.length:Int) != (b.length:Int))=true by simp;omega,cond_true,cond_true]
    unfold lM
    by_cases h:(a.length:Int)<(b.length:Int)
    ·rw [decide_eq_true h,cond_true,if_pos h];exact ⟨_,rfl,rfl⟩
    ·rw [decide_eq_false h,cond_false,if_neg h,if_pos (by omega)];exact ⟨_,rfl,rfl⟩
end
def vB:List Int→Int
 | []=>0
 | x :: xs=>x+10*vB xs
theorem p10 (n:Nat):(10:Int) ^ (n+1)=10*10 ^ n:=by rw [Int.pow_succ,Int.mul_comm]
theorem pk:∀ n:Nat,(0:Int)<10 ^ n
 | 0=>by decide
 | n+1=>by rw [p10];have:=pk n;omega
theorem mb {m n:Nat} (h:m≤n):(10:Int) ^ m≤10 ^ n:=by
 induction n with
 | zero =>
  have:m=0:=by omega
  subst this;exact Int.le_refl _
 | succ n ih =>
  by_cases e:m=n+1
  ·subst e;exact Int.le_refl _
  ·have:=ih (by omega)
   have:=pk n
   rw [p10];omega
theorem oA:∀ a b:List Int,vB (a++b)=vB a+10 ^ a.length*vB b
 | [],b=>by show vB b=0+10 ^ 0*vB b;rw [show (10:Int) ^ 0=1 from rfl];omega
 | x :: a,b=>by
  show x+10*vB (a++b)=x+10*vB a+10 ^ (a.length+1)*vB b
  rw [oA a b,p10,Int.mul_add,Int.mul_assoc];omega
theorem tU:∀ (s:List Int) (k:Nat) (h:k<s.length) (c:Int),vB (s.set k (s[k]+c))=vB s+c*10 ^ k
 | [],k,h,_=>by simp at h
 | x :: s,0,_,c=>by show x+c+10*vB s=x+10*vB s+c*10 ^ 0;rw [show (10:Int) ^ 0=1 from rfl];omega
 | x :: s,k+1,h,c=>by
  have hk:k<s.length:=by simpa using h
  have:=tU s k hk c
  show x+10*vB (s.set k (s[k]+c))=x+10*vB s+c*10 ^ (k+1)
  rw [this,p10,Int.mul_add]
  have e:c*(10*10 ^ k)=10*(c*(10:Int) ^ k):=by ac_rfl
  rw [e];omega
def jo (xs:List Int):Prop:=∀ v∈xs,0≤v∧v≤9
def Cn (xs:List Int):Prop:=jo xs∧(xs=[]∨xs.getD (xs.length-1) 0≠0)
theorem sm:∀ {xs:List Int},jo xs→0≤vB xs
 | [],_=>Int.le_refl _
 | x :: xs,h=>by
  have h1:=h x List.mem_cons_self
  have:=sm (xs:=xs) fun v hv=>h v (List.mem_cons_of_mem _ hv)
  show 0≤x+10*vB xs;omega
theorem mT:∀ {xs:List Int},jo xs→vB xs<10 ^ xs.length
 | [],_=>by decide
 | x :: xs,h=>by
  have h1:=h x List.mem_cons_self
  have:=mT (xs:=xs) fun v hv=>h v (List.mem_cons_of_mem _ hv)
  show x+10*vB xs<10 ^ (xs.length+1);rw [p10];omega
theorem vR:∀ {xs:List Int},jo xs→xs≠[]→xs.getD (xs.length-1) 0≠0→10 ^ (xs.length-1)≤vB xs
 | [],_,h,_=>absurd rfl h
 | [x],h,_,h2=>by
  have h1:=h x List.mem_cons_self
  have:x≠0:=by simpa using h2
  show (10:Int) ^ 0≤x+10*0
  rw [show (10:Int) ^ 0=1 from rfl];omega
 | x :: y :: xs,h,_,h2=>by
  have h1:=h x List.mem_cons_self
  have:=vR (xs:=y :: xs) (fun v hv=>h v (List.mem_cons_of_mem _ hv)) (by simp) (by simpa using h2)
  simp only [List.length_cons,Nat.add_sub_cancel] at this ⊢
  show (10:Int) ^ (xs.length+1)≤x+10*vB (y :: xs)
  rw [p10];omega
theorem Cn.ge {xs:List Int} (h:Cn xs) (hn:xs≠[]):10 ^ (xs.length-1)≤vB xs:=by
 rcases h.2 with e | e
 ·exact absurd e hn
 ·exact vR h.1 hn e
theorem Cn.len {xs:List Int} (h:Cn xs) {n:Nat} (hv:vB xs<10 ^ n):xs.length≤n:=by
 by_cases hn:xs=[]
 ·subst hn;exact Nat.zero_le _
 ·have:=h.ge hn
  by_cases hl:xs.length≤n
  ·exact hl
  ·have:=mb (show n≤xs.length-1 by omega)
   omega
section
variable {N:Nat}
theorem mZ {xs:List Int} (h:Cn xs) (hl:xs.length≤60):vF xs=some true:=by
 unfold vF
 have h1:xs.all (fun v=>inR v 0 9)=true:=List.all_eq_true.2 fun v hv=>cx.2 (h.1 v hv)
 rw [h1,cond_true,decide_eq_true (by omega),cond_true]
 by_cases h0:xs.length=0
 ·rw [show ((xs.length:Int) == 0)=true by simp [h0],cond_true]
 ·rw [show ((xs.length:Int) == 0)=false by simp;simpa using h0,cond_false,fu (by omega) (by omega),bs,show (xs.length:Int)-1=((xs.length-1:Nat):Int) by omega,aS (by omega),bs]
  rcases h.2 with e | e
  ·rw [e] at h0;simp at h0
  ·rw [fw (by omega)] at e
   simp [e]
theorem nM {x:Int} (h:0≤x):x.tmod 10=x % 10:=Int.tmod_eq_emod_of_nonneg h
theorem zT:∀ (m k:Nat) (x:Int) (a b:List Int),0≤x→x≤9223372036854775807→x<10 ^ m→m<k→b.length+m≤1048576→∃ y ds,bN N k x a b=some (y,b++ds)∧vB ds=x∧jo ds∧ds.length≤m∧(x=0→ds=[])∧(0<x→ds≠[]∧ds.getD (ds.length-1) 0≠0):=by
 intro m
 induction m with
 | zero =>
  intro k x a b h0 hm h1 hk hb
  obtain ⟨k,rfl⟩:∃ k',k=k'+1:=⟨k-1,by omega⟩
  have hx:x=0:=by simp at h1;omega
  rw [bN,decide_eq_false (by omega),cond_false]
  exact ⟨x,[],by simp,hx.symm,by intro v hv;simp at hv,by simp,fun _=>rfl,fun h=>by omega⟩
 | succ m ih =>
  intro k x a b h0 hm h1 hk hb
  obtain ⟨k,rfl⟩:∃ k',k=k'+1:=⟨k-1,by omega⟩
  rw [bN]
  by_cases hx:0<x
  ·have hd:x / 10<10 ^ m:=by rw [Int.pow_succ] at h1;omega
   rw [decide_eq_true hx,cond_true,o4,bs,bB (by decide) (by simp;omega),bs,pu h0 hm,bs]
   obtain ⟨y,ds,e,v1,v2,v3,v4,v5⟩:=ih k (x / 10) a (b++[x.tmod 10]) (by omega) (by omega) hd (by omega) (by rw [List.length_append,List.length_singleton];omega)
   refine ⟨y,x.tmod 10 :: ds,by rw [e,List.append_assoc];rfl,?_,?_,by simp;omega,fun h=>by omega,fun _=>⟨by simp,?_⟩⟩
   ·show x.tmod 10+10*vB ds=x
    rw [v1,nM h0];omega
   ·intro v hv
    rcases List.mem_cons.1 hv with rfl | hv
    ·rw [nM h0];omega
    ·exact v2 v hv
   ·by_cases hq:0<x / 10
    ·obtain ⟨w1,w2⟩:=v5 hq
     obtain ⟨d,t,rfl⟩:=List.exists_cons_of_ne_nil w1
     simpa using w2
    ·have:=v4 (by omega)
     subst this
     rw [nM h0]
     show x % 10≠0
     omega
  ·have hx0:x=0:=by omega
   rw [decide_eq_false hx,cond_false]
   exact ⟨x,[],by simp,hx0.symm,by intro v hv;simp at hv,by simp,fun _=>rfl,fun h=>by omega⟩
theorem rQ (hN:1073741824≤N) {n:Int} (h0:0≤n) (h1:n≤9223372036854775807):∃ b,cJ N n=some b∧b.length≤19∧vB b=n∧Cn b:=by
 have hp:(10:Int) ^ 19=10000000000000000000:=by decide
 obtain ⟨y,b,e,v1,v2,v3,v4,v5⟩:=zT (N:=N) 19 N n [] [] h0 h1 (by rw [hp];omega) (by omega) (by rw [List.length_nil];omega)
 refine ⟨b,?_,v3,v1,v2,?_⟩
 ·unfold cJ;rw [e,bs,lpB];rfl
 ·by_cases h:0<n
  ·exact .inr (v5 h).2
  ·exact .inl (v4 (by omega))
theorem zm {a b:List Int}:∀ (m k:Nat) (c:Int) (out:List Int) (i:Nat),a.length≤i→0≤c→c≤1000000000→c<10 ^ m→m<k→out.length+m≤1048576→i+m≤1048576→∃ ds y z,bH N k a b out c (i:Int)=some (out++ds,y,z)∧ds.length≤m∧vB ds=c∧jo ds:=by
 intro m
 induction m with
 | zero =>
  intro k c out i hi h0 hm h1 hk hb hi2
  obtain ⟨k,rfl⟩:∃ k',k=k'+1:=⟨k-1,by omega⟩
  have hc:c=0:=by simp at h1;omega
  rw [bH,dge (by omega),cond_false,decide_eq_false (by omega),cond_false]
  exact ⟨[],c,_,by rw [List.append_nil],by simp,hc.symm,by intro v hv;simp at hv⟩
 | succ m ih =>
  intro k c out i hi h0 hm h1 hk hb hi2
  obtain ⟨k,rfl⟩:∃ k',k=k'+1:=⟨k-1,by omega⟩
  rw [bH,dge (by omega),cond_false]
  by_cases hx:0<c
  ·have hd:c / 10<10 ^ m:=by rw [Int.pow_succ] at h1;omega
   rw [decide_eq_true hx,cond_true,o4,bs,bB (by decide) (by simp;omega),bs,pu h0 (by omega),bs,ad1 (by omega),bs]
   obtain ⟨ds,y,z,e,hl,hv,hd2⟩:=ih k (c / 10) (out++[c.tmod 10]) (i+1) (by omega) (by omega) (by omega) hd (by omega) (by rw [List.length_append,List.length_singleton];omega) (by omega)
   refine ⟨c.tmod 10 :: ds,y,z,by rw [e,List.append_assoc];rfl,by simp;omega,?_,?_⟩
   ·show c.tmod 10+10*vB ds=c
    rw [hv,nM h0];omega
   ·intro v hv
    rcases List.mem_cons.1 hv with rfl | hv
    ·rw [nM h0];omega
    ·exact hd2 v hv
  ·have hc:c=0:=by omega
   rw [decide_eq_false hx,cond_false]
   exact ⟨[],c,_,by rw [List.append_nil],by simp,hc.symm,by intro v hv;simp at hv⟩
theorem zg {a b:List Int} (ha:a.length≤1000) (hv:∀ v∈a,0≤v∧v≤1000000):∀ (m k:Nat) (c:Int) (out:List Int) (i:Nat),i+m=a.length→0≤c→c≤1000000→m+20<k→out.length≤i→∃ ds y z,bH N k a b out c (i:Int)=some (out++ds,y,z)∧ds.length≤m+7∧vB ds=c+vB (a.drop i)∧jo ds:=by
 intro m
 induction m with
 | zero =>
  intro k c out i hi h0 h1 hk hb
  have hp:(10:Int) ^ 7=10000000:=by decide
  obtain ⟨ds,y,z,e,hl,h3,h4⟩:=zm (N:=N) (a:=a) (b:=b) 7 k c out i (by omega) h0 (by omega) (by rw [hp];omega) (by omega) (by omega) (by omega)
  refine ⟨ds,y,z,e,by omega,?_,h4⟩
  rw [h3,List.drop_of_length_le (by omega)]
  show c=c+0;omega
 | succ m ih =>
  intro k c out i hi h0 h1 hk hb
  obtain ⟨k,rfl⟩:∃ k',k=k'+1:=⟨k-1,by omega⟩
  have h:i<a.length:=by omega
  have hx:=hv _ (List.getElem_mem h)
  rw [bH,dlt h,cond_true,aS h,bs,bF (by omega) (by omega),bs,o4,bs,bB (by decide) (by simp;omega),bs,pu (by omega) (by omega),bs,ad1 (by omega),bs]
  obtain ⟨ds,y,z,e,hl,h3,h4⟩:=ih k ((c+a[i]) / 10) (out++[(c+a[i]).tmod 10]) (i+1) (by omega) (by omega) (by omega) (by omega) (by rw [List.length_append,List.length_singleton];omega)
  refine ⟨(c+a[i]).tmod 10 :: ds,y,z,by rw [e,List.append_assoc];rfl,by simp;omega,?_,?_⟩
  ·rw [jw h]
   show (c+a[i]).tmod 10+10*vB ds=c+(a[i]+10*vB (a.drop (i+1)))
   rw [h3,nM (by omega)];omega
  ·intro v hv
   rcases List.mem_cons.1 hv with rfl | hv
   ·rw [nM (by omega)];omega
   ·exact h4 v hv
theorem pO {xs:List Int}:∀ m,m≤xs.length→vB (xs.take (dI xs m))=vB (xs.take m)∧(dI xs m=0∨xs.getD (dI xs m-1) 0≠0)
 | 0,_=>⟨rfl,.inl rfl⟩
 | m+1,h=>by
  obtain ⟨h1,h2⟩:=pO (xs:=xs) m (by omega)
  unfold dI
  by_cases e:xs.getD m 0=0
  ·rw [if_pos e]
   refine ⟨?_,h2⟩
   rw [h1,List.take_succ_eq_append_getElem (show m<xs.length by omega),oA]
   rw [fw (by omega)] at e
   rw [e]
   show _=_+_*(0+10*0)
   rw [show (0:Int)+10*0=0 from rfl,Int.mul_zero,Int.add_zero]
  ·rw [if_neg e];exact ⟨rfl,.inr (by simpa using e)⟩
theorem th (hN:1073741824≤N) {a:List Int} (ha:a.length≤1000) (hv:∀ v∈a,0≤v∧v≤1000000):∃ r:List Int × Bool,eR N a=some r∧(r.2=true→vB r.1=vB a∧Cn r.1∧r.1.length≤60)∧(r.2=true↔vB a<10 ^ 60):=by
 obtain ⟨o,y,z,e,hl,h3,h4⟩:=zg (N:=N) (b:=[]) ha hv a.length N 0 [] 0 (by omega) (by omega) (by omega) (by omega) (by simp)
 have e':bH N N a [] [] 0 0=some (o,y,z):=e
 have h3:vB o=vB a:=by rw [h3,List.drop_zero];omega
 have s1:=tF (N:=N) (b:=[]) (xs:=o) (by omega) o.length N (Nat.le_refl _) (by omega)
 obtain ⟨g1,g2⟩:=pO (xs:=o) o.length (Nat.le_refl _)
 rw [List.take_length] at g1
 have hle:=mt o o.length
 have hlen:(o.take (dI o o.length)).length=dI o o.length:=by rw [List.length_take];omega
 have hC:Cn (o.take (dI o o.length)):=by
  refine ⟨fun v hv=>h4 v (List.mem_of_mem_take hv),?_⟩
  rw [hlen]
  rcases g2 with g2 | g2
  ·exact .inl (by rw [g2];rfl)
  ·by_cases hz:dI o o.length=0
   ·exact .inl (by rw [hz];rfl)
   ·right
    rw [List.getD_eq_getElem?_getD,List.getElem?_take,if_pos (by omega),← List.getD_eq_getElem?_getD];exact g2
 have hI:eR N a=bif decide (60<((dI o o.length:Nat):Int)) then some ([],false) else some (o.take (dI o o.length),true):=by
  unfold eR
  rw [e',bs,lpB]
  simp only []
  rw [s1,bs,lpB,show (0:Int)=((0:Nat):Int) from rfl,mz (Nat.zero_le _) (by omega),bs,List.drop_zero]
 rw [hI]
 by_cases h:60<dI o o.length
 ·rw [decide_eq_true (by omega),cond_true]
  refine ⟨_,rfl,(fun h=>nomatch h),⟨(fun h=>nomatch h),fun hlt=>?_⟩⟩
  rw [← h3,← g1] at hlt
  have:=hC.len hlt
  omega
 ·rw [decide_eq_false (by omega),cond_false]
  refine ⟨_,rfl,fun _=>⟨by show vB (o.take _)=_;rw [g1,h3],hC,by show (o.take _).length≤60;omega⟩,fun _=>?_,fun _=>rfl⟩
  rw [← h3,← g1]
  have h1:=mT hC.1
  have h2:=mb (show (o.take (dI o o.length)).length≤60 by omega)
  omega
theorem wE {a b:List Int} (ha:a.length≤60) (hb:b.length≤60) (da:jo a) (db:jo b) {i:Nat} (hi:i<a.length) {C:Int} (hC:C≤500000):∀ (m j k:Nat) (s:List Int),j+m=b.length→m<k→s.length=a.length+b.length→(∀ x∈s,0≤x∧x≤C+81*(j:Int)) →
  ∃ s',cj N k b [] s (i:Int) a[i] a (a.length:Int) (i:Int) b (b.length:Int) (j:Int)=some (s',(b.length:Int))∧s'.length=a.length+b.length∧(∀ x∈s',0≤x∧x≤C+4860)∧vB s'=vB s+a[i]*10 ^ (i+j)*vB (b.drop j):=by
 have hai:=da _ (List.getElem_mem hi)
 intro m
 induction m with
 | zero =>
  intro j k s hj hk hs hx
  obtain ⟨k,rfl⟩:∃ k',k=k'+1:=⟨k-1,by omega⟩
  obtain rfl:j=b.length:=by omega
  rw [cj,dge (by omega),cond_false]
  refine ⟨s,rfl,hs,fun x h=>by have:=hx x h;omega,?_⟩
  rw [List.drop_length]
  show _=_+_*0
  rw [Int.mul_zero,Int.add_zero]
 | succ m ih =>
  intro j k s hj hk hs hx
  obtain ⟨k,rfl⟩:∃ k',k=k'+1:=⟨k-1,by omega⟩
  have hjb:j<b.length:=by omega
  have hbj:=db _ (List.getElem_mem hjb)
  obtain ⟨m1,m2⟩:=rC hai hbj
  have hij:i+j<s.length:=by omega
  have hsv:=hx _ (List.getElem_mem hij)
  rw [cj,dlt hjb,cond_true,aS hjb,bs,adN (by omega),bs,aS hij,bs,eL (by omega) (by omega),bs,bF (by omega) (by omega),bs,bs,iC hij,bs,ad1 (by omega),bs]
  obtain ⟨s',e1,e2,e3,e4⟩:=ih (j+1) k (s.set (i+j) (s[i+j]+a[i]*b[j])) (by omega) (by omega) (by simpa using hs) fun x h=>by
   rcases List.mem_or_eq_of_mem_set h with h | rfl
   ·have:=hx x h;omega
   ·omega
  refine ⟨s',e1,e2,e3,?_⟩
  rw [e4,tU,jw hjb]
  show _=vB s+a[i]*10 ^ (i+j)*(b[j]+10*vB (b.drop (j+1)))
  rw [show i+(j+1)=(i+j)+1 by omega,p10]
  have e:a[i]*10 ^ (i+j)*(b[j]+10*vB (b.drop (j+1)))=a[i]*b[j]*10 ^ (i+j)+a[i]*(10*10 ^ (i+j))*vB (b.drop (j+1)):=by
   rw [Int.mul_add]
   congr 1 <;> ac_rfl
  rw [e];omega
theorem uG (hN:1073741824≤N) {a b:List Int} (ha:a.length≤60) (hb:b.length≤60) (da:jo a) (db:jo b):∀ (m i k:Nat) (s:List Int),i+m=a.length→m<k→s.length=a.length+b.length→(∀ x∈s,0≤x∧x≤4860*(i:Int)) →
  ∃ s',ci N k b [] s a (a.length:Int) (i:Int)=some (s',(a.length:Int))∧s'.length=a.length+b.length∧(∀ x∈s',0≤x∧x≤500000)∧vB s'=vB s+10 ^ i*vB (a.drop i)*vB b:=by
 intro m
 induction m with
 | zero =>
  intro i k s hi hk hs hx
  obtain ⟨k,rfl⟩:∃ k',k=k'+1:=⟨k-1,by omega⟩
  obtain rfl:i=a.length:=by omega
  rw [ci,dge (by omega),cond_false]
  refine ⟨s,rfl,hs,fun x h=>by have:=hx x h;omega,?_⟩
  rw [List.drop_length]
  show _=_+_*0*_
  rw [Int.mul_zero,Int.zero_mul,Int.add_zero]
 | succ m ih =>
  intro i k s hi hk hs hx
  obtain ⟨k,rfl⟩:∃ k',k=k'+1:=⟨k-1,by omega⟩
  have h:i<a.length:=by omega
  obtain ⟨s1,e1,e2,e3,e4⟩:=wE (N:=N) ha hb da db h (C:=4860*(i:Int)) (by omega) b.length 0 N s (by omega) (by omega) hs fun x hx'=>by have:=hx x hx';omega
  obtain ⟨s',f1,f2,f3,f4⟩:=ih (i+1) k s1 (by omega) (by omega) e2 fun x hx'=>by have:=e3 x hx';omega
  have e1':cj N N b [] s (i:Int) a[i] a (a.length:Int) (i:Int) b (b.length:Int) 0=_:=e1
  rw [ci,dlt h,cond_true,aS h,bs,e1',bs,lpB]
  dsimp only
  rw [ad1 (by omega),bs]
  refine ⟨s',f1,f2,f3,?_⟩
  rw [f4,e4,List.drop_zero,Nat.add_zero,jw h]
  show _=vB s+10 ^ i*(a[i]+10*vB (a.drop (i+1)))*vB b
  have e:10 ^ i*(a[i]+10*vB (a.drop (i+1)))*vB b=a[i]*10 ^ i*vB b+10*10 ^ i*vB (a.drop (i+1))*vB b:=by
   rw [Int.mul_add,Int.add_mul]
   congr 1 <;> ac_rfl
  rw [p10,e];omega
theorem qw:∀ n:Nat,vB (List.replicate n 0)=0
 | 0=>rfl
 | n+1=>by rw [List.replicate_succ];show 0+10*vB (List.replicate n 0)=0;rw [qw n];rfl
theorem rx (hN:1073741824≤N) {a b:List Int} (ha:Cn a) (hb:Cn b) (la:a.length≤60) (lb:b.length≤60):∃ r:List Int × Bool,eX N a b=some r∧(r.2=true→vB r.1=vB a*vB b∧Cn r.1∧r.1.length≤60)∧(r.2=true↔vB a*vB b<10 ^ 60):=by
 unfold eX
 rw [j9 hN (by omega),j9 hN (by omega),mZ ha la,mZ hb lb,bs,cond_true,bs,cond_true,adN (by omega),bs,og (by decide) (by omega),bs]
 obtain ⟨s,e1,e2,e3,e4⟩:=uG hN la lb ha.1 hb.1 a.length 0 N (List.replicate (a.length+b.length) 0) (by omega) (by omega) (by simp) (fun v hv=>by rw [List.eq_of_mem_replicate hv];omega)
 have e1':ci N N b [] (List.replicate (a.length+b.length) 0) a (a.length:Int) 0=_:=e1
 obtain ⟨r,c1,c2,c3⟩:=th hN (a:=s) (by omega) (fun x hx=>by have:=e3 x hx;omega)
 have hv:vB s=vB a*vB b:=by
  rw [e4,qw,List.drop_zero,show (10:Int) ^ 0=1 from rfl,Int.one_mul,Int.zero_add]
 rw [hv] at c2 c3
 rw [e1',bs,lpB]
 dsimp only
 rw [c1,bs]
 exact ⟨_,rfl,c2,c3⟩
theorem wX (hN:1073741824≤N) {n:Int} (h0:0≤n) (h1:n≤9223372036854775807) {d:Nat} (hd:d≤100):∃ r:List Int × Bool,fR N n (d:Int)=some r∧(r.2=true→vB r.1=n ^ d∧Cn r.1∧r.1.length≤60)∧(r.2=true↔∀ j,j<d→n ^ (j+1)<10 ^ 60):=by
 obtain ⟨o,eo,ho,vo,co⟩:=rQ (N:=N) hN (n:=1) (by omega) (by omega)
 obtain ⟨c,ec,hc,vc,cc⟩:=rQ (N:=N) hN h0 h1
 have key:∀ (m i k:Nat) (s:List Int),i+m=d→m<k→Cn s→s.length≤60→vB s=n ^ i →
   (∃ s',bE N k n (d:Int) [] s (i:Int)=some (.inr (s',(d:Int)))∧Cn s'∧s'.length≤60∧vB s'=n ^ d∧∀ j,i≤j→j<d→n ^ (j+1)<10 ^ 60) ∨
   (bE N k n (d:Int) [] s (i:Int)=some (.inl ([],false))∧∃ j,i≤j∧j<d∧¬ n ^ (j+1)<10 ^ 60):=by
  intro m
  induction m with
  | zero =>
   intro i k s hi hk h1 h2 h3
   obtain ⟨k,rfl⟩:∃ k',k=k'+1:=⟨k-1,by omega⟩
   obtain rfl:i=d:=by omega
   left
   rw [bE,dge (by omega),cond_false]
   exact ⟨s,rfl,h1,h2,h3,fun j a b=>by omega⟩
  | succ m ih =>
   intro i k s hi hk k1 k2 k3
   obtain ⟨k,rfl⟩:∃ k',k=k'+1:=⟨k-1,by omega⟩
   obtain ⟨r,m1,m2,m3⟩:=rx hN k1 cc k2 (by omega)
   have hp:vB s*vB c=n ^ (i+1):=by rw [k3,vc,Int.pow_succ]
   rw [hp] at m2 m3
   rw [bE,dlt (by omega),cond_true,ec,bs,m1,bs]
   cases hb:r.2 with
   | true =>
    obtain ⟨q1,q2,q3⟩:=m2 hb
    rw [cond_true,ad1 (by omega),bs]
    rcases ih (i+1) k r.1 (by omega) (by omega) q2 q3 q1 with ⟨s',a1,a2,a3,a4,a5⟩ | ⟨a1,j,a2,a3,a4⟩
    ·refine .inl ⟨s',a1,a2,a3,a4,fun j b1 b2=>?_⟩
     by_cases e:j=i
     ·rw [e];exact m3.1 hb
     ·exact a5 j (by omega) b2
    ·exact .inr ⟨a1,j,by omega,a3,a4⟩
   | false =>
    rw [cond_false]
    refine .inr ⟨rfl,i,Nat.le_refl _,by omega,fun h=>?_⟩
    rw [m3.2 h] at hb;cases hb
 unfold fR
 rw [decide_eq_false (by omega),cond_false,eD,bs,show inR (d:Int) 0 100=true from cx.2 (by omega),cond_true,eo,bs]
 rcases key d 0 N o (by omega) (by omega) co (by omega) (by rw [vo,Int.pow_zero]) with ⟨s',a1,a2,a3,a4,a5⟩ | ⟨a1,j,a2,a3,a4⟩
 ·have a1':bE N N n (d:Int) [] o 0=_:=a1
  rw [a1',bs,gm]
  exact ⟨_,rfl,fun _=>⟨a4,a2,a3⟩,fun _ j hj=>a5 j (by omega) hj,fun _=>rfl⟩
 ·have a1':bE N N n (d:Int) [] o 0=_:=a1
  rw [a1',bs,iL]
  exact ⟨_,rfl,(fun h=>nomatch h),⟨(fun h=>nomatch h),fun h=>absurd (h j a3) a4⟩⟩
theorem yL {a b:List Int} (hl:a.length=b.length) (da:jo a) (db:jo b) (ha:a.length≤1048576):∀ m k,m≤a.length→m<k →
  (∃ q,bX N k a b ((m:Int)-1)=some (.inl q)∧(q=-1∧vB (a.take m)<vB (b.take m)∨q=1∧vB (b.take m)<vB (a.take m)))∨(∃ z,bX N k a b ((m:Int)-1)=some (.inr z))∧vB (a.take m)=vB (b.take m):=by
 intro m
 induction m with
 | zero =>
  intro k hm hk
  obtain ⟨k,rfl⟩:∃ k',k=k'+1:=⟨k-1,by omega⟩
  rw [bX,decide_eq_false (by omega),cond_false]
  exact .inr ⟨⟨_,rfl⟩,rfl⟩
 | succ m ih =>
  intro k hm hk
  obtain ⟨k,rfl⟩:∃ k',k=k'+1:=⟨k-1,by omega⟩
  have h1:m<a.length:=by omega
  have h2:m<b.length:=by omega
  have hm1:((m+1:Nat):Int)-1=(m:Int):=by omega
  have ea:vB (a.take (m+1))=vB (a.take m)+10 ^ m*a[m]:=by
   rw [List.take_succ_eq_append_getElem h1,oA,List.length_take,Nat.min_eq_left (by omega)]
   show _+10 ^ m*(a[m]+10*0)=_
   rw [Int.mul_zero,Int.add_zero]
  have eb:vB (b.take (m+1))=vB (b.take m)+10 ^ m*b[m]:=by
   rw [List.take_succ_eq_append_getElem h2,oA,List.length_take,Nat.min_eq_left (by omega)]
   show _+10 ^ m*(b[m]+10*0)=_
   rw [Int.mul_zero,Int.add_zero]
  have dta:jo (a.take m):=fun v hv=>da v (List.mem_of_mem_take hv)
  have dtb:jo (b.take m):=fun v hv=>db v (List.mem_of_mem_take hv)
  have la:=mT dta
  have lb:=mT dtb
  rw [List.length_take,Nat.min_eq_left (by omega)] at la lb
  have na:=sm dta
  have nb:=sm dtb
  have key:∀ x y:Int,x<y→(10:Int) ^ m*x+10 ^ m≤10 ^ m*y:=fun x y h=>by
   have:=Int.mul_le_mul_of_nonneg_left (show x+1≤y by omega) (Int.le_of_lt (pk m))
   rw [Int.mul_add,Int.mul_one] at this;exact this
  rw [hm1,bX,decide_eq_true (by omega),cond_true,aS h1,aS h2]
  simp only [bs,ie]
  rcases Int.lt_trichotomy a[m] b[m] with h | h | h
  ·rw [show (a[m] != b[m])=true by simp;omega,cond_true,lM,if_pos h]
   have:=key _ _ h
   exact .inl ⟨_,rfl,.inl ⟨by decide,by omega⟩⟩
  ·rw [show (a[m] != b[m])=false by simp [h],cond_false,fu (by omega) (by omega),bs]
   rw [ea,eb,h]
   rcases ih k (by omega) (by omega) with ⟨q,q1,q2⟩ | ⟨q1,q2⟩
   ·exact .inl ⟨q,q1,by omega⟩
   ·exact .inr ⟨q1,by omega⟩
  ·rw [show (a[m] != b[m])=true by simp;omega,cond_true,lM,if_neg (by omega),if_pos h]
   have:=key _ _ h
   exact .inl ⟨_,rfl,.inr ⟨by decide,by omega⟩⟩
theorem uX (hN:1073741824≤N) {a b:List Int} (ha:Cn a) (hb:Cn b) (la:a.length≤60) (lb:b.length≤60):∃ q,d6 N a b=some q∧(q≤0↔vB a≤vB b)∧(q<0↔vB a<vB b)∧-1≤q∧q≤1:=by
 unfold d6
 rw [j9 hN (by omega),j9 hN (by omega),mZ ha la,mZ hb lb,bs,cond_true,bs,cond_true]
 by_cases hl:a.length=b.length
 ·rw [show ((a.length:Int) != (b.length:Int))=false by simp [hl],cond_false,fu (by omega) (by omega),bs]
  rcases yL (N:=N) hl ha.1 hb.1 (by omega) a.length N (Nat.le_refl _) (by omega) with ⟨q,q1,q2⟩ | ⟨⟨z,q1⟩,q2⟩
  ·rw [List.take_length,show b.take a.length=b by rw [hl,List.take_length]] at q2
   rw [q1,bs,iL]
   exact ⟨q,rfl,by omega⟩
  ·rw [List.take_length,show b.take a.length=b by rw [hl,List.take_length]] at q2
   rw [q1,bs,gm]
   exact ⟨0,rfl,by omega⟩
 ·rw [show ((a.length:Int) != (b.length:Int))=true by simp;omega,cond_true,ie,bs]
  unfold lM
  by_cases h:(a.length:Int)<(b.length:Int)
  ·rw [if_pos h]
   have hbn:b≠[]:=fun e=>by have:=congrArg List.length e;rw [List.length_nil] at this;omega
   have h1:=hb.ge hbn
   have h2:=mT ha.1
   have h3:=mb (show a.length≤b.length-1 by omega)
   exact ⟨-1,rfl,by omega⟩
  ·rw [if_neg h,if_pos (by omega)]
   have han:a≠[]:=fun e=>by have:=congrArg List.length e;rw [List.length_nil] at this;omega
   have h1:=ha.ge han
   have h2:=mT hb.1
   have h3:=mb (show b.length≤a.length-1 by omega)
   exact ⟨1,rfl,by omega⟩
end
section
variable {N:Nat}
def i5 (n:Nat):List Int:=(List.range' 0 n).map fun i:Nat=>(i:Int)
theorem nJ (n:Nat):(i5 n).length=n:=by simp [i5]
end
abbrev pB:=List (List Int)
section
variable {N:Nat}
def vV (r:Int × pB):Prop:=(-1≤r.1∧r.1≤6)∧r.2.length≤7∧∀ w∈r.2,w.length≤6∧∀ v∈w,-1≤v∧v≤100
end
def mG (a b:List iv):Prop:=∃ t,b=a++t
theorem mG.refl (a:List iv):mG a a:=⟨[],by simp⟩
theorem mG.trans {a b c:List iv} (h:mG a b) (k:mG b c):mG a c:=by
 obtain ⟨t,rfl⟩:=h;obtain ⟨u,rfl⟩:=k;exact ⟨t++u,by simp⟩
theorem mG.len {a b:List iv} (h:mG a b):a.length≤b.length:=by
 obtain ⟨t,rfl⟩:=h;simp
structure QFor (ts:List iB) (n:Nat) (atoms:List aY) (order:List Int):Prop where
 n1:1≤n
 n5:n≤5
 ol:order.length=n
 os:iU order n=true
 a1:1≤atoms.length
 a4:atoms.length≤4
 al:∀ a∈atoms,a.2.length≤5∧1≤a.2.length∧∀ v∈a.2,0≤v∧v<n
 af:∀ a∈atoms,(vT ts a.1).2=true∧(vT ts a.1).1.1=(a.2.length:Int)
 cov:∀ v:Int,0≤v→v<n→∃ a∈atoms,v∈a.2
theorem qq {atoms:List aY} (ha:eQ atoms) {i:Nat} (h:i<atoms.length):okI atoms[i].2:=(ha.2 _ (List.getElem_mem h)).2
abbrev sI (xs:List Int):Prop:=xs.Pairwise (·<·)
abbrev Nxt:=List Int→List Int × Int
structure NxtOk (f:Nxt):Prop where
 len:∀ p,(f p).1.length≤16
 asc:∀ p,sI (f p).1
 val:∀ p,∀ v∈(f p).1,0≤v∧v≤99
 st0:∀ p,0≤(f p).2
 st1:∀ p,(f p).2≤1000
theorem nB {α β:Type} {g:α→List β} {k:Nat} (h:∀ x,(g x).length≤k):∀ L:List α,(L.flatMap g).length≤L.length*k
 | []=>by simp
 | p :: L=>by
  have h1:=h p
  have h2:=nB h L
  rw [List.flatMap_cons,List.length_append,List.length_cons,Nat.succ_mul];omega
def sw (Ls:pB) (A:List Nat) (k:Nat):Int:=(Ls.getD k []).getD (A.getD k 0) 0
structure LInv (Ls:pB) (A:List Nat) (most:Int) (out:List Int) (s:Nat):Prop where
 pos:0<Ls.length
 len:A.length=Ls.length
 asc:∀ l∈Ls,sI l
 lt:∀ k,k<Ls.length→A.getD k 0<(Ls.getD k []).length
 cyc:∀ i j,i≤j→j<Ls.length→sw Ls A ((s+i) % Ls.length)≤sw Ls A ((s+j) % Ls.length)
 top:sw Ls A ((s+(Ls.length-1)) % Ls.length)=most
 oasc:sI out
 olt:∀ x∈out,x<most
 ocom:∀ x∈out,∀ l∈Ls,x∈l
 all:∀ x,(∀ l∈Ls,x∈l)→x∈out∨∀ k,k<Ls.length→sw Ls A k≤x
def zH (l:List Int):Int:=l.getD 0 0
def hdI (ls:pB) (j:Int):Int:=zH (ls.getD j.toNat [])
def leI (a b:Int):Prop:=a≤b
structure OrdOk (ls:pB) (O:List Int) (i:Nat):Prop where
 len:O.length=i
 nd:O.Nodup
 bd:∀ j∈O,0≤j∧j<i
 so:(O.map (hdI ls)).Pairwise leI
def yg (ns:List iv):Nat→Int→Int
 | 0,_=>0
 | f+1,nd=>if nd=0 then 0 else yg ns f ((ns.getD nd.toNat ([],[])).2.getD 0 0)+1
def dep (ns:List iv) (nd:Int):Int:=yg ns ns.length nd
structure NodeOk (ns:List iv) (i:Nat):Prop where
 lens:(ns.getD i ([],[])).1.length=(ns.getD i ([],[])).2.length
 vals:kT (ns.getD i ([],[])).1=true
 asc:sI (ns.getD i ([],[])).1
 ne:(ns.getD i ([],[])).1≠[]
 chs:∀ c∈(ns.getD i ([],[])).2,dep ns c=dep ns ((ns.getD i ([],[])).2.getD 0 0)
 new:∀ j,1≤j→j<i→ns.getD j ([],[])≠ns.getD i ([],[])
abbrev kd:=Int × List aY × List Int
def QSm (q:kd):Prop:=(0≤q.1∧q.1≤6)∧q.2.1.length≤5∧(∀ a∈q.2.1,a.1.size≤4∧a.2.length≤5)∧q.2.2.length≤6
theorem QSm.atoms {q:kd} (h:QSm q):eQ q.2.1:=⟨by have:=h.2.1;omega,fun a ha=>⟨by have:=(h.2.2.1 a ha).1;omega,by have:=(h.2.2.1 a ha).2;omega,fun _ _=>trivial⟩⟩
theorem QSm.out {q:kd} (h:QSm q):okI q.2.2:=⟨by have:=h.2.2.2;omega,fun _ _=>trivial⟩
abbrev vU:List aY:=[((⟨#[114]⟩:ByteArray),[0,1]),((⟨#[115]⟩:ByteArray),[1,2]),((⟨#[116]⟩:ByteArray),[2,3]),((⟨#[117]⟩:ByteArray),[3,4])]
def zB (n:Int) (ats:List aY):Prop:=ats.length≤4∧(∀ a∈ats,1≤a.2.length∧∀ v∈a.2,0≤v∧v<n)∧∀ v:Int,0≤v→v<n→∃ a∈ats,v∈a.2
def QV (q:kd):Prop:=(∀ a∈q.2.1,∀ v∈a.2,v<q.1)∧(q.1≤4∨q.1=5∧q.2.1=vU)
def QB (q:kd):Prop:=zB q.1 q.2.1→q.1≤5→q.1≤4∨q.1=5∧q.2.1=vU
theorem QV.b {q:kd} (h:QV q):QB q:=fun _ _=>h.2
def TSm (t:iB):Prop:=t.1.size≤5∧t.2.2.length≤10∧∀ r∈t.2.2,r.length≤6
def DSm (ts:List iB):Prop:=ts.length≤6∧∀ t∈ts,TSm t
def TSv (t:iB):Prop:=t.2.2.length≤7∨∀ r∈t.2.2,∀ v∈r,0≤v∧v<6
def TSb (t:iB):Prop:=TSm t∧TSv t
theorem DSm.ok {ts:List iB} (h:DSm ts):zL ts:=⟨by have:=h.1;omega,fun t ht=>by
 obtain ⟨h1,h2,h3⟩:=h.2 t ht
 exact ⟨by omega,by omega,fun r hr=>⟨by have:=h3 r hr;omega,fun _ _=>trivial⟩⟩⟩
section
variable {N:Nat}
theorem vZ {α:Type} {xs:List α} {i:Int} {y:α} (h0:0≤i) (h:i<xs.length):sto xs i y=some (xs.set i.toNat y):=by
 obtain ⟨k,rfl⟩:=Int.eq_ofNat_of_zero_le h0
 exact iC (by omega)
theorem vV.t {r:Int × pB} {s:ByteArray} (hs:s.size≤5) (k:vV r):TSb (s,r):=⟨⟨hs,by show r.2.length≤10;have:=k.2.1;omega,fun w hw=>(k.2.2 w hw).1⟩,Or.inl k.2.1⟩
def JSm (ts:List iB) (r:kd) (o:List Int):Prop:=DSm ts∧QSm r∧o.length≤5
theorem JSm.o {ts:List iB} {r:kd} {o:List Int} (h:JSm ts r o):okI o:=⟨by have:=h.2.2;omega,fun _ _=>trivial⟩
end
section
variable {N:Nat}
def VR (N:Nat) (r:cK):Prop:=ay N r.1 r.2=some true
def rv (r:cK):Rat:=(r.1:Rat) / (r.2:Rat)
theorem vf:∀ (m k:Nat) (x y:Int),0≤x→0≤y→y<2 ^ m→2*m<k→∃ g z,cQ N k x y=some (g,z)∧g ∣ x∧g ∣ y∧(0<x∨0<y→0<g)∧∀ c,c ∣ x→c ∣ y→c ∣ g:=by
 have one:∀ (k:Nat) (x:Int),0≤x→∃ g z,cQ N (k+1) x 0=some (g,z)∧g ∣ x∧g ∣ 0∧(0<x∨(0:Int)<0→0<g)∧∀ c,c ∣ x→c ∣ (0:Int)→c ∣ g:=by
  intro k x hx
  rw [cQ,show ((0:Int) != 0)=false from rfl,cond_false]
  exact ⟨x,0,rfl,Int.dvd_refl x,Int.dvd_zero x,fun h=>by omega,fun c h _=>h⟩
 intro m
 induction m with
 | zero =>
  intro k x y hx hy hm hk
  obtain ⟨k,rfl⟩:∃ k',k=k'+1:=⟨k-1,by omega⟩
  obtain rfl:y=0:=by omega
  exact one k x hx
 | succ m ih =>
  intro k x y hx hy hm hk
  obtain ⟨k,rfl⟩:∃ k',k=k'+2:=⟨k-2,by omega⟩
  by_cases h0:y=0
  ·subst h0
   exact one (k+1) x hx
  ·have hyp:0<y:=by omega
   have e1:=Int.emod_add_mul_ediv x y
   have t1:=Int.emod_nonneg x h0
   have t2:=Int.emod_lt_of_pos x hyp
   have back:∀ {g:Int},g ∣ y→g ∣ x % y→g ∣ x:=by
    intro g h1 h2
    rw [← e1]
    exact Int.dvd_add h2 (Int.dvd_mul_of_dvd_left h1)
   have fwd:∀ {c:Int},c ∣ x→c ∣ y→c ∣ x % y:=by
    intro c h1 h2
    rw [Int.emod_def]
    exact Int.dvd_sub h1 (Int.dvd_mul_of_dvd_left h2)
   rw [cQ,show (y != 0)=true by simpa using h0,cond_true,p9 h0,bs,Int.tmod_eq_emod_of_nonneg hx]
   by_cases h1:x % y=0
   ·rw [h1]
    obtain ⟨g,z,e,g1,g2,g3,g4⟩:=one k y hy
    refine ⟨g,z,e,back g1 (by rw [h1];exact g2),g1,fun _=>g3 (.inl hyp),fun c c1 c2=>g4 c c2 (Int.dvd_zero c)⟩
   ·have hr:0<x % y:=by omega
    generalize x % y=r at t1 t2 back fwd h1 hr
    have s1:=Int.emod_nonneg y h1
    have s2:=Int.emod_lt_of_pos y hr
    have e2:=Int.emod_add_mul_ediv y r
    have hq:1≤y / r:=Int.le_ediv_of_mul_le hr (by omega)
    have hq2:r*1≤r*(y / r):=Int.mul_le_mul_of_nonneg_left hq (by omega)
    rw [cQ,show (r != 0)=true by simpa using h1,cond_true,p9 h1,bs,Int.tmod_eq_emod_of_nonneg hy]
    have hpw:(2:Int) ^ (m+1)=2 ^ m*2:=Int.pow_succ 2 m
    obtain ⟨g,z,e,g1,g2,g3,g4⟩:=ih k r (y % r) t1 s1 (by omega) (by omega)
    have gy:g ∣ y:=by
     rw [← e2]
     exact Int.dvd_add g2 (Int.dvd_mul_of_dvd_left g1)
    refine ⟨g,z,e,back gy g1,gy,fun _=>g3 (.inl hr),fun c c1 c2=>g4 c (fwd c1 c2) ?_⟩
    rw [Int.emod_def]
    exact Int.dvd_sub c2 (Int.dvd_mul_of_dvd_left (fwd c1 c2))
theorem ni (hN:1073741824≤N) {x y:Int} (hx:0≤x) (hy:0≤y) (h1:y≤4000000000000000000):∃ g,dT N x y=some g∧g ∣ x∧g ∣ y∧(0<x∨0<y→0<g)∧∀ c,c ∣ x→c ∣ y→c ∣ g:=by
 have hp:(2:Int) ^ 63=9223372036854775808:=by decide
 obtain ⟨g,z,e,h⟩:=vf (N:=N) 63 N x y hx hy (by omega) (by omega)
 refine ⟨g,?_,h⟩
 unfold dT;rw [e,bs,lpB]
theorem o3 (n:Int):0≤imx n (0-n)∧(imx n (0-n)=n∨imx n (0-n)=-n)∧∀ c:Int,c ∣ imx n (0-n)↔c ∣ n:=by
 unfold imx
 split
 ·refine ⟨by omega,.inr (by omega),fun c=>?_⟩
  rw [Int.zero_sub]
  exact Int.dvd_neg
 ·refine ⟨by omega,.inl rfl,fun c=>Iff.rfl⟩
theorem qJ (hN:1073741824≤N) (n d:Int):∃ b,ay N n d=some b∧(b=true↔1≤d∧d≤1000000000∧-1000000000≤n∧n≤1000000000∧Int.gcd n d=1):=by
 unfold ay
 rw [d5,bs]
 cases h1:inR d 1 1000000000 with
 | false =>
  rw [cond_false]
  refine ⟨false,rfl,fun h=>(by cases h),fun h=>?_⟩
  rw [cx.2 ⟨h.1,h.2.1⟩] at h1;cases h1
 | true =>
  rw [cond_true,d5,bs]
  cases h2:inR n (-1000000000) 1000000000 with
  | false =>
   rw [cond_false]
   refine ⟨false,rfl,fun h=>(by cases h),fun h=>?_⟩
   rw [cx.2 ⟨h.2.2.1,h.2.2.2.1⟩] at h2;cases h2
  | true =>
   have h1':=cx.1 h1
   have h2':=cx.1 h2
   obtain ⟨a1,a2,a3⟩:=o3 n
   obtain ⟨g,e,g1,g2,g3,g4⟩:=ni (N:=N) hN a1 (by omega:0≤d) (by omega)
   rw [cond_true,fu (by omega) (by omega),bs,e,bs]
   refine ⟨_,rfl,?_⟩
   have hg:=g3 (.inr (by omega))
   rw [beq_iff_eq]
   constructor
   ·rintro rfl
    refine ⟨h1'.1,h1'.2,h2'.1,h2'.2,?_⟩
    have h5:=g4 (Int.gcd n d:Int) ((a3 _).2 (Int.gcd_dvd_left ..)) (Int.gcd_dvd_right ..)
    have h6:=Int.le_of_dvd (by decide) h5
    have h7:0<Int.gcd n d:=Int.gcd_pos_of_ne_zero_right n (by omega)
    omega
   ·intro h
    have h5:(g.toNat:Int) ∣ (Int.gcd n d:Int):=by
     rw [Int.toNat_of_nonneg (by omega)]
     exact Int.dvd_coe_gcd ((a3 _).1 g1) g2
    rw [h.2.2.2.2,Int.toNat_of_nonneg (by omega)] at h5
    have:=Int.le_of_dvd (by decide) h5
    omega
theorem fF (hN:1073741824≤N) {r:cK}:VR N r↔1≤r.2∧r.2≤1000000000∧-1000000000≤r.1∧r.1≤1000000000∧Int.gcd r.1 r.2=1:=by
 obtain ⟨b,e,h⟩:=qJ hN r.1 r.2
 unfold VR
 rw [e,← h]
 exact ⟨fun h=>Option.some.inj h,fun h=>by rw [h]⟩
theorem gR (hN:1073741824≤N) (r:cK):VR N r∨ay N r.1 r.2=some false:=by
 obtain ⟨b,e,_⟩:=qJ hN r.1 r.2
 cases b with
 | true=>exact .inl e
 | false=>exact .inr e
theorem tq {n g:Int} (hg:0<g) (h:g ∣ n) (h1:-4000000000000000000≤n) (h2:n≤4000000000000000000):∃ q,qt n g=some q∧q*g=n:=by
 have hb:(n.tdiv g).natAbs≤n.natAbs:=by
  rw [Int.natAbs_tdiv];exact Nat.div_le_self _ _
 refine ⟨n.tdiv g,?_,Int.tdiv_mul_cancel h⟩
 unfold qt
 rw [if_pos ⟨by omega,lu (by omega) (by omega)⟩]
theorem wJ {a b g:Int} (hg:g≠0) (hb:b≠0):((a:Int):Rat) / (b:Rat)=((a*g:Int):Rat) / ((b*g:Int):Rat):=by
 have h1:(g:Rat)≠0:=fun h=>hg (Rat.intCast_eq_zero_iff.1 h)
 have h2:(b:Rat)≠0:=fun h=>hb (Rat.intCast_eq_zero_iff.1 h)
 rw [Rat.intCast_mul,Rat.intCast_mul]
 grind
theorem vu {a b:Int}:((-a:Int):Rat) / ((-b:Int):Rat)=(a:Rat) / (b:Rat):=by
 rw [Rat.intCast_neg,Rat.intCast_neg]
 by_cases h:(b:Rat)=0
 ·rw [h];grind
 ·grind
theorem uy (hN:1073741824≤N) {n d:Int} (h1:-4000000000000000000≤n) (h2:n≤4000000000000000000) (h3:-4000000000000000000≤d) (h4:d≤4000000000000000000):∃ r b,bG N n d=some (r,b)∧(b=true→VR N r∧d≠0∧rv r=(n:Rat) / (d:Rat)):=by
 have core:∀ n d:Int,-4000000000000000000≤n→n≤4000000000000000000→0<d→d≤4000000000000000000→∃ r b,((sb 0 n).bind fun x154=>(dT N (imx n x154) d).bind fun r155=>(qt n r155).bind fun x161=>(qt d r155).bind fun x162=>(ay N x161 x162).bind fun r170=>(bif r170 then some ((x161,x162),true) else some ((0,0),false)))=some (r,b)∧(b=true→VR N r∧rv r=(n:Rat) / (d:Rat)):=by
  intro n d h1 h2 h3 h4
  obtain ⟨a1,a2,a3⟩:=o3 n
  obtain ⟨g,e,g1,g2,g3,g4⟩:=ni (N:=N) hN a1 (by omega:0≤d) h4
  have hg:=g3 (.inr h3)
  obtain ⟨p,ep,hp⟩:=tq hg ((a3 _).1 g1) h1 h2
  obtain ⟨q,eq,hq⟩:=tq hg g2 (by omega) h4
  rw [fu (by omega) (by omega),bs,e,bs,ep,bs,eq,bs]
  obtain ⟨b,eb,hb⟩:=qJ hN p q
  rw [eb,bs]
  cases b with
  | false=>exact ⟨_,_,rfl,fun h=>by cases h⟩
  | true =>
   refine ⟨_,_,rfl,fun _=>⟨eb,?_⟩⟩
   have hq0:q≠0:=by have:=(hb.1 rfl).1;omega
   show ((p:Int):Rat) / (q:Rat)=_
   rw [wJ (g:=g) (by omega) hq0,hp,hq]
 unfold bG
 by_cases h0:d=0
 ·rw [show (d == 0)=true by simpa using h0,cond_true]
  exact ⟨_,_,rfl,fun h=>by cases h⟩
 ·rw [show (d == 0)=false by simpa using h0,cond_false,fu (by omega) (by omega),bs,d5,bs,show inR n (0-4000000000000000000) 4000000000000000000=true from cx.2 (by omega),cond_true,bs,d5,bs,show inR d (0-4000000000000000000) 4000000000000000000=true from cx.2 (by omega),cond_true]
  by_cases hd:d<0
  ·rw [decide_eq_true hd,cond_true,fu (by omega) (by omega),bs,fu (by omega) (by omega),bs]
   obtain ⟨r,b,e,h⟩:=core (0-n) (0-d) (by omega) (by omega) (by omega) (by omega)
   refine ⟨r,b,e,fun hb=>?_⟩
   obtain ⟨k1,k2⟩:=h hb
   refine ⟨k1,h0,?_⟩
   rw [k2,Int.zero_sub,Int.zero_sub]
   exact vu
  ·rw [decide_eq_false hd,cond_false]
   obtain ⟨r,b,e,h⟩:=core n d h1 h2 (by omega) h4
   exact ⟨r,b,e,fun hb=>⟨(h hb).1,h0,(h hb).2⟩⟩
theorem ji {N:Nat} (hN:1073741824≤N) {r:cK} (h:VR N r):(r.2:Rat)≠0:=fun e=>by
 have h1:=Rat.intCast_eq_zero_iff.1 e
 have:=(fF hN).1 h
 omega
theorem ik {a b:Int} (h1:-1000000000≤a) (h2:a≤1000000000) (h3:-1000000000≤b) (h4:b≤1000000000):-1000000000000000000≤a*b∧a*b≤1000000000000000000:=by
 have h5:(a*b).natAbs≤1000000000*1000000000:=by
  rw [Int.natAbs_mul];exact Nat.mul_le_mul (by omega) (by omega)
 omega
theorem xK (hN:1073741824≤N) (a b:cK):∃ r ok,bK N a.1 a.2 b.1 b.2=some (r,ok)∧(ok=true→VR N a∧VR N b∧VR N r∧rv r=rv a*rv b):=by
 unfold bK
 rcases gR hN a with ha | ha
 ·rcases gR hN b with hb | hb
  ·obtain ⟨a1,a2,a3,a4,_⟩:=(fF hN).1 ha
   obtain ⟨b1,b2,b3,b4,_⟩:=(fF hN).1 hb
   have m1:=ik a3 a4 b3 b4
   have m2:=ik (a:=a.2) (b:=b.2) (by omega) a2 (by omega) b2
   obtain ⟨r,k,e,h⟩:=uy (N:=N) hN (n:=a.1*b.1) (d:=a.2*b.2) (by omega) (by omega) (by omega) (by omega)
   unfold VR at ha hb
   rw [ha,bs,cond_true,hb,bs,cond_true,eL (by omega) (by omega),bs,eL (by omega) (by omega),bs,e,bs]
   refine ⟨_,_,rfl,fun hk=>⟨ha,hb,(h hk).1,?_⟩⟩
   have h1:=ji hN (r:=a) ha
   have h2:=ji hN (r:=b) hb
   refine (h hk).2.2.trans ?_
   unfold rv
   rw [Rat.intCast_mul,Rat.intCast_mul]
   grind
  ·unfold VR at ha
   rw [ha,bs,cond_true,hb,bs,cond_false]
   exact ⟨_,_,rfl,fun h=>by cases h⟩
 ·rw [ha,bs,cond_false]
  exact ⟨_,_,rfl,fun h=>by cases h⟩
theorem yy (hN:1073741824≤N) (a b:cK):∃ r ok,dh N a.1 a.2 b.1 b.2=some (r,ok)∧(ok=true→VR N a∧VR N b∧VR N r∧b.1≠0∧rv r*rv b=rv a):=by
 unfold dh
 rcases gR hN a with ha | ha
 ·rcases gR hN b with hb | hb
  ·obtain ⟨a1,a2,a3,a4,_⟩:=(fF hN).1 ha
   obtain ⟨b1,b2,b3,b4,_⟩:=(fF hN).1 hb
   have m1:=ik a3 a4 (b:=b.2) (by omega) b2
   have m2:=ik (a:=a.2) (b:=b.1) (by omega) a2 b3 b4
   obtain ⟨r,k,e,h⟩:=uy (N:=N) hN (n:=a.1*b.2) (d:=a.2*b.1) (by omega) (by omega) (by omega) (by omega)
   unfold VR at ha hb
   rw [ha,bs,cond_true,hb,bs,cond_true,eL (by omega) (by omega),bs,eL (by omega) (by omega),bs,e,bs]
   refine ⟨_,_,rfl,fun hk=>?_⟩
   have hb0:b.1≠0:=fun e0=>(h hk).2.1 (by rw [e0,Int.mul_zero])
   refine ⟨ha,hb,(h hk).1,hb0,?_⟩
   have h1:=ji hN (r:=a) ha
   have h2:=ji hN (r:=b) hb
   have h3:(b.1:Rat)≠0:=fun e=>hb0 (Rat.intCast_eq_zero_iff.1 e)
   have h4:=(h hk).2.2
   show rv r*rv b=rv a
   rw [h4]
   unfold rv
   rw [Rat.intCast_mul,Rat.intCast_mul]
   grind
  ·unfold VR at ha
   rw [ha,bs,cond_true,hb,bs,cond_false]
   exact ⟨_,_,rfl,fun h=>by cases h⟩
 ·rw [ha,bs,cond_false]
  exact ⟨_,_,rfl,fun h=>by cases h⟩
theorem yh (hN:1073741824≤N) (a b:cK):∃ r ok,bJ N a.1 a.2 b.1 b.2=some (r,ok)∧(ok=true→VR N a∧VR N b∧VR N r∧rv r=rv a+rv b):=by
 unfold bJ
 rcases gR hN a with ha | ha
 ·rcases gR hN b with hb | hb
  ·obtain ⟨a1,a2,a3,a4,_⟩:=(fF hN).1 ha
   obtain ⟨b1,b2,b3,b4,_⟩:=(fF hN).1 hb
   have m1:=ik a3 a4 (b:=b.2) (by omega) b2
   have m2:=ik b3 b4 (b:=a.2) (by omega) a2
   have m3:=ik (a:=a.2) (b:=b.2) (by omega) a2 (by omega) b2
   obtain ⟨r,k,e,h⟩:=uy (N:=N) hN (n:=a.1*b.2+b.1*a.2) (d:=a.2*b.2) (by omega) (by omega) (by omega) (by omega)
   unfold VR at ha hb
   rw [ha,bs,cond_true,hb,bs,cond_true,eL (by omega) (by omega),bs,eL (by omega) (by omega),bs,bF (by omega) (by omega),bs,eL (by omega) (by omega),bs,e,bs]
   refine ⟨_,_,rfl,fun hk=>⟨ha,hb,(h hk).1,?_⟩⟩
   have h1:=ji hN (r:=a) ha
   have h2:=ji hN (r:=b) hb
   refine (h hk).2.2.trans ?_
   unfold rv
   rw [Rat.intCast_add,Rat.intCast_mul,Rat.intCast_mul,Rat.intCast_mul]
   grind
  ·unfold VR at ha
   rw [ha,bs,cond_true,hb,bs,cond_false]
   exact ⟨_,_,rfl,fun h=>by cases h⟩
 ·rw [ha,bs,cond_false]
  exact ⟨_,_,rfl,fun h=>by cases h⟩
theorem zM (hN:1073741824≤N) (a b:cK):∃ r ok,dA N a.1 a.2 b.1 b.2=some (r,ok)∧(ok=true→VR N a∧VR N b∧VR N r∧rv r=rv a-rv b):=by
 unfold dA
 rcases gR hN b with hb | hb
 ·obtain ⟨b1,b2,b3,b4,_⟩:=(fF hN).1 hb
  obtain ⟨r,k,e,h⟩:=yh hN a (0-b.1,b.2)
  have hb':=hb
  unfold VR at hb
  rw [hb,bs,cond_true,fu (by omega) (by omega),bs,e,bs]
  refine ⟨_,_,rfl,fun hk=>?_⟩
  obtain ⟨k1,_,k3,k4⟩:=h hk
  refine ⟨k1,hb',k3,k4.trans ?_⟩
  unfold rv
  show _+((0-b.1:Int):Rat) / (b.2:Rat)=_
  rw [Int.zero_sub,Rat.intCast_neg]
  have h2:=ji hN hb'
  grind
 ·rw [hb,bs,cond_false]
  exact ⟨_,_,rfl,fun h=>by cases h⟩
theorem zW (hN:1073741824≤N) (a b:cK):∃ c,cl N a.1 a.2 b.1 b.2=some c∧-1≤c∧c≤1∧(VR N a→VR N b→(c<0↔rv a<rv b)):=by
 unfold cl
 rcases gR hN a with ha | ha
 ·rcases gR hN b with hb | hb
  ·obtain ⟨a1,a2,a3,a4,_⟩:=(fF hN).1 ha
   obtain ⟨b1,b2,b3,b4,_⟩:=(fF hN).1 hb
   have m1:=ik a3 a4 (b:=b.2) (by omega) b2
   have m2:=ik b3 b4 (b:=a.2) (by omega) a2
   have hlt:rv a<rv b↔a.1*b.2<b.1*a.2:=by
    have p1:(0:Rat)<(a.2:Rat):=Rat.intCast_pos.2 (by omega)
    have p2:(0:Rat)<(b.2:Rat):=Rat.intCast_pos.2 (by omega)
    unfold rv
    rw [Rat.div_lt_iff p1,Rat.div_def,Rat.mul_assoc,Rat.mul_comm (b.2:Rat)⁻¹,← Rat.mul_assoc,← Rat.div_def,Rat.lt_div_iff p2,← Rat.intCast_mul,← Rat.intCast_mul,Rat.intCast_lt_intCast]
   unfold VR at ha hb
   rw [ha,bs,cond_true,hb,bs,cond_true,eL (by omega) (by omega),bs,eL (by omega) (by omega),bs]
   by_cases h1:a.1*b.2<b.1*a.2
   ·rw [decide_eq_true h1,cond_true]
    exact ⟨-1,rfl,by decide,by decide,fun _ _=>⟨fun _=>hlt.2 h1,fun _=>by decide⟩⟩
   ·rw [decide_eq_false h1,cond_false]
    by_cases h2:b.1*a.2<a.1*b.2
    ·rw [decide_eq_true h2,cond_true]
     exact ⟨1,rfl,by decide,by decide,fun _ _=>⟨fun h=>absurd h (by decide),fun h=>absurd (hlt.1 h) h1⟩⟩
    ·rw [decide_eq_false h2,cond_false]
     exact ⟨0,rfl,by decide,by decide,fun _ _=>⟨fun h=>absurd h (by decide),fun h=>absurd (hlt.1 h) h1⟩⟩
  ·unfold VR at ha
   rw [ha,bs,cond_true,hb,bs,cond_false]
   exact ⟨0,rfl,by decide,by decide,fun _ h=>by rw [VR,hb] at h;cases h⟩
 ·rw [ha,bs,cond_false]
  exact ⟨0,rfl,by decide,by decide,fun h=>by rw [VR,ha] at h;cases h⟩
end
def prN:List Nat→Nat
 | []=>1
 | x :: l=>x*prN l
def smN:List Nat→Nat
 | []=>0
 | x :: l=>x+smN l
theorem ixD {xs:List Int} {k:Nat} (h:k<xs.length):ix xs (k:Int)=some (xs.getD k 0):=by rw [aS h,fw h]
def gY (atoms:List aY) (i:Nat):aY:=atoms.getD i (ByteArray.empty,[])
theorem pH {atoms:List aY} {i:Nat} (h:i<atoms.length):gY atoms i=atoms[i]:=by unfold gY;simp [h]
theorem oM:∀ a b:List Nat,smN (a++b)=smN a+smN b
 | [],b=>by rw [List.nil_append];exact (Nat.zero_add _).symm
 | x :: a,b=>by
  have:=oM a b
  show x+smN (a++b)=x+smN a+smN b
  omega
structure Cov (atoms:List aY) (n:Nat) (L:List Nat) (d:Nat):Prop where
 d0:0<d
 lt:∀ i∈L,i<atoms.length
 cov:∀ v:Int,0≤v→v<n→d≤(L.filter fun i=>decide (v∈(gY atoms i).2)).length
abbrev aX:=List cK
abbrev bc:=List aX
def aZ (m:bc) (i:Nat):aX:=m.getD i []
def aw (r:aX) (j:Nat):cK:=r.getD j (0,0)
def cell (m:bc) (i j:Nat):cK:=aw (aZ m i) j
def Shp (n c:Nat) (m:bc):Prop:=m.length=n∧∀ i,i<n→(aZ m i).length=c
theorem ixM {m:bc} {i:Nat} (h:i<m.length):ix m (i:Int)=some (aZ m i):=by
 rw [aS h];unfold aZ;simp [h]
theorem gk {r:aX} {j:Nat} (h:j<r.length):ix r (j:Int)=some (aw r j):=by
 rw [aS h];unfold aw;simp [h]
theorem kE {α:Type} {xs:List α} {i:Nat} {y:α} (h:i<xs.length):sto xs (i:Int) y=some (xs.set i y):=by
 rw [vZ (by omega) (by omega)];rfl
theorem lH {m:bc} {i:Nat} {r:aX} (h:i<m.length) (a:Nat):aZ (m.set i r) a=if a=i then r else aZ m a:=by
 unfold aZ
 by_cases e:a=i
 ·subst e;rw [if_pos rfl];simp [h]
 ·rw [if_neg e];simp [List.getElem?_set_ne (Ne.symm e)]
theorem j6 {r:aX} {j:Nat} {v:cK} (h:j<r.length) (a:Nat):aw (r.set j v) a=if a=j then v else aw r a:=by
 unfold aw
 by_cases e:a=j
 ·subst e;rw [if_pos rfl];simp [h]
 ·rw [if_neg e];simp [List.getElem?_set_ne (Ne.symm e)]
theorem Shp.set {n c:Nat} {m:bc} (h:Shp n c m) {i:Nat} (hi:i<n) {r:aX} (hr:r.length=c):Shp n c (m.set i r):=by
 refine ⟨by rw [List.length_set];exact h.1,fun a ha=>?_⟩
 rw [lH (by rw [h.1];exact hi)]
 split
 ·exact hr
 ·exact h.2 a ha
section
variable {N:Nat}
theorem w6 (hN:1073741824≤N) {n:Nat} (hn:n≤6) {p i:Nat} (hp:p<n) (hi:i<n) (hpi:p≠i) {f:cK}:∀ (c k fuel:Nat) (m:bc) (is:Bool),k+c=n+1→c<fuel→Shp n (n+1) m →
  ∃ m' is' z,bT N fuel m (p:Int) (i:Int) f.1 f.2 is (k:Int)=some (m',is',z)∧Shp n (n+1) m'∧(is'=true→is=true∧(∀ a,a≠i→aZ m' a=aZ m a)∧(∀ j,j<k→cell m' i j=cell m i j) ∧
   ∀ j,k≤j→j≤n→VR N (cell m' i j)∧rv (cell m' i j)=rv (cell m i j)-rv f*rv (cell m p j)):=by
 intro c
 induction c with
 | zero =>
  intro k fuel m is hk hf hs
  obtain ⟨fuel,rfl⟩:∃ k',fuel=k'+1:=⟨fuel-1,by omega⟩
  rw [bT,ixM (by rw [hs.1];exact hi),bs,hs.2 i hi,decide_eq_false (by omega),cond_false]
  exact ⟨m,is,_,rfl,hs,fun h=>⟨h,fun _ _=>rfl,fun _ _=>rfl,fun j h1 h2=>by omega⟩⟩
 | succ c ih =>
  intro k fuel m is hk hf hs
  obtain ⟨fuel,rfl⟩:∃ k',fuel=k'+1:=⟨fuel-1,by omega⟩
  have hli:=hs.2 i hi
  have hlp:=hs.2 p hp
  rw [bT,ixM (by rw [hs.1];exact hi),bs,hli,decide_eq_true (by omega),cond_true]
  cases is with
  | false =>
   rw [cond_false]
   exact ⟨m,false,_,rfl,hs,fun h=>by cases h⟩
  | true =>
   obtain ⟨r,ok,e1,h1⟩:=xK hN f (aw (aZ m p) k)
   obtain ⟨y,ok2,e2,h2⟩:=zM hN (aw (aZ m i) k) r
   have hset:((aZ m i).set k y).length=n+1:=by rw [List.length_set];exact hli
   have hs':=hs.set hi hset
   rw [cond_true,ixM (by rw [hs.1];exact hp),bs,gk (by omega),bs,e1,bs,bs,gk (by omega),bs,e2,bs]
   dsimp only
   cases ok with
   | false =>
    rw [cond_false,bs,gk (by omega),bs,kE (by omega),bs,kE (by rw [hs.1];exact hi),bs,bF (by omega) (by omega),bs]
    obtain ⟨m',is',z,e3,h3,h4⟩:=ih (k+1) fuel _ false (by omega) (by omega) hs'
    exact ⟨m',is',z,e3,h3,fun h=>absurd (h4 h).1 (by decide)⟩
   | true =>
    rw [cond_true,bs,gk (by omega),bs,kE (by omega),bs,kE (by rw [hs.1];exact hi),bs,bF (by omega) (by omega),bs]
    obtain ⟨m',is',z,e3,h3,h4⟩:=ih (k+1) fuel _ ok2 (by omega) (by omega) hs'
    refine ⟨m',is',z,e3,h3,fun h=>?_⟩
    obtain ⟨k1,k2,k3,k4⟩:=h4 h
    have hM:∀ a,aZ (m.set i ((aZ m i).set k y)) a=if a=i then (aZ m i).set k y else aZ m a:=lH (by rw [hs.1];exact hi)
    have hC:∀ j,cell (m.set i ((aZ m i).set k y)) i j=if j=k then y else cell m i j:=fun j=>by
     unfold cell
     rw [hM i,if_pos rfl,j6 (by omega)]
    refine ⟨rfl,fun a ha=>?_,fun j hj=>?_,fun j hj hjn=>?_⟩
    ·rw [k2 a ha,hM a,if_neg ha]
    ·rw [k3 j (by omega),hC j,if_neg (by omega)]
    ·by_cases e:j=k
     ·subst e
      rw [k3 j (by omega),hC j,if_pos rfl]
      obtain ⟨g1,g2,g3,g4⟩:=h2 k1
      obtain ⟨_,_,_,g8⟩:=h1 rfl
      refine ⟨g3,?_⟩
      rw [g4,g8]
      rfl
     ·obtain ⟨g1,g2⟩:=k4 j (by omega) hjn
      rw [hC j,if_neg e] at g2
      refine ⟨g1,?_⟩
      rw [g2]
      have:cell (m.set i ((aZ m i).set k y)) p j=cell m p j:=by
       unfold cell;rw [hM p,if_neg hpi]
      rw [this]
end
def cv (m:bc) (i j:Nat):Rat:=rv (cell m i j)
def cW:Nat→(Nat→Rat)→Rat
 | 0,_=>0
 | n+1,g=>cW n g+g n
theorem el {g h:Nat→Rat}:∀ {n:Nat},(∀ j,j<n→g j=h j)→cW n g=cW n h
 | 0,_=>rfl
 | n+1,e=>by
  have h1:=el (n:=n) fun j hj=>e j (by omega)
  have h2:=e n (by omega)
  unfold cW
  rw [h1,h2]
theorem nS {a b y:Nat→Rat} {F:Rat}:∀ n:Nat,cW n (fun j=>(a j-F*b j)*y j)=cW n (fun j=>a j*y j)-F*cW n (fun j=>b j*y j)
 | 0=>by unfold cW;grind
 | n+1=>by
  have:=nS (a:=a) (b:=b) (y:=y) (F:=F) n
  unfold cW
  grind
theorem nQ {g:Nat→Rat} {p:Nat}:∀ {n:Nat},p<n→(∀ j,j<n→j≠p→g j=0)→cW n g=g p
 | 0,h,_=>by omega
 | n+1,h,e=>by
  unfold cW
  by_cases hp:p=n
  ·subst hp
   have:cW p g=cW p (fun _=>0):=el fun j hj=>e j (by omega) (by omega)
   have z:∀ k:Nat,cW k (fun _=>(0:Rat))=0:=fun k=>by
    induction k with
    | zero=>rfl
    | succ k ih=>unfold cW;rw [ih];grind
   rw [this,z];grind
  ·rw [nQ (by omega) fun j hj=>e j (by omega),e n (by omega) (by omega)];grind
def md (n:Nat) (m:bc) (y:Nat→Rat):Prop:=∀ i,i<n→cW n (fun j=>cv m i j*y j)=cv m i n
def oz (n p:Nat) (m:bc):Prop:=∀ i,i<n→∀ q,q<p→i≠q→cv m i q=0
section
variable {N:Nat}
theorem rV {r:cK} (h:r.1=0):rv r=0:=by
 unfold rv
 rw [h]
 have:((0:Int):Rat)=0:=rfl
 rw [this,Rat.div_def,Rat.zero_mul]
theorem wm (hN:1073741824≤N) {n:Nat} (hn:n≤6) {p:Nat} (hp:p<n):∀ (c i fuel:Nat) (m:bc),i+c=n→c<fuel→Shp n (n+1) m →
  ∃ s,cd N fuel m (p:Int) (i:Int)=some s∧((∃ m',s=.inl (false,m')∧Shp n (n+1) m')∨∃ m' z,s=.inr (m',z)∧Shp n (n+1) m'∧aZ m' p=aZ m p∧(∀ a,a<i→aZ m' a=aZ m a) ∧
   ∀ a,i≤a→a<n→a≠p→∃ F:Rat,(∀ j,j<p→cv m' a j=cv m a j)∧(∀ j,p≤j→j≤n→cv m' a j=cv m a j-F*cv m p j)∧cv m' a p=0):=by
 intro c
 induction c with
 | zero =>
  intro i fuel m hi hf hs
  obtain ⟨fuel,rfl⟩:∃ k',fuel=k'+1:=⟨fuel-1,by omega⟩
  rw [cd,hs.1,decide_eq_false (by omega),cond_false]
  exact ⟨_,rfl,.inr ⟨m,_,rfl,hs,rfl,fun _ _=>rfl,fun a h1 h2=>by omega⟩⟩
 | succ c ih =>
  intro i fuel m hi hf hs
  obtain ⟨fuel,rfl⟩:∃ k',fuel=k'+1:=⟨fuel-1,by omega⟩
  have hin:i<n:=by omega
  have hli:=hs.2 i hin
  have hlp:=hs.2 p hp
  rw [cd,hs.1,decide_eq_true (by omega),cond_true]
  by_cases e:i=p
  ·rw [show ((i:Int) == (p:Int))=true by rw [beq_iff_eq];omega,cond_true,bF (by omega) (by omega),bs]
   obtain ⟨s,e1,h1⟩:=ih (i+1) fuel m (by omega) (by omega) hs
   refine ⟨s,e1,h1.imp id ?_⟩
   rintro ⟨m',z,k1,k2,k3,k4,k5⟩
   exact ⟨m',z,k1,k2,k3,fun a ha=>k4 a (by omega),fun a h1 h2 h3=>k5 a (by omega) h2 h3⟩
  ·rw [show ((i:Int) == (p:Int))=false by rw [beq_eq_false_iff_ne];omega,cond_false,ixM (by rw [hs.1];exact hin),bs,gk (by omega),bs]
   by_cases h0:(aw (aZ m i) p).1=0
   ·rw [show ((aw (aZ m i) p).1 == 0)=true by rw [beq_iff_eq];exact h0,cond_true,bF (by omega) (by omega),bs]
    obtain ⟨s,e1,h1⟩:=ih (i+1) fuel m (by omega) (by omega) hs
    refine ⟨s,e1,h1.imp id ?_⟩
    rintro ⟨m',z,k1,k2,k3,k4,k5⟩
    refine ⟨m',z,k1,k2,k3,fun a ha=>k4 a (by omega),fun a h1 h2 h3=>?_⟩
    by_cases ea:a=i
    ·subst ea
     have hrow:=k4 a (by omega)
     have hc:∀ j,cv m' a j=cv m a j:=fun j=>by unfold cv cell;rw [hrow]
     refine ⟨0,fun j _=>hc j,fun j _ _=>by rw [hc j];grind,?_⟩
     rw [hc p]
     exact rV h0
    ·exact k5 a (by omega) h2 h3
   ·rw [show ((aw (aZ m i) p).1 == 0)=false by rw [beq_eq_false_iff_ne];exact h0,cond_false,bs,gk (by omega),bs,ixM (by rw [hs.1];exact hp),bs,gk (by omega),bs]
    obtain ⟨f,ok,e2,h2⟩:=yy hN (aw (aZ m i) p) (aw (aZ m p) p)
    rw [e2,bs]
    dsimp only
    obtain ⟨m2,is2,z2,e3,hs2,h3⟩:=w6 hN hn hp hin (fun h=>e h.symm) (f:=f) (n+1-p) p N m ok (by omega) (by omega) hs
    rw [e3,bs,lpB]
    cases is2 with
    | false =>
     rw [cond_false]
     exact ⟨_,rfl,.inl ⟨m2,rfl,hs2⟩⟩
    | true =>
     rw [cond_true,bF (by omega) (by omega),bs]
     obtain ⟨g1,g2,g3,g4⟩:=h3 rfl
     obtain ⟨_,_,_,_,hf⟩:=h2 g1
     obtain ⟨s,e1,h1⟩:=ih (i+1) fuel m2 (by omega) (by omega) hs2
     refine ⟨s,e1,h1.imp id ?_⟩
     rintro ⟨m',z,k1,k2,k3,k4,k5⟩
     have hpi:p≠i:=fun h=>e h.symm
     have hP:∀ j,cv m2 p j=cv m p j:=fun j=>by unfold cv cell;rw [g2 p hpi]
     refine ⟨m',z,k1,k2,k3.trans (g2 p hpi),fun a ha=>(k4 a (by omega)).trans (g2 a (by omega)),fun a h1 h2 h3=>?_⟩
     by_cases ea:a=i
     ·subst ea
      have hrow:=k4 a (by omega)
      have hc:∀ j,cv m' a j=cv m2 a j:=fun j=>by unfold cv cell;rw [hrow]
      have hv:∀ j,p≤j→j≤n→cv m' a j=cv m a j-rv f*cv m p j:=fun j h4 h5=>by
       rw [hc j];exact (g4 j h4 h5).2
      refine ⟨rv f,fun j hj=>?_,hv,?_⟩
      ·rw [hc j];unfold cv;rw [g3 j hj]
      ·rw [hv p (by omega) (by omega)]
       have:rv f*cv m p p=cv m a p:=hf
       rw [this];grind
     ·obtain ⟨F,f1,f2,f3⟩:=k5 a (by omega) h2 h3
      have hA:∀ j,cv m2 a j=cv m a j:=fun j=>by unfold cv cell;rw [g2 a ea]
      exact ⟨F,fun j hj=>by rw [f1 j hj,hA j],fun j h4 h5=>by rw [f2 j h4 h5,hA j,hP j],f3⟩
theorem wO (hN:1073741824≤N) {n:Nat} (hn:n≤6) {p:Nat} (hp:p<n) {m:bc} (hs:Shp n (n+1) m) (hd:oz n p m) :
  ∃ ok m',fq N m (p:Int)=some (ok,m')∧Shp n (n+1) m'∧(ok=true→oz n (p+1) m'∧∀ y,md n m y↔md n m' y):=by
 unfold fq
 obtain ⟨s,e,h⟩:=wm hN hn hp n 0 N m (by omega) (by omega) hs
 have e':cd N N m (p:Int) 0=some s:=e
 rw [e',bs]
 rcases h with ⟨m',rfl,h1⟩ | ⟨m',z,rfl,h1,h2,_,h3⟩
 ·rw [iL]
  exact ⟨_,_,rfl,h1,fun h=>by cases h⟩
 ·rw [gm]
  refine ⟨_,_,rfl,h1,fun _=>?_⟩
  have hP:∀ j,cv m' p j=cv m p j:=fun j=>by unfold cv cell;rw [h2]
  have hall:∀ a,a<n→a≠p→∃ F:Rat,(∀ j,j≤n→cv m' a j=cv m a j-F*cv m p j)∧cv m' a p=0:=by
   intro a ha hap
   obtain ⟨F,f1,f2,f3⟩:=h3 a (by omega) ha hap
   refine ⟨F,fun j hj=>?_,f3⟩
   by_cases hjp:j<p
   ·rw [f1 j hjp,hd p hp j hjp (by omega)];grind
   ·exact f2 j (by omega) hj
  refine ⟨fun i hi q hq hiq=>?_,fun y=>⟨fun h i hi=>?_,fun h i hi=>?_⟩⟩
  ·by_cases e1:i=p
   ·subst e1
    rw [hP q]
    exact hd i hi q (by omega) hiq
   ·obtain ⟨F,f1,f2⟩:=hall i hi e1
    by_cases e2:q=p
    ·subst e2;exact f2
    ·rw [f1 q (by omega),hd i hi q (by omega) hiq,hd p hp q (by omega) (by omega)];grind
  ·by_cases e1:i=p
   ·subst e1
    rw [hP n,← h i hi]
    exact el fun j _=>by rw [hP j]
   ·obtain ⟨F,f1,_⟩:=hall i hi e1
    rw [el (h:=fun j=>(cv m i j-F*cv m p j)*y j) fun j hj=>by rw [f1 j (by omega)],nS,h i hi,h p hp,f1 n (by omega)]
  ·by_cases e1:i=p
   ·subst e1
    rw [← hP n,← h i hi]
    exact el fun j _=>by rw [hP j]
   ·obtain ⟨F,f1,_⟩:=hall i hi e1
    have h4:=h i hi
    have h5:=h p hp
    rw [el (h:=fun j=>(cv m i j-F*cv m p j)*y j) fun j hj=>by rw [f1 j (by omega)],nS,f1 n (by omega)] at h4
    rw [el (h:=fun j=>cv m p j*y j) fun j _=>by rw [hP j],hP n] at h5
    grind
end
section
variable {N:Nat}
theorem wo {n:Nat} (hn:n≤6) {p:Nat} (hp:p<n) {m:bc} (hs:Shp n (n+1) m):∀ (c k fuel:Nat),k+c=n→c<fuel→∃ q:Nat,bw N fuel (n:Int) m (p:Int) (k:Int)=some (q:Int)∧k≤q∧q≤n:=by
 intro c
 induction c with
 | zero =>
  intro k fuel hk hf
  obtain ⟨fuel,rfl⟩:∃ k',fuel=k'+1:=⟨fuel-1,by omega⟩
  rw [bw,decide_eq_false (by omega),cond_false]
  exact ⟨k,rfl,Nat.le_refl k,by omega⟩
 | succ c ih =>
  intro k fuel hk hf
  obtain ⟨fuel,rfl⟩:∃ k',fuel=k'+1:=⟨fuel-1,by omega⟩
  rw [bw,decide_eq_true (by omega),cond_true,ixM (by rw [hs.1];omega),bs,gk (by rw [hs.2 k (by omega)];omega),bs]
  cases (aw (aZ m k) p).1 == 0 with
  | true =>
   rw [cond_true,bF (by omega) (by omega),bs]
   obtain ⟨q,e,h1,h2⟩:=ih (k+1) fuel (by omega) (by omega)
   exact ⟨q,e,by omega,h2⟩
  | false =>
   rw [cond_false]
   exact ⟨k,rfl,Nat.le_refl k,by omega⟩
theorem wU (hN:1073741824≤N) {n:Nat} (hn:n≤6):∀ (c p fuel:Nat) (m:bc),p+c=n→c<fuel→Shp n (n+1) m→oz n p m →
  ∃ s,bp N fuel (n:Int) m (p:Int)=some s∧(s=.inl ([],false)∨∃ m' z,s=.inr (m',z)∧Shp n (n+1) m'∧oz n n m'∧∀ y,md n m y↔md n m' y):=by
 intro c
 induction c with
 | zero =>
  intro p fuel m hpc hf hs hd
  obtain ⟨fuel,rfl⟩:∃ k',fuel=k'+1:=⟨fuel-1,by omega⟩
  obtain rfl:p=n:=by omega
  rw [bp,decide_eq_false (by omega),cond_false]
  exact ⟨_,rfl,.inr ⟨m,_,rfl,hs,hd,fun _=>Iff.rfl⟩⟩
 | succ c ih =>
  intro p fuel m hpc hf hs hd
  obtain ⟨fuel,rfl⟩:∃ k',fuel=k'+1:=⟨fuel-1,by omega⟩
  have hp:p<n:=by omega
  obtain ⟨k,e1,hk1,hk2⟩:=wo (N:=N) hn hp hs (n-p) p N (by omega) (by omega)
  rw [bp,decide_eq_true (by omega),cond_true,e1,bs,lpB]
  by_cases hkn:k=n
  ·rw [show ((k:Int) == (n:Int))=true by rw [beq_iff_eq];omega,cond_true]
   exact ⟨_,rfl,.inl rfl⟩
  ·have hk:k<n:=by omega
   have hml:=hs.1
   rw [show ((k:Int) == (n:Int))=false by rw [beq_eq_false_iff_ne];omega,cond_false,ixM (by omega),bs,ixM (by omega),bs,bs,kE (by omega),bs,kE (by rw [List.length_set];omega),bs]
   have hs1:Shp n (n+1) (m.set k (aZ m p)):=hs.set hk (hs.2 p hp)
   have hs2:Shp n (n+1) ((m.set k (aZ m p)).set p (aZ m k)):=hs1.set hp (hs.2 k hk)
   have hR:∀ a,aZ ((m.set k (aZ m p)).set p (aZ m k)) a=if a=p then aZ m k else if a=k then aZ m p else aZ m a:=fun a=>by
    rw [lH (by rw [List.length_set];omega),lH (by omega)]
   generalize (m.set k (aZ m p)).set p (aZ m k)=m2 at hs2 hR
   have hC:∀ a j,cv m2 a j=if a=p then cv m k j else if a=k then cv m p j else cv m a j:=fun a j=>by
    unfold cv cell
    rw [hR a]
    split
    ·rfl
    ·split <;> rfl
   have hd2:oz n p m2:=fun i hi q hq hiq=>by
    rw [hC i q]
    split
    ·exact hd k hk q hq (by omega)
    ·split
     ·exact hd p hp q hq (by omega)
     ·exact hd i hi q hq hiq
   have hsol:∀ y,md n m y↔md n m2 y:=fun y=>by
    have key:∀ a b,(∀ j,cv m2 a j=cv m b j)→(cW n (fun j=>cv m2 a j*y j)=cv m2 a n↔cW n (fun j=>cv m b j*y j)=cv m b n):=fun a b h=>by
     rw [h n,el (g:=fun j=>cv m2 a j*y j) (h:=fun j=>cv m b j*y j) fun j _=>by rw [h j]]
    have kp:=key p k fun j=>by rw [hC p j,if_pos rfl]
    have kk:cW n (fun j=>cv m2 k j*y j)=cv m2 k n↔cW n (fun j=>cv m p j*y j)=cv m p n:=by
     by_cases e:k=p
     ·subst e;exact kp
     ·exact key k p fun j=>by rw [hC k j,if_neg e,if_pos rfl]
    constructor
    ·intro h i hi
     by_cases e1:i=p
     ·subst e1;exact kp.2 (h k hk)
     ·by_cases e2:i=k
      ·subst e2;exact kk.2 (h p hp)
      ·exact (key i i fun j=>by rw [hC i j,if_neg e1,if_neg e2]).2 (h i hi)
    ·intro h i hi
     by_cases e1:i=p
     ·subst e1;exact kk.1 (h k hk)
     ·by_cases e2:i=k
      ·subst e2;exact kp.1 (h p hp)
      ·exact (key i i fun j=>by rw [hC i j,if_neg e1,if_neg e2]).1 (h i hi)
   obtain ⟨ok,m3,e3,hs3,h3⟩:=wO hN hn hp hs2 hd2
   rw [e3,bs]
   dsimp only
   cases ok with
   | false =>
    rw [cond_false]
    exact ⟨_,rfl,.inl rfl⟩
   | true =>
    obtain ⟨h4,h5⟩:=h3 rfl
    rw [cond_true,bF (by omega) (by omega),bs]
    obtain ⟨s,e6,h6⟩:=ih (p+1) fuel m3 (by omega) (by omega) hs3 h4
    refine ⟨s,e6,h6.imp id ?_⟩
    rintro ⟨m',z,k1,k2,k3,k4⟩
    exact ⟨m',z,k1,k2,k3,fun y=>(hsol y).trans ((h5 y).trans (k4 y))⟩
theorem kY {o:aX} {v:cK} {j:Nat} (h:j<o.length):aw (o++[v]) j=aw o j:=by
 unfold aw;simp [List.getElem?_append_left h]
theorem kr {o:aX} {v:cK}:aw (o++[v]) o.length=v:=by
 unfold aw;simp
theorem yU (hN:1073741824≤N) {n:Nat} (hn:n≤6) {m:bc} (hs:Shp n (n+1) m):∀ (c p fuel:Nat) (o:aX),p+c=n→c<fuel→o.length=p →
  ∃ s,bq N fuel (n:Int) m o (p:Int)=some s∧(s=.inl ([],false)∨∃ o' z,s=.inr (o',z)∧o'.length=n∧(∀ j,j<p→aw o' j=aw o j) ∧
   ∀ j,p≤j→j<n→VR N (aw o' j)∧cv m j j≠0∧rv (aw o' j)*cv m j j=cv m j n):=by
 intro c
 induction c with
 | zero =>
  intro p fuel o hpc hf ho
  obtain ⟨fuel,rfl⟩:∃ k',fuel=k'+1:=⟨fuel-1,by omega⟩
  rw [bq,decide_eq_false (by omega),cond_false]
  exact ⟨_,rfl,.inr ⟨o,_,rfl,by omega,fun _ _=>rfl,fun j h1 h2=>by omega⟩⟩
 | succ c ih =>
  intro p fuel o hpc hf ho
  obtain ⟨fuel,rfl⟩:∃ k',fuel=k'+1:=⟨fuel-1,by omega⟩
  have hp:p<n:=by omega
  have hlp:=hs.2 p hp
  obtain ⟨r,ok,e,h⟩:=yy hN (aw (aZ m p) n) (aw (aZ m p) p)
  rw [bq,decide_eq_true (by omega),cond_true,ixM (by rw [hs.1];omega),bs,gk (by omega),bs,bs,gk (by omega),bs,e,bs]
  dsimp only
  cases ok with
  | false =>
   rw [cond_false]
   exact ⟨_,rfl,.inl rfl⟩
  | true =>
   rw [cond_true,bB (by decide) (by rw [List.length_singleton];omega),bs,bF (by omega) (by omega),bs]
   obtain ⟨s,e1,h1⟩:=ih (p+1) fuel (o++[(r.1,r.2)]) (by omega) (by omega) (by rw [List.length_append,List.length_singleton];omega)
   refine ⟨s,e1,h1.imp id ?_⟩
   rintro ⟨o',z,k1,k2,k3,k4⟩
   refine ⟨o',z,k1,k2,fun j hj=>by rw [k3 j (by omega),kY (by omega)],fun j h1 h2=>?_⟩
   by_cases ej:j=p
   ·subst ej
    have hr:aw o' j=r:=by
     rw [k3 j (by omega),← ho,kr]
    obtain ⟨g1,g2,g3,g4,g5⟩:=h rfl
    rw [hr]
    refine ⟨g3,?_,g5⟩
    intro h0
    have hd:=ji hN g2
    have hz:(((aw (aZ m j) j).1:Int):Rat)≠0:=fun e=>g4 (Rat.intCast_eq_zero_iff.1 e)
    have:rv (aw (aZ m j) j)=0:=h0
    unfold rv at this
    grind
   ·exact k4 j (by omega) h2
theorem yG (hN:1073741824≤N) {n:Nat} (hn:n≤6) {A:bc} (hA:Shp n n A) {b:aX} (hb:b.length=n):∀ (c i fuel:Nat) (m:bc),i+c=n→c<fuel→m.length=i →
  ∃ s,bt N fuel A b (n:Int) m (i:Int)=some s∧(s=.inl ([],false)∨∃ m' z,s=.inr (m',z)∧m'.length=n∧(∀ a,a<i→aZ m' a=aZ m a)∧∀ a,i≤a→a<n→aZ m' a=aZ A a++[aw b a]):=by
 intro c
 induction c with
 | zero =>
  intro i fuel m hic hf hm
  obtain ⟨fuel,rfl⟩:∃ k',fuel=k'+1:=⟨fuel-1,by omega⟩
  rw [bt,decide_eq_false (by omega),cond_false]
  exact ⟨_,rfl,.inr ⟨m,_,rfl,by omega,fun _ _=>rfl,fun a h1 h2=>by omega⟩⟩
 | succ c ih =>
  intro i fuel m hic hf hm
  obtain ⟨fuel,rfl⟩:∃ k',fuel=k'+1:=⟨fuel-1,by omega⟩
  have hi:i<n:=by omega
  have hAl:=hA.2 i hi
  rw [bt,decide_eq_true (by omega),cond_true,gk (by omega),bs]
  rcases gR hN (aw b i) with hv | hv
  ·unfold VR at hv
   rw [hv,bs,cond_true,ixM (by rw [hA.1];exact hi),bs,bs,bB (by decide) (by rw [List.length_nil];omega),bs,bB (by decide) (by rw [List.length_append,List.length_nil,List.length_singleton];omega),bs,bB (by decide) (by rw [List.length_singleton];omega),bs,bF (by omega) (by omega),bs]
   obtain ⟨s,e1,h1⟩:=ih (i+1) fuel (m++[[]++aZ A i++[((aw b i).1,(aw b i).2)]]) (by omega) (by omega) (by rw [List.length_append,List.length_singleton];omega)
   refine ⟨s,e1,h1.imp id ?_⟩
   rintro ⟨m',z,k1,k2,k3,k4⟩
   have hr1:∀ a,a<i→aZ (m++[[]++aZ A i++[((aw b i).1,(aw b i).2)]]) a=aZ m a:=fun a ha=>by
    unfold aZ;simp [List.getElem?_append_left (show a<m.length by omega)]
   have hr2:aZ (m++[[]++aZ A i++[((aw b i).1,(aw b i).2)]]) i=aZ A i++[aw b i]:=by
    unfold aZ;subst hm;simp
   refine ⟨m',z,k1,k2,fun a ha=>(k3 a (by omega)).trans (hr1 a ha),fun a h1 h2=>?_⟩
   by_cases ea:a=i
   ·subst ea
    rw [k3 a (by omega),hr2]
   ·exact k4 a (by omega) h2
  ·rw [hv,bs,cond_false]
   exact ⟨_,rfl,.inl rfl⟩
def vA (N:Nat) (A:bc) (c:Nat):Prop:=∀ i,i<A.length→(aZ A i).length=c∧∀ j,j<c→VR N (cell A i j)
theorem zu (hN:1073741824≤N) {A:bc} {c:Nat} (hc:c≤1000) {i:Nat} (hi:i<A.length) (hl:(aZ A i).length=c):∀ (d j fuel:Nat) (x:Int),j+d=c→d<fuel →
  ∃ s,cT N fuel A x (c:Int) (i:Int) (j:Int)=some s∧((s=.inl false∧∃ q,j≤q∧q<c∧¬ VR N (cell A i q))∨∃ z,s=.inr z∧∀ q,j≤q→q<c→VR N (cell A i q)):=by
 intro d
 induction d with
 | zero =>
  intro j fuel x hj hf
  obtain ⟨fuel,rfl⟩:∃ k',fuel=k'+1:=⟨fuel-1,by omega⟩
  rw [cT,decide_eq_false (by omega),cond_false]
  exact ⟨_,rfl,.inr ⟨_,rfl,fun q h1 h2=>by omega⟩⟩
 | succ d ih =>
  intro j fuel x hj hf
  obtain ⟨fuel,rfl⟩:∃ k',fuel=k'+1:=⟨fuel-1,by omega⟩
  rw [cT,decide_eq_true (by omega),cond_true,ixM hi,bs,gk (by omega),bs]
  rcases gR hN (aw (aZ A i) j) with hv | hv
  ·have hv':=hv
   unfold VR at hv'
   rw [hv',bs,cond_true,bF (by omega) (by omega),bs]
   obtain ⟨s,e,h⟩:=ih (j+1) fuel x (by omega) (by omega)
   refine ⟨s,e,?_⟩
   rcases h with ⟨h1,q,h2,h3,h4⟩ | ⟨z,h1,h2⟩
   ·exact .inl ⟨h1,q,by omega,h3,h4⟩
   ·refine .inr ⟨z,h1,fun q g1 g2=>?_⟩
    by_cases e:q=j
    ·subst e;exact hv
    ·exact h2 q (by omega) g2
  ·rw [hv,bs,cond_false]
   refine ⟨_,rfl,.inl ⟨rfl,j,Nat.le_refl j,by omega,fun h=>?_⟩⟩
   unfold VR cell at h
   rw [hv] at h;cases h
theorem zx (hN:1073741824≤N) {A:bc} (hA:A.length≤1000) {c:Nat} (hc:c≤1000):∀ (d i fuel:Nat) (x:Int),i+d=A.length→d<fuel →
  ∃ s,cV N fuel A x (c:Int) (i:Int)=some s∧((s=.inl false∧¬ vA N A c)∨∃ z,s=.inr z∧∀ q,i≤q→q<A.length→(aZ A q).length=c∧∀ j,j<c→VR N (cell A q j)):=by
 intro d
 induction d with
 | zero =>
  intro i fuel x hi hf
  obtain ⟨fuel,rfl⟩:∃ k',fuel=k'+1:=⟨fuel-1,by omega⟩
  rw [cV,decide_eq_false (by omega),cond_false]
  exact ⟨_,rfl,.inr ⟨_,rfl,fun q h1 h2=>by omega⟩⟩
 | succ d ih =>
  intro i fuel x hi hf
  obtain ⟨fuel,rfl⟩:∃ k',fuel=k'+1:=⟨fuel-1,by omega⟩
  have hil:i<A.length:=by omega
  rw [cV,decide_eq_true (by omega),cond_true,ixM hil,bs]
  by_cases hl:(aZ A i).length=c
  ·rw [show (((aZ A i).length:Int) != (c:Int))=false by rw [bne_eq_false_iff_eq];omega,cond_false]
   obtain ⟨s,e,h⟩:=zu hN hc hil hl c 0 N x (by omega) (by omega)
   have e':cT N N A x (c:Int) (i:Int) 0=some s:=e
   rw [e',bs]
   rcases h with ⟨rfl,q,_,h3,h4⟩ | ⟨z,rfl,h2⟩
   ·rw [iL]
    exact ⟨_,rfl,.inl ⟨rfl,fun h=>h4 ((h i hil).2 q h3)⟩⟩
   ·rw [gm,bF (by omega) (by omega),bs]
    obtain ⟨s,e,h⟩:=ih (i+1) fuel x (by omega) (by omega)
    refine ⟨s,e,h.imp id ?_⟩
    rintro ⟨z,h5,h6⟩
    refine ⟨z,h5,fun q g1 g2=>?_⟩
    by_cases e:q=i
    ·subst e;exact ⟨hl,fun j hj=>h2 j (by omega) hj⟩
    ·exact h6 q (by omega) g2
  ·rw [show (((aZ A i).length:Int) != (c:Int))=true by rw [bne_iff_ne];omega,cond_true]
   exact ⟨_,rfl,.inl ⟨rfl,fun h=>hl (h i hil).1⟩⟩
theorem n6 (hN:1073741824≤N) {A:bc} (hA:A.length≤1000) {c:Nat} (hc:c≤1000) (n:Nat):∃ b,dc N A (n:Int) (c:Int)=some b∧(b=true↔vA N A c∧A.length=n):=by
 unfold dc
 obtain ⟨s,e,h⟩:=zx hN hA hc A.length 0 N (n:Int) (by omega) (by omega)
 have e':cV N N A (n:Int) (c:Int) 0=some s:=e
 rw [e',bs]
 rcases h with ⟨rfl,h⟩ | ⟨z,rfl,h⟩
 ·rw [iL]
  exact ⟨false,rfl,fun h=>(by cases h),fun h2=>absurd h2.1 h⟩
 ·rw [gm]
  refine ⟨_,rfl,?_⟩
  rw [beq_iff_eq]
  exact ⟨fun h2=>⟨fun i hi=>h i (by omega) hi,by omega⟩,fun h2=>by omega⟩
theorem kv (hN:1073741824≤N) {n:Nat} (hn:n≤6) {A:bc} (hA:Shp n n A) {b:aX} (hb:b.length=n) :
  ∃ x ok,bo N A b=some (x,ok)∧(ok=true→x.length=n∧(∀ j,j<n→VR N (aw x j)) ∧
   ∀ y:Nat→Rat,(∀ i,i<n→cW n (fun j=>cv A i j*y j)=rv (aw b i))↔∀ j,j<n→y j=rv (aw x j)):=by
 have hAl:=hA.1
 unfold bo
 rw [decide_eq_false (by omega),cond_false,hb]
 obtain ⟨q,e0,_⟩:=n6 hN (A:=A) (by omega) (c:=n) (by omega) n
 rw [e0,bs]
 cases q with
 | false=>exact ⟨_,_,rfl,fun h=>by cases h⟩
 | true =>
  rw [cond_true]
  obtain ⟨s1,e1,h1⟩:=yG hN hn hA hb n 0 N [] (by omega) (by omega) rfl
  have e1':bt N N A b (n:Int) [] 0=some s1:=e1
  rw [e1',bs]
  rcases h1 with rfl | ⟨m,z,rfl,hm,_,hr⟩
  ·rw [iL];exact ⟨_,_,rfl,fun h=>by cases h⟩
  ·rw [gm]
   have hs:Shp n (n+1) m:=⟨hm,fun i hi=>by rw [hr i (by omega) hi,List.length_append,hA.2 i hi,List.length_singleton]⟩
   have hc1:∀ i j,i<n→j<n→cv m i j=cv A i j:=fun i j hi hj=>by
    unfold cv cell
    rw [hr i (by omega) hi,kY (by rw [hA.2 i hi];exact hj)]
   have hc2:∀ i,i<n→cv m i n=rv (aw b i):=fun i hi=>by
    unfold cv cell
    have:=hA.2 i hi
    rw [hr i (by omega) hi,← this,kr]
   obtain ⟨s2,e2,h2⟩:=wU hN hn n 0 N m (by omega) (by omega) hs (fun i _ q hq=>by omega)
   have e2':bp N N (n:Int) m 0=some s2:=e2
   dsimp only
   rw [e2',bs]
   rcases h2 with rfl | ⟨m',z',rfl,hs',hd,hsol⟩
   ·rw [iL];exact ⟨_,_,rfl,fun h=>by cases h⟩
   ·rw [gm]
    obtain ⟨s3,e3,h3⟩:=yU hN hn hs' n 0 N [] (by omega) (by omega) rfl
    have e3':bq N N (n:Int) m' [] 0=some s3:=e3
    dsimp only
    rw [e3',bs]
    rcases h3 with rfl | ⟨o,z'',rfl,ho,_,h4⟩
    ·rw [iL];exact ⟨_,_,rfl,fun h=>by cases h⟩
    ·rw [gm]
     refine ⟨_,_,rfl,fun _=>⟨ho,fun j hj=>(h4 j (by omega) hj).1,fun y=>?_⟩⟩
     have k1:(∀ i,i<n→cW n (fun j=>cv A i j*y j)=rv (aw b i))↔md n m y:=by
      unfold md
      constructor
      ·intro h i hi
       rw [el (h:=fun j=>cv A i j*y j) fun j hj=>by rw [hc1 i j hi hj],hc2 i hi]
       exact h i hi
      ·intro h i hi
       rw [← hc2 i hi,← h i hi]
       exact el fun j hj=>by rw [hc1 i j hi hj]
     rw [k1,hsol y]
     unfold md
     have k2:∀ i,i<n→cW n (fun j=>cv m' i j*y j)=cv m' i i*y i:=fun i hi=>nQ hi fun j hj hji=>by
      rw [hd i hi j hj (fun e=>hji e.symm)];exact Rat.zero_mul _
     constructor
     ·intro h j hj
      have h5:=h j hj
      rw [k2 j hj] at h5
      obtain ⟨_,g2,g3⟩:=h4 j (by omega) hj
      grind
     ·intro h i hi
      rw [k2 i hi,h i hi]
      obtain ⟨_,g2,g3⟩:=h4 i (by omega) hi
      rw [← g3,Rat.mul_comm]
end
section
variable {N:Nat}
theorem gB (hN:1073741824≤N) {v:Int} (h1:-1000000000≤v) (h2:v≤1000000000):VR N (v,1) :=
 (fF hN).2 ⟨(by decide:(1:Int)≤1),(by decide:(1:Int)≤1000000000),h1,h2,Int.gcd_one⟩
theorem jI (v:Int):rv (v,1)=(v:Rat):=by
 unfold rv
 have:((1:Int):Rat)=1:=rfl
 show (v:Rat) / ((1:Int):Rat)=_
 rw [this];grind
theorem xx (hN:1073741824≤N) {n:Int} (h1:-1000000000≤n) (h2:n≤1000000000):bG N n 1=some ((n,1),true):=by
 obtain ⟨a1,a2,a3⟩:=o3 n
 obtain ⟨g,e,g1,g2,g3,g4⟩:=ni (N:=N) hN a1 (by decide:(0:Int)≤1) (by decide)
 have hg:g=1:=by
  have:=g3 (.inr (by decide))
  have:=Int.le_of_dvd (by decide) g2
  omega
 subst hg
 have hv:=gB hN h1 h2
 unfold VR at hv
 have q1:qt n 1=some n:=by
  unfold qt;rw [if_pos ⟨by decide,by rw [Int.tdiv_one];exact lu (by omega) (by omega)⟩,Int.tdiv_one]
 have q2:qt 1 1=some 1:=rfl
 unfold bG
 rw [show ((1:Int) == 0)=false from rfl,cond_false,fu (by omega) (by omega),bs,d5,bs,show inR n (0-4000000000000000000) 4000000000000000000=true from cx.2 (by omega),cond_true,bs,d5,bs,show inR 1 (0-4000000000000000000) 4000000000000000000=true from cx.2 (by omega),cond_true,show decide ((1:Int)<0)=false from rfl,cond_false,fu (by omega) (by omega),bs,e,bs,q1,bs,q2,bs,hv,bs,cond_true]
theorem sk (hN:1073741824≤N) {a b:Int} (h1:0≤a) (h2:a≤1000) (h3:0≤b) (h4:b≤1000):bK N a 1 b 1=some ((a*b,1),true):=by
 have m:=ik (a:=a) (b:=b) (by omega) (by omega) (by omega) (by omega)
 have ha:=gB hN (v:=a) (by omega) (by omega)
 have hb:=gB hN (v:=b) (by omega) (by omega)
 have m2:0≤a*b:=Int.mul_nonneg h1 h3
 have m3:a*b≤1000*1000:=Int.mul_le_mul h2 h4 h3 (by decide)
 unfold VR at ha hb
 unfold bK
 rw [ha,bs,cond_true,hb,bs,cond_true,eL (by omega) (by omega),bs,show ml 1 1=some 1 from rfl,bs,xx hN (by omega) (by omega),bs]
theorem zQ (hN:1073741824≤N) {a b:Int} (h1:0≤a) (h2:a≤10000000) (h3:0≤b) (h4:b≤10000000):bJ N a 1 b 1=some ((a+b,1),true):=by
 have ha:=gB hN (v:=a) (by omega) (by omega)
 have hb:=gB hN (v:=b) (by omega) (by omega)
 unfold VR at ha hb
 unfold bJ
 rw [ha,bs,cond_true,hb,bs,cond_true,eL (by omega) (by omega),bs,eL (by omega) (by omega),bs,Int.mul_one,Int.mul_one,bF (by omega) (by omega),bs,show ml 1 1=some 1 from rfl,bs,xx hN (by omega) (by omega),bs]
theorem ya (hN:1073741824≤N) {a b:aX} (hl:a.length=b.length) (h10:a.length≤1000):∀ (c k fuel:Nat) (x:cK) (u1 u2:Int),k+c=a.length→c<fuel →
  ∃ s,bz N fuel a b u1 u2 x.1 x.2 (k:Int)=some s∧(s=.inl ((0,0),false)∨∃ r z:cK × Int,s=.inr (r.1.1,r.1.2,z.2)∧rv r.1=rv x+(cW a.length (fun j=>rv (aw a j)*rv (aw b j))-cW k (fun j=>rv (aw a j)*rv (aw b j)))∧(VR N x→VR N r.1)):=by
 intro c
 induction c with
 | zero =>
  intro k fuel x u1 u2 hk hf
  obtain ⟨fuel,rfl⟩:∃ k',fuel=k'+1:=⟨fuel-1,by omega⟩
  rw [bz,decide_eq_false (by omega),cond_false]
  obtain rfl:k=a.length:=by omega
  exact ⟨_,rfl,.inr ⟨(x,0),((0,0),_),rfl,by grind,id⟩⟩
 | succ c ih =>
  intro k fuel x u1 u2 hk hf
  obtain ⟨fuel,rfl⟩:∃ k',fuel=k'+1:=⟨fuel-1,by omega⟩
  obtain ⟨r,ok,e,h⟩:=xK hN (aw a k) (aw b k)
  obtain ⟨y,ok2,e2,h2⟩:=yh hN x r
  rw [bz,decide_eq_true (by omega),cond_true,gk (by omega),bs,gk (by omega),bs,e,bs]
  dsimp only
  cases ok with
  | false=>rw [cond_false];exact ⟨_,rfl,.inl rfl⟩
  | true =>
   rw [cond_true,e2,bs]
   dsimp only
   cases ok2 with
   | false=>rw [cond_false];exact ⟨_,rfl,.inl rfl⟩
   | true =>
    rw [cond_true,bF (by omega) (by omega),bs]
    obtain ⟨s,e3,h3⟩:=ih (k+1) fuel y u1 u2 (by omega) (by omega)
    refine ⟨s,e3,h3.imp id ?_⟩
    rintro ⟨r',z,k1,k2,k3⟩
    obtain ⟨_,_,_,g4⟩:=h rfl
    obtain ⟨_,_,f3,f4⟩:=h2 rfl
    refine ⟨r',z,k1,?_,fun _=>k3 f3⟩
    rw [k2,f4,g4]
    have:cW (k+1) (fun j=>rv (aw a j)*rv (aw b j))=cW k (fun j=>rv (aw a j)*rv (aw b j))+rv (aw a k)*rv (aw b k):=rfl
    rw [this]
    grind
theorem yH (hN:1073741824≤N) {a b:aX} (hl:a.length=b.length) (h10:a.length≤1000):∃ r ok,df N a b=some (r,ok)∧(ok=true→VR N r∧rv r=cW a.length (fun j=>rv (aw a j)*rv (aw b j))):=by
 unfold df
 rw [show ((a.length:Int) != (b.length:Int))=false by rw [bne_eq_false_iff_eq];omega,cond_false]
 obtain ⟨s,e,h⟩:=ya hN hl h10 a.length 0 N (0,1) 0 0 (by omega) (by omega)
 have e':bz N N a b 0 0 0 1 0=some s:=e
 rw [e',bs]
 rcases h with rfl | ⟨r,z,rfl,h1,h2⟩
 ·rw [iL];exact ⟨_,_,rfl,fun h=>by cases h⟩
 ·rw [gm]
  refine ⟨r.1,true,rfl,fun _=>⟨h2 (gB hN (by decide) (by decide)),?_⟩⟩
  rw [h1,jI]
  have e0:((0:Int):Rat)=0:=rfl
  have e1:cW 0 (fun j=>rv (aw a j)*rv (aw b j))=0:=rfl
  rw [e0,e1]
  grind
def jn (r:cK):Prop:=r=(0,1)∨r=(1,1)
theorem wW (hN:1073741824≤N) {a b:aX} (hl:a.length=b.length) (h10:a.length≤1000) (ha:∀ j,j<a.length→jn (aw a j)) (hb:∀ j,j<a.length→jn (aw b j)):∀ (c k fuel:Nat) (v:Int) (u1 u2:Int),k+c=a.length→c<fuel→0≤v→v≤k →
  ∃ v' z:Int,bz N fuel a b u1 u2 v 1 (k:Int)=some (.inr (v',1,z))∧0≤v'∧v'≤a.length∧v≤v'∧∀ j,k≤j→j<a.length→aw a j=(1,1)→aw b j=(1,1)→v+1≤v':=by
 intro c
 induction c with
 | zero =>
  intro k fuel v u1 u2 hk hf h0 h1
  obtain ⟨fuel,rfl⟩:∃ k',fuel=k'+1:=⟨fuel-1,by omega⟩
  rw [bz,decide_eq_false (by omega),cond_false]
  exact ⟨v,_,rfl,h0,by omega,Int.le_refl v,fun j h1 h2=>by omega⟩
 | succ c ih =>
  intro k fuel v u1 u2 hk hf h0 h1
  obtain ⟨fuel,rfl⟩:∃ k',fuel=k'+1:=⟨fuel-1,by omega⟩
  have hm:∃ p:Int,0≤p∧p≤1∧bK N (aw a k).1 (aw a k).2 (aw b k).1 (aw b k).2=some ((p,1),true)∧(aw a k=(1,1)→aw b k=(1,1)→p=1):=by
   rcases ha k (by omega) with e1 | e1 <;> rcases hb k (by omega) with e2 | e2 <;> rw [e1,e2]
   ·exact ⟨_,by decide,by decide,sk hN (by decide) (by decide) (by decide) (by decide),fun h=>absurd h (by decide)⟩
   ·exact ⟨_,by decide,by decide,sk hN (by decide) (by decide) (by decide) (by decide),fun h=>absurd h (by decide)⟩
   ·exact ⟨_,by decide,by decide,sk hN (by decide) (by decide) (by decide) (by decide),fun _ h=>absurd h (by decide)⟩
   ·exact ⟨_,by decide,by decide,sk hN (by decide) (by decide) (by decide) (by decide),fun _ _=>rfl⟩
  obtain ⟨p,p0,p1,ep,hp⟩:=hm
  rw [bz,decide_eq_true (by omega),cond_true,gk (by omega),bs,gk (by omega),bs,ep,bs]
  dsimp only
  rw [cond_true,zQ hN h0 (by omega) p0 (by omega),bs]
  dsimp only
  rw [cond_true,bF (by omega) (by omega),bs]
  obtain ⟨v',z,e3,g1,g2,g3,g4⟩:=ih (k+1) fuel (v+p) u1 u2 (by omega) (by omega) (by omega) (by omega)
  refine ⟨v',z,e3,g1,g2,by omega,fun j h1 h2 h3 h4=>?_⟩
  by_cases e:j=k
  ·subst e
   have:=hp h3 h4
   omega
  ·have:=g4 j (by omega) h2 h3 h4
   omega
theorem z4 (hN:1073741824≤N) {a b:aX} (hl:a.length=b.length) (h10:a.length≤1000) (ha:∀ j,j<a.length→jn (aw a j)) (hb:∀ j,j<a.length→jn (aw b j)) :
  ∃ v:Int,df N a b=some ((v,1),true)∧0≤v∧v≤1000∧∀ j,j<a.length→aw a j=(1,1)→aw b j=(1,1)→1≤v:=by
 unfold df
 rw [show ((a.length:Int) != (b.length:Int))=false by rw [bne_eq_false_iff_eq];omega,cond_false]
 obtain ⟨v',z,e,g1,g2,g3,g4⟩:=wW hN hl h10 ha hb a.length 0 N 0 0 0 (by omega) (by omega) (by decide) (by decide)
 have e':bz N N a b 0 0 0 1 0=_:=e
 rw [e',bs,gm]
 exact ⟨v',rfl,g1,by omega,fun j h1 h2 h3=>by have:=g4 j (by omega) h1 h2 h3;omega⟩
theorem ze (hN:1073741824≤N) {A:bc} {x:aX} (hA:A.length≤1000) (hx:x.length≤1000) (hl:∀ i,i<A.length→(aZ A i).length=x.length):∀ (c i fuel:Nat) (y:aX),i+c=A.length→c<fuel→y.length=i →
  ∃ s,aT N fuel A x y (i:Int)=some s∧(s=.inl ([],false)∨∃ y' z,s=.inr (y',z)∧y'.length=A.length∧(∀ a,a<i→aw y' a=aw y a) ∧
   ∀ a,i≤a→a<A.length→VR N (aw y' a)∧rv (aw y' a)=cW x.length (fun j=>cv A a j*rv (aw x j))):=by
 intro c
 induction c with
 | zero =>
  intro i fuel y hi hf hy
  obtain ⟨fuel,rfl⟩:∃ k',fuel=k'+1:=⟨fuel-1,by omega⟩
  rw [aT,decide_eq_false (by omega),cond_false]
  exact ⟨_,rfl,.inr ⟨y,_,rfl,by omega,fun _ _=>rfl,fun a h1 h2=>by omega⟩⟩
 | succ c ih =>
  intro i fuel y hi hf hy
  obtain ⟨fuel,rfl⟩:∃ k',fuel=k'+1:=⟨fuel-1,by omega⟩
  have hil:i<A.length:=by omega
  have hrl:=hl i hil
  obtain ⟨r,ok,e,h⟩:=yH hN hrl (by omega)
  rw [aT,decide_eq_true (by omega),cond_true,ixM hil,bs,e,bs]
  dsimp only
  cases ok with
  | false=>rw [cond_false];exact ⟨_,rfl,.inl rfl⟩
  | true =>
   rw [cond_true,bB (by decide) (by rw [List.length_singleton];omega),bs,bF (by omega) (by omega),bs]
   obtain ⟨s,e1,h1⟩:=ih (i+1) fuel (y++[(r.1,r.2)]) (by omega) (by omega) (by rw [List.length_append,List.length_singleton];omega)
   refine ⟨s,e1,h1.imp id ?_⟩
   rintro ⟨y',z,k1,k2,k3,k4⟩
   refine ⟨y',z,k1,k2,fun a ha=>by rw [k3 a (by omega),kY (by omega)],fun a h1 h2=>?_⟩
   by_cases ea:a=i
   ·subst ea
    have hr:aw y' a=r:=by rw [k3 a (by omega),← hy,kr]
    obtain ⟨g1,g2⟩:=h rfl
    rw [hr]
    refine ⟨g1,?_⟩
    rw [g2,hrl]
    rfl
   ·exact k4 a (by omega) h2
theorem ux (hN:1073741824≤N) {A:bc} {x:aX} (hA:A.length≤1000) (hx:x.length≤1000) (hl:∀ i,i<A.length→(aZ A i).length=x.length) (hb:∀ i,i<A.length→∀ j,j<x.length→jn (cell A i j)) (hxb:∀ j,j<x.length→jn (aw x j)) (hc:∀ i,i<A.length→∃ j,j<x.length∧cell A i j=(1,1)∧aw x j=(1,1)):∀ (c i fuel:Nat) (y:aX),i+c=A.length→c<fuel→y.length=i→(∀ a,a<i→∃ v:Int,aw y a=(v,1)∧1≤v∧v≤1000) →
  ∃ y' z,aT N fuel A x y (i:Int)=some (.inr (y',z))∧y'.length=A.length∧∀ a,a<A.length→∃ v:Int,aw y' a=(v,1)∧1≤v∧v≤1000:=by
 intro c
 induction c with
 | zero =>
  intro i fuel y hi hf hy hy2
  obtain ⟨fuel,rfl⟩:∃ k',fuel=k'+1:=⟨fuel-1,by omega⟩
  rw [aT,decide_eq_false (by omega),cond_false]
  exact ⟨y,_,rfl,by omega,fun a ha=>hy2 a (by omega)⟩
 | succ c ih =>
  intro i fuel y hi hf hy hy2
  obtain ⟨fuel,rfl⟩:∃ k',fuel=k'+1:=⟨fuel-1,by omega⟩
  have hil:i<A.length:=by omega
  have hrl:=hl i hil
  obtain ⟨v,e,v0,v1,h⟩:=z4 hN hrl (by omega) (fun j hj=>hb i hil j (by omega)) fun j hj=>hxb j (by omega)
  rw [aT,decide_eq_true (by omega),cond_true,ixM hil,bs,e,bs]
  dsimp only
  rw [cond_true,bB (by decide) (by rw [List.length_singleton];omega),bs,bF (by omega) (by omega),bs]
  refine ih (i+1) fuel (y++[(v,1)]) (by omega) (by omega) (by rw [List.length_append,List.length_singleton];omega) fun a ha=>?_
  by_cases ea:a=i
  ·subst ea
   refine ⟨v,by rw [← hy,kr],?_,v1⟩
   obtain ⟨j,h1,h2,h3⟩:=hc a hil
   exact h j (by omega) h2 h3
  ·rw [kY (by omega)]
   exact hy2 a (by omega)
end
def ic (a:aY) (v:Int):cK:=bif decide (v∈a.2) then (1,1) else (0,1)
def dx (atoms:List aY) (v:Int):aX:=atoms.map fun a=>ic a v
def aN (n:Nat) (atoms:List aY):bc:=(List.range' 0 n).map fun v:Nat=>dx atoms (v:Int)
def aA (n:Nat):aX:=List.replicate n (1,1)
theorem kx (n:Nat):aA n++[(1,1)]=aA (n+1):=by unfold aA;rw [List.replicate_succ']
theorem pZ (n:Nat) (atoms:List aY):aN n atoms++[dx atoms (n:Int)]=aN (n+1) atoms:=by
 unfold aN
 rw [List.range'_concat,List.map_append]
 simp
section
variable {N:Nat}
theorem yI (hN:1073741824≤N) {n v:Int} {atoms:List aY} {out:List Int} {b1 b4:bc} {b2 b3 b5 b6:aX} (ha:eQ atoms) (h4:atoms.length≤1000) :
  bZ N N n atoms out b1 b2 b3 b4 b5 b6 v [] 0=some (dx atoms v,(atoms.length:Int)) :=
 gQ (fun k (o:aX) i=>bZ N k n atoms out b1 b2 b3 b4 b5 b6 v o i) atoms.length (fun i=>dx (atoms.take i) v) (dx atoms v,(atoms.length:Int))
  (fun k i h=>by
   show bZ N (k+1) n atoms out b1 b2 b3 b4 b5 b6 v (dx (atoms.take i) v) (i:Int)=bZ N k n atoms out b1 b2 b3 b4 b5 b6 v (dx (atoms.take (i+1)) v) ((i+1:Nat):Int)
   have hl:(dx (atoms.take i) v).length≤1000:=by unfold dx;rw [List.length_map,List.length_take];omega
   have e:dx (atoms.take (i+1)) v=dx (atoms.take i) v++[ic atoms[i] v]:=by
    unfold dx
    rw [List.take_succ_eq_append_getElem h,List.map_append];rfl
   rw [bZ,dlt h,cond_true,aS h,bs,iR hN (qq ha h),bs,e]
   unfold ic
   cases decide (v∈atoms[i].2) with
   | true=>rw [cond_true,cond_true,bB (by decide) (by rw [List.length_singleton];omega),bs,ad1 (by omega),bs]
   | false=>rw [cond_false,cond_false,bB (by decide) (by rw [List.length_singleton];omega),bs,ad1 (by omega),bs])
  (fun k=>by
   show bZ N (k+1) n atoms out b1 b2 b3 b4 b5 b6 v (dx (atoms.take atoms.length) v) (atoms.length:Int)=_
   rw [bZ,dge (by omega),cond_false,List.take_length]) N 0 (by omega) (by omega)
theorem xB (hN:1073741824≤N) {n:Nat} (hn:n≤1000) {atoms:List aY} {out:List Int} {b1:bc} {b2 b3 b6:aX} (ha:eQ atoms) (h4:atoms.length≤1000) :
  cD N N (n:Int) atoms out b1 b2 b3 [] [] b6 0=some (aN n atoms,aA n,(n:Int)) :=
 gQ (fun k (o:bc × aX) i=>cD N k (n:Int) atoms out b1 b2 b3 o.1 o.2 b6 i) n (fun i=>(aN i atoms,aA i)) (aN n atoms,aA n,(n:Int))
  (fun k i h=>by
   show cD N (k+1) (n:Int) atoms out b1 b2 b3 (aN i atoms) (aA i) b6 (i:Int)=cD N k (n:Int) atoms out b1 b2 b3 (aN (i+1) atoms) (aA (i+1)) b6 ((i+1:Nat):Int)
   have h1:(aN i atoms).length=i:=by unfold aN;simp
   have h2:(aA i).length=i:=by unfold aA;simp
   rw [cD,dlt h,cond_true,yI hN ha h4,bs,lpB]
   dsimp only
   rw [bB (by decide) (by rw [List.length_singleton];omega),bs,bB (by decide) (by rw [List.length_singleton];omega),bs,ad1 (by omega),bs,pZ,kx])
  (fun k=>by
   show cD N (k+1) (n:Int) atoms out b1 b2 b3 (aN n atoms) (aA n) b6 (n:Int)=_
   rw [cD,dge (by omega),cond_false]) N 0 (by omega) (by omega)
theorem yb (hN:1073741824≤N) {n:Int} {atoms:List aY} {out:List Int} {b1 b4:bc} {b2 b3 b5:aX} (h4:atoms.length≤1000) :
  cH N N n atoms out b1 b2 b3 b4 b5 [] 0=some (aA atoms.length,(atoms.length:Int)) :=
 gQ (fun k (o:aX) i=>cH N k n atoms out b1 b2 b3 b4 b5 o i) atoms.length (fun i=>aA i) (aA atoms.length,(atoms.length:Int))
  (fun k i h=>by
   show cH N (k+1) n atoms out b1 b2 b3 b4 b5 (aA i) (i:Int)=cH N k n atoms out b1 b2 b3 b4 b5 (aA (i+1)) ((i+1:Nat):Int)
   have h2:(aA i).length=i:=by unfold aA;simp
   rw [cH,dlt h,cond_true,bB (by decide) (by rw [List.length_singleton];omega),bs,ad1 (by omega),bs,kx])
  (fun k=>by
   show cH N (k+1) n atoms out b1 b2 b3 b4 b5 (aA atoms.length) (atoms.length:Int)=_
   rw [cH,dge (by omega),cond_false]) N 0 (by omega) (by omega)
theorem oQ (hN:1073741824≤N) {n:Nat} {atoms:List aY} {out:List Int} (ha:eQ atoms) (ho:okI out) (hq:fS (n:Int) atoms out=true) :
  fv N (n:Int) atoms out=some ((aN n atoms,aA n,aA atoms.length),true):=by
 obtain ⟨_,n5,_,a4⟩:=kc hq
 unfold fv
 rw [jG hN ha ho,bs,hq,cond_true,xB hN (by omega) ha (by omega),bs,lpB]
 dsimp only
 rw [yb hN (by omega),bs,lpB]
theorem cg {n:Nat} {atoms:List aY}:(aN n atoms).length=n:=by unfold aN;simp
theorem qT {n v:Nat} {atoms:List aY} (hv:v<n):aZ (aN n atoms) v=dx atoms (v:Int):=by
 unfold aZ aN
 rw [List.getD_eq_getElem?_getD,List.getElem?_map,List.getElem?_range' hv]
 simp
theorem iZ {n v i:Nat} {atoms:List aY} (hv:v<n) (hi:i<atoms.length):cell (aN n atoms) v i=ic (gY atoms i) (v:Int):=by
 unfold cell
 rw [qT hv]
 unfold dx aw
 rw [pH hi]
 simp [hi]
theorem lZ {n i:Nat} (h:i<n):aw (aA n) i=(1,1):=by unfold aw aA;simp [h]
theorem jF (a:aY) (v:Int):jn (ic a v):=by
 unfold ic jn
 cases decide (v∈a.2)
 ·exact .inl rfl
 ·exact .inr rfl
theorem q9 (hN:1073741824≤N) {r:cK} (h:jn r):VR N r:=by
 rcases h with rfl | rfl
 ·exact gB hN (by decide) (by decide)
 ·exact gB hN (by decide) (by decide)
theorem jZ {n:Nat} {atoms:List aY}:Shp n atoms.length (aN n atoms) :=
 ⟨cg,fun i hi=>by rw [qT hi];unfold dx;rw [List.length_map]⟩
theorem oW (hN:1073741824≤N) {n:Nat} {atoms:List aY} (n1:1≤n) (n5:n≤5) (a1:1≤atoms.length) (a4:atoms.length≤4):bM N (aN n atoms) (aA n) (aA atoms.length)=some true:=by
 have l1:(aA n).length=n:=by unfold aA;simp
 have l2:(aA atoms.length).length=atoms.length:=by unfold aA;simp
 unfold bM
 have one:∀ k:Nat,k≤1000→vA N [aA k] k:=fun k _ i hi=>by
  obtain rfl:i=0:=by simpa using hi
  refine ⟨by show (aA k).length=k;unfold aA;simp,fun j hj=>?_⟩
  have:cell [aA k] 0 j=(1,1):=lZ hj
  rw [this];exact gB hN (by decide) (by decide)
 obtain ⟨b1,e1,h1⟩:=n6 hN (A:=aN n atoms) (by rw [cg];omega) (c:=atoms.length) (by omega) n
 obtain ⟨b2,e2,h2⟩:=n6 hN (A:=[aA atoms.length]) (by simp) (c:=atoms.length) (by omega) 1
 obtain ⟨b3,e3,h3⟩:=n6 hN (A:=[aA n]) (by simp) (c:=n) (by omega) 1
 have t1:b1=true:=h1.2 ⟨fun i hi=>by
  rw [cg] at hi
  exact ⟨jZ.2 i hi,fun j hj=>by rw [iZ hi hj];exact q9 hN (jF _ _)⟩,cg⟩
 have t2:b2=true:=h2.2 ⟨one _ (by omega),rfl⟩
 have t3:b3=true:=h3.2 ⟨one _ (by omega),rfl⟩
 have e2':dc N [aA atoms.length] 1 (atoms.length:Int)=some b2:=e2
 have e3':dc N [aA n] 1 (n:Int)=some b3:=e3
 rw [l1,l2,d5,bs,show inR (atoms.length:Int) 1 5=true from cx.2 (by omega),cond_true,d5,bs,show inR (n:Int) 1 5=true from cx.2 (by omega),cond_true,e1,bs,t1,cond_true,e2',bs,t2,cond_true,e3',bs,t3]
theorem ww (hN:1073741824≤N) {x:aX} (hl:x.length≤1000) {sg:Int} {A:bc} {B C:aX}:∀ (c k fuel:Nat),k+c=x.length→c<fuel →
  ∃ s,cq N fuel x sg A B C (k:Int)=some s∧((s=.inl false∧∃ j,k≤j∧j<x.length∧¬ (VR N (aw x j)∧0≤(aw x j).1))∨∃ z,s=.inr z∧∀ j,k≤j→j<x.length→VR N (aw x j)∧0≤(aw x j).1):=by
 intro c
 induction c with
 | zero =>
  intro k fuel hk hf
  obtain ⟨fuel,rfl⟩:∃ k',fuel=k'+1:=⟨fuel-1,by omega⟩
  rw [cq,decide_eq_false (by omega),cond_false]
  exact ⟨_,rfl,.inr ⟨_,rfl,fun j h1 h2=>by omega⟩⟩
 | succ c ih =>
  intro k fuel hk hf
  obtain ⟨fuel,rfl⟩:∃ k',fuel=k'+1:=⟨fuel-1,by omega⟩
  rw [cq,decide_eq_true (by omega),cond_true,gk (by omega),bs]
  rcases gR hN (aw x k) with hv | hv
  ·have hv':=hv
   unfold VR at hv'
   rw [hv',bs,cond_true,bs]
   by_cases h0:(aw x k).1<0
   ·rw [decide_eq_true h0,cond_true]
    exact ⟨_,rfl,.inl ⟨rfl,k,Nat.le_refl k,by omega,fun h=>by omega⟩⟩
   ·rw [decide_eq_false h0,cond_false,bF (by omega) (by omega),bs]
    obtain ⟨s,e,h⟩:=ih (k+1) fuel (by omega) (by omega)
    refine ⟨s,e,?_⟩
    rcases h with ⟨h1,j,h2,h3,h4⟩ | ⟨z,h1,h2⟩
    ·exact .inl ⟨h1,j,by omega,h3,h4⟩
    ·refine .inr ⟨z,h1,fun j g1 g2=>?_⟩
     by_cases e:j=k
     ·subst e;exact ⟨hv,by omega⟩
     ·exact h2 j (by omega) g2
  ·rw [hv,bs,cond_false]
   refine ⟨_,rfl,.inl ⟨rfl,k,Nat.le_refl k,by omega,fun h=>?_⟩⟩
   have:=h.1
   unfold VR at this
   rw [hv] at this;cases this
theorem sh (hN:1073741824≤N) {y B:aX} (hl:y.length≤1000) (hb:y.length≤B.length) {A:bc} {C:aX} {u:Bool}:∀ (c k fuel:Nat),k+c=y.length→c<fuel →
  ∃ s,bR N fuel 1 A B C y u (k:Int)=some s∧((s=.inl false∧∃ j,k≤j∧j<y.length∧(VR N (aw y j)→VR N (aw B j)→rv (aw y j)<rv (aw B j)))∨∃ z,s=.inr z∧∀ j,k≤j→j<y.length→VR N (aw y j)→VR N (aw B j)→¬ rv (aw y j)<rv (aw B j)):=by
 intro c
 induction c with
 | zero =>
  intro k fuel hk hf
  obtain ⟨fuel,rfl⟩:∃ k',fuel=k'+1:=⟨fuel-1,by omega⟩
  rw [bR,decide_eq_false (by omega),cond_false]
  exact ⟨_,rfl,.inr ⟨_,rfl,fun j h1 h2=>by omega⟩⟩
 | succ c ih =>
  intro k fuel hk hf
  obtain ⟨fuel,rfl⟩:∃ k',fuel=k'+1:=⟨fuel-1,by omega⟩
  obtain ⟨q,e1,q1,q2,h⟩:=zW hN (aw y k) (aw B k)
  rw [bR,decide_eq_true (by omega),cond_true,gk (by omega),bs,gk (by omega),bs,e1,bs,eL (by omega) (by omega),bs,Int.mul_one]
  by_cases h0:q<0
  ·rw [decide_eq_true h0,cond_true]
   exact ⟨_,rfl,.inl ⟨rfl,k,Nat.le_refl k,by omega,fun v1 v2=>(h v1 v2).1 h0⟩⟩
  ·rw [decide_eq_false h0,cond_false,bF (by omega) (by omega),bs]
   obtain ⟨s,e,h'⟩:=ih (k+1) fuel (by omega) (by omega)
   refine ⟨s,e,?_⟩
   rcases h' with ⟨h1,j,h2,h3,h4⟩ | ⟨z,h1,h2⟩
   ·exact .inl ⟨h1,j,by omega,h3,h4⟩
   ·refine .inr ⟨z,h1,fun j g1 g2=>?_⟩
    by_cases e:j=k
    ·subst e;exact fun v1 v2 hlt=>h0 ((h v1 v2).2 hlt)
    ·exact h2 j (by omega) g2
structure FeasR (N n:Nat) (atoms:List aY) (x:aX):Prop where
 len:x.length=atoms.length
 ok:∀ j,j<x.length→VR N (aw x j)∧0≤(aw x j).1
 ge:∀ v,v<n→1≤cW atoms.length (fun j=>cv (aN n atoms) v j*rv (aw x j))
theorem rz (hN:1073741824≤N) {n:Nat} {atoms:List aY} (n1:1≤n) (n5:n≤5) (a1:1≤atoms.length) (a4:atoms.length≤4) {x:aX} (hx:x.length=atoms.length) :
  ∃ b,dw N (aN n atoms) (aA n) (aA atoms.length) x 1=some b∧(b=true→FeasR N n atoms x) ∧
   ((∀ j,j<x.length→jn (aw x j))→(∀ v,v<n→∃ j,j<x.length∧cell (aN n atoms) v j=(1,1)∧aw x j=(1,1))→b=true):=by
 have l1:(aA n).length=n:=by unfold aA;simp
 have l2:(aA atoms.length).length=atoms.length:=by unfold aA;simp
 unfold dw
 rw [oW hN n1 n5 a1 a4,bs,cond_true,l2,show ((x.length:Int) != (atoms.length:Int))=false by rw [bne_eq_false_iff_eq];omega,cond_false]
 obtain ⟨s1,e1,h1⟩:=ww hN (x:=x) (by omega) (sg:=1) (A:=aN n atoms) (B:=aA n) (C:=aA atoms.length) x.length 0 N (by omega) (by omega)
 have e1':cq N N x 1 (aN n atoms) (aA n) (aA atoms.length) 0=some s1:=e1
 rw [e1',bs]
 rcases h1 with ⟨rfl,j,_,h2,h3⟩ | ⟨z,rfl,h1⟩
 ·rw [iL]
  refine ⟨_,rfl,fun h=>(by cases h),fun hb _=>absurd ⟨q9 hN (hb j h2),?_⟩ h3⟩
  rcases hb j h2 with e | e <;> rw [e] <;> decide
 ·rw [gm]
  have hsh:=jZ (n:=n) (atoms:=atoms)
  have hrl:∀ i,i<(aN n atoms).length→(aZ (aN n atoms) i).length=x.length:=fun i hi=>by rw [hsh.2 i (by rw [← cg (n:=n) (atoms:=atoms)];exact hi),hx]
  obtain ⟨s2,e2,h2⟩:=ze hN (A:=aN n atoms) (x:=x) (by rw [cg];omega) (by omega) hrl (aN n atoms).length 0 N [] (by omega) (by rw [cg];omega) rfl
  have e2':aT N N (aN n atoms) x [] 0=some s2:=e2
  unfold bD
  rw [e2',bs]
  rcases h2 with rfl | ⟨y,z',rfl,hy,_,hv⟩
  ·rw [iL,bs]
   obtain ⟨s3,e3,_⟩:=sh hN (y:=[]) (B:=aA n) (by decide) (Nat.zero_le _) (A:=aN n atoms) (C:=aA atoms.length) (u:=false) 0 0 N rfl (by omega)
   have e3':bR N N 1 (aN n atoms) (aA n) (aA atoms.length) [] false 0=some s3:=e3
   dsimp only
   rw [e3',bs]
   have bad:¬ ((∀ j,j<x.length→jn (aw x j))∧∀ v,v<n→∃ j,j<x.length∧cell (aN n atoms) v j=(1,1)∧aw x j=(1,1)):=by
    rintro ⟨hb,hc⟩
    obtain ⟨y',z2,e4,_⟩:=ux hN (A:=aN n atoms) (x:=x) (by rw [cg];omega) (by omega) hrl (fun i hi j hj=>by
     rw [cg] at hi
     rw [iZ hi (by omega)];exact jF _ _) hb (fun i hi=>hc i (by rw [cg] at hi;exact hi)) (aN n atoms).length 0 N [] (by omega) (by rw [cg];omega) rfl (fun a ha=>by omega)
    have:=e4.symm.trans e2
    cases this
   cases s3 with
   | inl q =>
    rw [iL]
    refine ⟨q,rfl,?_,fun hb hc=>absurd ⟨hb,hc⟩ bad⟩
    rename_i h6
    rcases h6 with ⟨h7,j,_,h8,_⟩ | ⟨z3,h7,_⟩
    ·exact absurd h8 (Nat.not_lt_zero _)
    ·cases h7
   | inr q =>
    rw [gm]
    exact ⟨false,rfl,fun h=>(by cases h),fun hb hc=>absurd ⟨hb,hc⟩ bad⟩
  ·rw [gm,bs]
   rw [cg] at hy hv
   obtain ⟨s3,e3,h3⟩:=sh hN (y:=y) (B:=aA n) (by omega) (by omega) (A:=aN n atoms) (C:=aA atoms.length) (u:=true) y.length 0 N (by omega) (by omega)
   have e3':bR N N 1 (aN n atoms) (aA n) (aA atoms.length) y true 0=some s3:=e3
   dsimp only
   rw [e3',bs]
   have vB:∀ j,j<n→VR N (aw (aA n) j)∧rv (aw (aA n) j)=1:=fun j hj=>by
    rw [lZ hj]
    exact ⟨gB hN (by decide) (by decide),jI 1⟩
   rcases h3 with ⟨rfl,j,_,g1,g2⟩ | ⟨z3,rfl,g⟩
   ·rw [iL]
    refine ⟨false,rfl,fun h=>(by cases h),fun hb hc=>?_⟩
    exfalso
    obtain ⟨y',z2,e4,_,h5⟩:=ux hN (A:=aN n atoms) (x:=x) (by rw [cg];omega) (by omega) hrl (fun i hi j hj=>by
     rw [cg] at hi
     rw [iZ hi (by omega)];exact jF _ _) hb (fun i hi=>hc i (by rw [cg] at hi;exact hi)) (aN n atoms).length 0 N [] (by omega) (by rw [cg];omega) rfl (fun a ha=>by omega)
    have h6:=e4.symm.trans e2
    have h7:y'=y:=by
     have:=Option.some.inj h6
     injection this with this
     exact congrArg Prod.fst this
    subst h7
    obtain ⟨w,hw,w1,_⟩:=h5 j (by rw [cg];omega)
    have g3:=g2 (hv j (by omega) (by omega)).1 (vB j (by omega)).1
    rw [(vB j (by omega)).2,hw,jI] at g3
    have:((1:Int):Rat)≤(w:Rat):=Rat.intCast_le_intCast.2 w1
    have e1:((1:Int):Rat)=1:=rfl
    grind
   ·rw [gm]
    refine ⟨true,rfl,fun _=>⟨hx,fun j hj=>h1 j (by omega) hj,fun v hv'=>?_⟩,fun _ _=>rfl⟩
    obtain ⟨k1,k2⟩:=hv v (by omega) hv'
    have g3:=g v (by omega) (by omega) k1 (vB v hv').1
    rw [(vB v hv').2,k2,hx] at g3
    exact Rat.not_lt.1 g3
end
def cM:Nat→Nat→Nat→List (List Int)
 | 0,_,_=>[[]]
 | n+1,f,t=>(List.range' f (t-n-f)).flatMap fun i:Nat=>(cM n (i+1) t).map fun l=>(i:Int) :: l
theorem kX:∀ (n f t:Nat),(cM n f t).length≤t ^ n
 | 0,f,t=>by rw [Nat.pow_zero];exact Nat.le_refl 1
 | n+1,f,t=>by
  unfold cM
  have h:=nB (g:=fun i:Nat=>(cM n (i+1) t).map fun l=>(i:Int) :: l) (k:=t ^ n) (fun i=>by rw [List.length_map];exact kX n (i+1) t) (List.range' f (t-n-f))
  rw [List.length_range'] at h
  refine Nat.le_trans h ?_
  rw [Nat.pow_succ,Nat.mul_comm]
  exact Nat.mul_le_mul_left _ (by omega)
theorem jz:∀ {n f t:Nat} {l:List Int},l∈cM n f t→l.length=n∧∀ v∈l,(f:Int)≤v∧v<t
 | 0,f,t,l,h=>by
  rw [List.mem_singleton.1 h];exact ⟨rfl,by simp⟩
 | n+1,f,t,l,h=>by
  unfold cM at h
  obtain ⟨i,hi,h⟩:=List.mem_flatMap.1 h
  obtain ⟨s,hs,rfl⟩:=List.mem_map.1 h
  obtain ⟨h1,h2⟩:=jz hs
  rw [List.mem_range'_1] at hi
  refine ⟨by rw [List.length_cons,h1],fun v hv=>?_⟩
  rcases List.mem_cons.1 hv with rfl | hv
  ·omega
  ·have:=h2 v hv;omega
theorem pE:∀ {n f t:Nat} {l:List Nat},l.length=n→l.Pairwise (·<·)→(∀ v∈l,f≤v∧v<t)→l.map (fun v:Nat=>(v:Int))∈cM n f t
 | 0,f,t,l,h,_,_=>by
  rw [List.length_eq_zero_iff.1 h];exact List.mem_singleton.2 rfl
 | n+1,f,t,[],h,_,_=>by simp at h
 | n+1,f,t,i :: l,h,hp,hb=>by
  obtain ⟨p1,p2⟩:=List.pairwise_cons.1 hp
  have hl:l.length=n:=by simpa using h
  have hi:=hb i List.mem_cons_self
  have room:∀ (k a:Nat) (s:List Nat),s.length=k→s.Pairwise (·<·)→(∀ v∈s,a<v∧v<t)→a<t→a+k<t:=by
   intro k
   induction k with
   | zero=>intro a s _ _ _ h;omega
   | succ k ih =>
    intro a s hs hp2 hb2 hat
    cases s with
    | nil=>simp at hs
    | cons b s =>
     obtain ⟨q1,q2⟩:=List.pairwise_cons.1 hp2
     have hb3:=hb2 b List.mem_cons_self
     have:=ih b s (by simpa using hs) q2 (fun v hv=>⟨q1 v hv,(hb2 v (List.mem_cons_of_mem _ hv)).2⟩) hb3.2
     omega
  have hr:=room n i l hl p2 (fun v hv=>⟨p1 v hv,(hb v (List.mem_cons_of_mem _ hv)).2⟩) hi.2
  unfold cM
  refine List.mem_flatMap.2 ⟨i,List.mem_range'_1.2 ⟨hi.1,by omega⟩,?_⟩
  rw [List.map_cons]
  exact List.mem_map.2 ⟨_,pE hl p2 (fun v hv=>⟨p1 v hv,(hb v (List.mem_cons_of_mem _ hv)).2⟩),rfl⟩
theorem xm {rec:Int→Int→Int→Option (List (List Int))} {N:Nat} {t n i:Int} {acc rest:List (List Int)} (hN:rest.length<N) (hr:rest.length≤100000) (ha:acc.length≤1000000) (hl:∀ l∈rest,l.length≤1000) :
  dJ rec N N t n acc i rest 0=some (acc++rest.map (fun l=>i :: l),(rest.length:Int)):=by
 have h:=gQ (fun k (o:List (List Int)) j=>dJ rec N k t n o i rest j) rest.length (fun j=>acc++(rest.take j).map fun l=>i :: l) (acc++rest.map (fun l=>i :: l),(rest.length:Int))
  (fun k j h=>by
   have hm:=hl _ (List.getElem_mem h)
   show dJ rec N (k+1) t n (acc++(rest.take j).map fun l=>i :: l) i rest (j:Int)=dJ rec N k t n (acc++(rest.take (j+1)).map fun l=>i :: l) i rest ((j+1:Nat):Int)
   rw [dJ,dlt h,cond_true,aS h,bs,bB (by decide) (by rw [List.length_singleton];omega),bs,bB (by decide) (by rw [List.length_append,List.length_map,List.length_take,List.length_singleton];omega),bs,ad1 (by omega),bs,List.take_succ_eq_append_getElem h,List.map_append,List.append_assoc]
   rfl)
  (fun k=>by
   show dJ rec N (k+1) t n (acc++(rest.take rest.length).map fun l=>i :: l) i rest (rest.length:Int)=_
   rw [dJ,dge (by omega),cond_false,List.take_length]) N 0 (by omega) (by omega)
 rw [List.take_zero,List.map_nil,List.append_nil] at h
 exact h
theorem sA {t n:Nat} (ht:t≤9) (hn:n≤4):t ^ n≤6561 :=
 Nat.le_trans (Nat.pow_le_pow_left ht n) (Nat.le_trans (Nat.pow_le_pow_right (by decide) hn) (by decide))
theorem l9:∀ (n M f t:Nat),n≤4→t≤9→f≤10→10000+n<M→dv M (f:Int) (t:Int) (n:Int)=some (cM n f t)
 | 0,M,f,t,_,_,_,hM=>by
  obtain ⟨M,rfl⟩:∃ k,M=k+1:=⟨M-1,by omega⟩
  rw [dv,show (((0:Nat):Int) == 0)=true from rfl,cond_true];rfl
 | n+1,M,f,t,hn,ht,hf,hM=>by
  obtain ⟨M,rfl⟩:∃ k,M=k+1:=⟨M-1,by omega⟩
  rw [dv,show (((n+1:Nat):Int) == 0)=false by rw [beq_eq_false_iff_ne];omega,cond_false]
  have key:∀ (d i fuel:Nat) (acc:List (List Int)),t-n-i=d→d<fuel→i≤10→acc.length+d*6561≤1000000 →
    ∃ z,gg (dv M) M fuel (t:Int) ((n+1:Nat):Int) acc (i:Int)=some (acc++(List.range' i d).flatMap (fun i:Nat=>(cM n (i+1) t).map fun l=>(i:Int) :: l),z):=by
   intro d
   induction d with
   | zero =>
    intro i fuel acc hd hfu hi ha
    obtain ⟨fuel,rfl⟩:∃ k,fuel=k+1:=⟨fuel-1,by omega⟩
    rw [gg,bF (by omega) (by omega),bs,decide_eq_false (by omega),cond_false]
    refine ⟨(i:Int),?_⟩
    rw [List.range'_zero,List.flatMap_nil,List.append_nil]
   | succ d ih =>
    intro i fuel acc hd hfu hi ha
    obtain ⟨fuel,rfl⟩:∃ k,fuel=k+1:=⟨fuel-1,by omega⟩
    have hlen:=Nat.le_trans (kX n (i+1) t) (sA (n:=n) ht (by omega))
    have e1:dv M ((i:Int)+1) (t:Int) ((n+1:Nat)-1:Int)=some (cM n (i+1) t):=by
     have h:=l9 n M (i+1) t (by omega) ht (by omega) (by omega)
     rw [show ((i:Int)+1)=((i+1:Nat):Int) by omega,show (((n+1:Nat):Int)-1)=(n:Int) by omega]
     exact h
    rw [gg,bF (by omega) (by omega),bs,decide_eq_true (by omega),cond_true,bF (by omega) (by omega),bs,fu (by omega) (by omega),bs,e1,bs,xm (by omega) (by omega) (by omega) (fun l hl=>by have:=(jz hl).1;omega),bs,lpB]
    dsimp only
    rw [bs]
    obtain ⟨z,h⟩:=ih (i+1) fuel (acc++(cM n (i+1) t).map fun l=>(i:Int) :: l) (by omega) (by omega) (by omega) (by rw [List.length_append,List.length_map];omega)
    refine ⟨z,?_⟩
    rw [List.range'_succ,List.flatMap_cons,← List.append_assoc]
    exact h
  obtain ⟨z,h⟩:=key (t-n-f) f M [] rfl (by omega) hf (by rw [List.length_nil];omega)
  rw [h,bs,lpB,List.nil_append]
  rfl
def du (n i:Nat):aX:=(List.replicate n (0,1)).set i (1,1)
def fD (A:bc) (m n:Nat) (j:Nat):aX:=if j<m then aZ A j else du n (j-m)
def gJ (m:Nat) (j:Nat):cK:=if j<m then (1,1) else (0,1)
def g7 (l:List Int):List Nat:=l.map Int.toNat
def dE (A:bc) (m n:Nat) (l:List Int):bc:=(g7 l).map (fD A m n)
def dp (m:Nat) (l:List Int):aX:=(g7 l).map (gJ m)
section
variable {N:Nat}
theorem yZ (hN:1073741824≤N) {n:Nat} (hn:n≤1000) {sg m i k j:Int} {A a out:bc} {B C b:aX} {l:List (List Int)} :
  bQ N N sg A B C out (n:Int) m l i a b k j [] 0=some (List.replicate n (0,1),(n:Int)) :=
 gQ (fun q (o:aX) v=>bQ N q sg A B C out (n:Int) m l i a b k j o v) n (fun v=>List.replicate v (0,1)) (List.replicate n (0,1),(n:Int))
  (fun q v h=>by
   show bQ N (q+1) sg A B C out (n:Int) m l i a b k j (List.replicate v (0,1)) (v:Int)=bQ N q sg A B C out (n:Int) m l i a b k j (List.replicate (v+1) (0,1)) ((v+1:Nat):Int)
   rw [bQ,dlt h,cond_true,bB (by decide) (by rw [List.length_replicate,List.length_singleton];omega),bs,ad1 (by omega),bs,List.replicate_succ'])
  (fun q=>by
   show bQ N (q+1) sg A B C out (n:Int) m l i a b k j (List.replicate n (0,1)) (n:Int)=_
   rw [bQ,dge (by omega),cond_false]) N 0 (by omega) (by omega)
theorem uu (hN:1073741824≤N) {n m:Nat} (hn:n≤4) (hm:m≤5) {sg:Int} {A out:bc} {C:aX} (hA:A.length=m) {L:List (List Int)} {i:Nat} (hi:i<L.length) (hl:L[i].length=n) (hb:∀ v∈L[i],0≤v∧v<(m+n:Nat)) :
  bP N N sg A (aA m) C out (n:Int) (m:Int) L (i:Int) [] [] 0=some (dE A m n L[i],dp m L[i],(n:Int)):=by
 have h:=gQ (fun q (o:bc × aX) k=>bP N q sg A (aA m) C out (n:Int) (m:Int) L (i:Int) o.1 o.2 k) n (fun k=>(dE A m n (L[i].take k),dp m (L[i].take k))) (dE A m n L[i],dp m L[i],(n:Int))
  (fun q k h=>by
   show bP N (q+1) sg A (aA m) C out (n:Int) (m:Int) L (i:Int) (dE A m n (L[i].take k)) (dp m (L[i].take k)) (k:Int)=bP N q sg A (aA m) C out (n:Int) (m:Int) L (i:Int) (dE A m n (L[i].take (k+1))) (dp m (L[i].take (k+1))) ((k+1:Nat):Int)
   have hk:k<L[i].length:=by omega
   have hv:=hb _ (List.getElem_mem hk)
   have l1:(dE A m n (L[i].take k)).length≤1000:=by unfold dE g7;rw [List.length_map,List.length_map,List.length_take];omega
   have l2:(dp m (L[i].take k)).length≤1000:=by unfold dp g7;rw [List.length_map,List.length_map,List.length_take];omega
   have eA:dE A m n (L[i].take (k+1))=dE A m n (L[i].take k)++[fD A m n L[i][k].toNat]:=by
    unfold dE g7
    rw [List.take_succ_eq_append_getElem hk,List.map_append,List.map_append];rfl
   have eB:dp m (L[i].take (k+1))=dp m (L[i].take k)++[gJ m L[i][k].toNat]:=by
    unfold dp g7
    rw [List.take_succ_eq_append_getElem hk,List.map_append,List.map_append];rfl
   rw [bP,dlt h,cond_true,aS hi,bs,aS hk,bs,eA,eB]
   unfold fD gJ
   obtain ⟨j,hj⟩:∃ j:Nat,L[i][k]=(j:Int):=⟨L[i][k].toNat,by omega⟩
   rw [hj] at hv ⊢
   rw [Int.toNat_natCast]
   by_cases hjm:j<m
   ·have ones:(aA m).length=m:=by unfold aA;simp
    rw [decide_eq_true (by omega),cond_true,if_pos hjm,if_pos hjm,ixM (by omega),bs,bB (by decide) (by rw [List.length_singleton];omega),bs,gk (by omega),bs,lZ hjm,bB (by decide) (by rw [List.length_singleton];omega),bs,ad1 (by omega),bs]
   ·have hlr:j-m<(List.replicate n ((0:Int),(1:Int))).length:=by rw [List.length_replicate];omega
    rw [decide_eq_false (by omega),cond_false,if_neg hjm,if_neg hjm,yZ hN (by omega),bs,lpB]
    dsimp only
    rw [fu (by omega) (by omega),bs,show ((j:Int)-(m:Int))=((j-m:Nat):Int) by omega,aS hlr,bs,kE hlr,bs,bB (by decide) (by rw [List.length_singleton];omega),bs,bB (by decide) (by rw [List.length_singleton];omega),bs,ad1 (by omega),bs]
    rfl)
  (fun q=>by
   show bP N (q+1) sg A (aA m) C out (n:Int) (m:Int) L (i:Int) (dE A m n (L[i].take n)) (dp m (L[i].take n)) (n:Int)=_
   rw [bP,dge (by omega),cond_false,← hl,List.take_length]) N 0 (by omega) (by omega)
 exact h
theorem uW (hN:1073741824≤N) {a b:aX} (ha:a.length≤1000):∃ q,cP N a b=some q:=by
 unfold cP
 by_cases hl:a.length=b.length
 ·rw [show ((a.length:Int) != (b.length:Int))=false by rw [bne_eq_false_iff_eq];omega,cond_false]
  have key:∀ (c k fuel:Nat),k+c=a.length→c<fuel→∃ s,bv N fuel a b (k:Int)=some s:=by
   intro c
   induction c with
   | zero =>
    intro k fuel hk hf
    obtain ⟨fuel,rfl⟩:∃ k',fuel=k'+1:=⟨fuel-1,by omega⟩
    rw [bv,decide_eq_false (by omega),cond_false]
    exact ⟨_,rfl⟩
   | succ c ih =>
    intro k fuel hk hf
    obtain ⟨fuel,rfl⟩:∃ k',fuel=k'+1:=⟨fuel-1,by omega⟩
    rw [bv,decide_eq_true (by omega),cond_true,gk (by omega),bs,gk (by omega),bs]
    cases (aw a k).1 == (aw b k).1&&(aw a k).2 == (aw b k).2 with
    | true =>
     rw [cond_true,bF (by omega) (by omega),bs]
     exact ih (k+1) fuel (by omega) (by omega)
    | false=>rw [cond_false];exact ⟨_,rfl⟩
  obtain ⟨s,e⟩:=key a.length 0 N (by omega) (by omega)
  have e':bv N N a b 0=some s:=e
  rw [e',bs]
  cases s with
  | inl q=>rw [iL];exact ⟨_,rfl⟩
  | inr q=>rw [gm];exact ⟨_,rfl⟩
 ·rw [show ((a.length:Int) != (b.length:Int))=true by rw [bne_iff_ne];omega,cond_true]
  exact ⟨_,rfl⟩
theorem xP (hN:1073741824≤N) {sg n m i:Int} {A:bc} {B C x:aX} {L:List (List Int)} {out:bc} (ho:out.length≤100000) (hl:∀ j,j<out.length→(aZ out j).length≤1000):∀ (c k fuel:Nat) (b:Bool),k+c=out.length→c<fuel →
  ∃ b' z,bO N fuel sg A B C out n m L i x b (k:Int)=some (b',z)∧(out.length=0→b'=b):=by
 intro c
 induction c with
 | zero =>
  intro k fuel b hk hf
  obtain ⟨fuel,rfl⟩:∃ k',fuel=k'+1:=⟨fuel-1,by omega⟩
  rw [bO,decide_eq_false (by omega),cond_false]
  exact ⟨b,_,rfl,fun _=>rfl⟩
 | succ c ih =>
  intro k fuel b hk hf
  obtain ⟨fuel,rfl⟩:∃ k',fuel=k'+1:=⟨fuel-1,by omega⟩
  rw [bO,decide_eq_true (by omega),cond_true]
  cases b with
  | true =>
   rw [cond_true,bF (by omega) (by omega),bs]
   obtain ⟨b',z,e,_⟩:=ih (k+1) fuel true (by omega) (by omega)
   exact ⟨b',z,e,fun h=>by omega⟩
  | false =>
   obtain ⟨q,eq⟩:=uW hN (a:=aZ out k) (b:=x) (hl k (by omega))
   rw [cond_false,ixM (by omega),bs,eq,bs,bF (by omega) (by omega),bs]
   obtain ⟨b',z,e,_⟩:=ih (k+1) fuel q (by omega) (by omega)
   exact ⟨b',z,e,fun h=>by omega⟩
def gV (N n:Nat) (atoms:List aY) (x:aX):Prop:=FeasR N n atoms x∧∃ l∈cM atoms.length 0 (n+atoms.length),bo N (dE (aN n atoms) n atoms.length l) (dp n l)=some (x,true)
theorem kf (n i:Nat):(du n i).length=n:=by unfold du;simp
theorem m9 {n:Nat} {atoms:List aY} {l:List Int} (hl:l.length=atoms.length):Shp atoms.length atoms.length (dE (aN n atoms) n atoms.length l):=by
 refine ⟨by unfold dE g7;rw [List.length_map,List.length_map,hl],fun i hi=>?_⟩
 have e:aZ (dE (aN n atoms) n atoms.length l) i=fD (aN n atoms) n atoms.length (l[i]'(by omega)).toNat:=by
  unfold aZ dE g7
  simp [hl,hi]
 rw [e]
 unfold fD
 split
 ·rename_i h;exact jZ.2 _ h
 ·exact kf _ _
theorem tp (hN:1073741824≤N) {n:Nat} {atoms:List aY} (n1:1≤n) (n5:n≤5) (a1:1≤atoms.length) (a4:atoms.length≤4) :
  ∃ P,bU N (aN n atoms) (aA n) (aA atoms.length)=some P∧P.length≤100000∧(∀ x∈P,gV N n atoms x)∧((∃ x,gV N n atoms x∧dw N (aN n atoms) (aA n) (aA atoms.length) x 1=some true)→P≠[]):=by
 have l1:(aA n).length=n:=by unfold aA;simp
 have l2:(aA atoms.length).length=atoms.length:=by unfold aA;simp
 have hPl:=Nat.le_trans (kX atoms.length 0 (n+atoms.length)) (sA (by omega) a4)
 have ep:=l9 atoms.length N 0 (n+atoms.length) a4 (by omega) (by omega) (by omega)
 have hmem:=fun l (hl:l∈cM atoms.length 0 (n+atoms.length))=>jz hl
 have key:∀ (c i fuel:Nat) (out:bc),i+c=(cM atoms.length 0 (n+atoms.length)).length→c<fuel→out.length≤i→(∀ x∈out,gV N n atoms x) →
   ∃ P z,bm N fuel 1 (aN n atoms) (aA n) (aA atoms.length) out (atoms.length:Int) (n:Int) (cM atoms.length 0 (n+atoms.length)) (i:Int)=some (P,z)∧P.length≤100000∧(∀ x∈P,gV N n atoms x)∧(out≠[]→P≠[]) ∧
    ∀ j (hj:j<(cM atoms.length 0 (n+atoms.length)).length),i≤j→(∃ x,bo N (dE (aN n atoms) n atoms.length (cM atoms.length 0 (n+atoms.length))[j]) (dp n (cM atoms.length 0 (n+atoms.length))[j])=some (x,true)∧dw N (aN n atoms) (aA n) (aA atoms.length) x 1=some true)→P≠[]:=by
  intro c
  induction c with
  | zero =>
   intro i fuel out hi hf hol hop
   obtain ⟨fuel,rfl⟩:∃ k',fuel=k'+1:=⟨fuel-1,by omega⟩
   rw [bm,decide_eq_false (by omega),cond_false]
   exact ⟨out,_,rfl,by omega,hop,id,fun j hj h=>by omega⟩
  | succ c ih =>
   intro i fuel out hi hf hol hop
   obtain ⟨fuel,rfl⟩:∃ k',fuel=k'+1:=⟨fuel-1,by omega⟩
   have hiL:i<(cM atoms.length 0 (n+atoms.length)).length:=by omega
   obtain ⟨m1,m2⟩:=hmem _ (List.getElem_mem hiL)
   have hsh:=m9 (n:=n) (atoms:=atoms) m1
   have hbl:(dp n (cM atoms.length 0 (n+atoms.length))[i]).length=atoms.length:=by unfold dp g7;rw [List.length_map,List.length_map,m1]
   obtain ⟨x,ok,es,hsol⟩:=kv hN (n:=atoms.length) (by omega) hsh hbl
   rw [bm,decide_eq_true (by omega),cond_true,uu hN a4 n5 cg hiL m1 (fun v hv=>by have:=m2 v hv;omega),bs,lpB]
   dsimp only
   rw [es,bs]
   dsimp only
   cases ok with
   | false =>
    rw [cond_false,bF (by omega) (by omega),bs]
    obtain ⟨P,z,e,g1,g2,g3,g4⟩:=ih (i+1) fuel out (by omega) (by omega) (by omega) hop
    refine ⟨P,z,e,g1,g2,g3,fun j hj hij hx=>?_⟩
    by_cases e:j=i
    ·subst e
     obtain ⟨x',e',_⟩:=hx
     rw [es] at e';cases e'
    ·exact g4 j hj (by omega) hx
   | true =>
    have hxl:=(hsol rfl).1
    obtain ⟨b,eb,hb,_⟩:=rz hN n1 n5 a1 a4 (x:=x) hxl
    rw [cond_true,eb,bs]
    cases b with
    | false =>
     rw [cond_false,bF (by omega) (by omega),bs]
     obtain ⟨P,z,e,g1,g2,g3,g4⟩:=ih (i+1) fuel out (by omega) (by omega) (by omega) hop
     refine ⟨P,z,e,g1,g2,g3,fun j hj hij hx=>?_⟩
     by_cases e:j=i
     ·subst e
      obtain ⟨x',e',e2⟩:=hx
      rw [es] at e'
      obtain rfl:x=x':=congrArg Prod.fst (Option.some.inj e')
      rw [eb] at e2;cases e2
     ·exact g4 j hj (by omega) hx
    | true =>
     have hpx:gV N n atoms x:=⟨hb rfl,_,List.getElem_mem hiL,es⟩
     obtain ⟨k,z,ek,hk⟩:=xP hN (sg:=1) (n:=(atoms.length:Int)) (m:=(n:Int)) (i:=(i:Int)) (A:=aN n atoms) (B:=aA n) (C:=aA atoms.length) (x:=x) (L:=cM atoms.length 0 (n+atoms.length)) (out:=out) (by omega) (fun j hj=>by
      have hm:aZ out j∈out:=by unfold aZ;simp [hj]
      have:=(hop _ hm).1.len
      omega) out.length 0 N false (by omega) (by omega)
     have ek':bO N N 1 (aN n atoms) (aA n) (aA atoms.length) out (atoms.length:Int) (n:Int) (cM atoms.length 0 (n+atoms.length)) (i:Int) x false 0=some (k,z):=ek
     rw [cond_true,ek',bs,lpB]
     dsimp only
     cases k with
     | true =>
      rw [cond_true,bF (by omega) (by omega),bs]
      obtain ⟨P,z,e,g1,g2,g3,g4⟩:=ih (i+1) fuel out (by omega) (by omega) (by omega) hop
      have hne:out≠[]:=fun h0=>by
       rw [h0] at hk
       exact absurd (hk rfl) (by decide)
      exact ⟨P,z,e,g1,g2,g3,fun _ _ _ _=>g3 hne⟩
     | false =>
      rw [cond_false,bB (by decide) (by rw [List.length_singleton];omega),bs,bF (by omega) (by omega),bs]
      obtain ⟨P,z,e,g1,g2,g3,g4⟩:=ih (i+1) fuel (out++[x]) (by omega) (by omega) (by rw [List.length_append,List.length_singleton];omega) (fun y hy=>by
       rcases List.mem_append.1 hy with h | h
       ·exact hop y h
       ·rw [List.mem_singleton.1 h];exact hpx)
      exact ⟨P,z,e,g1,g2,fun _=>g3 (by simp),fun _ _ _ _=>g3 (by simp)⟩
 obtain ⟨P,z,e,g1,g2,_,g4⟩:=key (cM atoms.length 0 (n+atoms.length)).length 0 N [] (by omega) (by omega) (Nat.zero_le _) (by simp)
 have e':bm N N 1 (aN n atoms) (aA n) (aA atoms.length) [] (atoms.length:Int) (n:Int) (cM atoms.length 0 (n+atoms.length)) 0=some (P,z):=e
 have ep':dv N 0 ((n:Int)+(atoms.length:Int)) (atoms.length:Int)=some (cM atoms.length 0 (n+atoms.length)):=by
  rw [show ((n:Int)+(atoms.length:Int))=((n+atoms.length:Nat):Int) by omega]
  exact ep
 refine ⟨P,?_,g1,g2,?_⟩
 ·unfold bU gw
  rw [oW hN n1 n5 a1 a4,bs,cond_true,l1,l2,bF (by omega) (by omega),bs,ep',bs,e',bs,lpB,bs]
 ·rintro ⟨x,⟨_,l,hl,hs⟩,hside⟩
  obtain ⟨j,hj,rfl⟩:=List.getElem_of_mem hl
  exact g4 j hj (Nat.zero_le _) ⟨x,hs,hside⟩
end
section
variable {N:Nat}
theorem vb (hN:1073741824≤N) {a b K:Int} (hK:K=1∨K=2∨K=3) (ha:a=1∨a=K) (hb:b=1∨b=K):∃ g,dT N a b=some g∧∃ q,qt a g=some q∧ml q b=some (if b=1 then a else K):=by
 obtain ⟨g,e,g1,g2,g3,g4⟩:=ni (N:=N) hN (x:=a) (y:=b) (by omega) (by omega) (by omega)
 have gp:=g3 (.inl (by omega))
 refine ⟨g,e,?_⟩
 have l1:=Int.le_of_dvd (by omega) g1
 have l2:=Int.le_of_dvd (by omega) g2
 by_cases h1:a=1
 ·obtain rfl:g=1:=by omega
  refine ⟨a,by rw [h1];rfl,?_⟩
  rw [eL (by rw [h1];omega) (by rw [h1];omega),h1,Int.one_mul]
  split
  ·rename_i h;rw [h]
  ·rcases hb with h | h
   ·contradiction
   ·rw [h]
 ·by_cases h2:b=1
  ·obtain rfl:g=1:=by omega
   refine ⟨a,?_,?_⟩
   ·rcases hK with h | h | h <;> rcases ha with h3 | h3 <;> first | (exact absurd h3 h1) | (rw [h3,h];rfl)
   ·rw [if_pos h2,h2,eL (by omega) (by omega),Int.mul_one]
  ·have ea:a=K:=by omega
   have eb:b=K:=by omega
   have l3:=Int.le_of_dvd gp (g4 K (by rw [ea];exact Int.dvd_refl K) (by rw [eb];exact Int.dvd_refl K))
   obtain rfl:g=K:=by omega
   refine ⟨1,?_,?_⟩
   ·rcases hK with h | h | h <;> rw [ea,h] <;> rfl
   ·rw [if_neg h2,eb,eL (by omega) (by omega),Int.one_mul]
structure DenOk (N:Nat) (K:Int) (x:aX):Prop where
 hK:K=1∨K=2∨K=3
 len:x.length≤4
 ok:∀ j,j<x.length→VR N (aw x j)∧0≤(aw x j).1
 den:∀ j,j<x.length→(aw x j).2=1∨(aw x j).2=K
theorem DenOk.w (hN:1073741824≤N) {K:Int} {x:aX} (h:DenOk N K x):∀ i,i<x.length→wOk N (x.getD i (0,0))=true:=fun i hi=>by
 obtain ⟨h1,h2⟩:=h.ok i hi
 unfold VR at h1
 rw [kC] at h1
 unfold wOk
 have e:x.getD i (0,0)=aw x i:=rfl
 rw [e,h1,decide_eq_true h2];rfl
theorem wK (hN:1073741824≤N) {K:Int} {x:aX} (h:DenOk N K x):∀ (c k fuel:Nat) (d:Int),k+c=x.length→c<fuel→(d=1∨d=K) →
  ∃ d' z,bL N fuel x d (k:Int)=some (.inr (d',z))∧(d'=1∨d'=K)∧(d=K→d'=K)∧∀ j,k≤j→j<x.length→(aw x j).2=1∨(aw x j).2=d':=by
 intro c
 induction c with
 | zero =>
  intro k fuel d hk hf hd
  obtain ⟨fuel,rfl⟩:∃ k',fuel=k'+1:=⟨fuel-1,by omega⟩
  rw [bL,decide_eq_false (by omega),cond_false]
  exact ⟨d,_,rfl,hd,id,fun j h1 h2=>by omega⟩
 | succ c ih =>
  intro k fuel d hk hf hd
  obtain ⟨fuel,rfl⟩:∃ k',fuel=k'+1:=⟨fuel-1,by omega⟩
  have hx4:=h.len
  have hKK:=h.hK
  obtain ⟨h1,h2⟩:=h.ok k (by omega)
  have h3:=h.den k (by omega)
  obtain ⟨g,eg,q,eq,em⟩:=vb hN hKK hd h3
  unfold VR at h1
  rw [bL,decide_eq_true (by omega),cond_true,gk (by omega),bs,h1,bs,cond_true,bs,decide_eq_false (by omega),cond_false,bs,eg,bs,eq,bs,bs,em,bs]
  have hd2:(if (aw x k).2=1 then d else K)=1∨(if (aw x k).2=1 then d else K)=K:=by
   split
   ·exact hd
   ·exact .inr rfl
  have hle:¬ (1000<(if (aw x k).2=1 then d else K)):=by rcases hd2 with h | h <;> rw [h] <;> omega
  rw [decide_eq_false hle,cond_false,bF (by omega) (by omega),bs]
  obtain ⟨d',z,e,g1,g2,g3⟩:=ih (k+1) fuel _ (by omega) (by omega) hd2
  refine ⟨d',z,e,g1,fun hdK=>g2 (by rw [hdK];split <;> rfl),fun j hj hjl=>?_⟩
  by_cases ej:j=k
  ·subst ej
   by_cases h5:(aw x j).2=1
   ·exact .inl h5
   ·refine .inr ?_
    rw [g2 (by rw [if_neg h5])]
    rcases h3 with h | h
    ·contradiction
    ·exact h
  ·exact g3 j (by omega) hjl
theorem v9 (hN:1073741824≤N) {K:Int} {x:aX} (h:DenOk N K x):∃ d:Int,(d=1∨d=K)∧bY N x=some (gj x d x.length,d)∧∀ j,j<x.length→∃ v:Int,(gj x d x.length).getD j 0=v∧0≤v∧(v:Rat)=(d:Rat)*rv (aw x j):=by
 obtain ⟨d,z,e,h1,_,h2⟩:=wK hN h x.length 0 N 1 (by omega) (by have:=h.len;omega) (.inl rfl)
 have hKK:=h.hK
 have hx4:=h.len
 have e':bL N N x 1 0=some (.inr (d,z)):=e
 refine ⟨d,h1,?_,fun j hj=>?_⟩
 ·unfold bY
  rw [e',bs,gm]
  dsimp only
  rw [pG hN (by omega) (h.w hN) (by omega) (by omega),bs,lpB]
 ·have hj2:=h2 j (by omega) hj
  obtain ⟨g1,g2⟩:=h.ok j hj
  have ev:(gj x d x.length).getD j 0=(aw x j).1*d.tdiv (aw x j).2:=by
   unfold gj aw
   simp [hj]
  refine ⟨_,ev,?_,?_⟩
  ·refine Int.mul_nonneg g2 (Int.tdiv_nonneg (by omega) (by omega))
  ·have hq:=ji hN g1
   have key:(d.tdiv (aw x j).2)*(aw x j).2=d:=by
    rcases hj2 with h | h
    ·rw [h,Int.tdiv_one,Int.mul_one]
    ·rw [h,Int.tdiv_self (by omega),Int.one_mul]
   have kR:((d.tdiv (aw x j).2:Int):Rat)*((aw x j).2:Rat)=(d:Rat):=by
    rw [← Rat.intCast_mul,key]
   rw [Rat.intCast_mul]
   unfold rv
   rw [← kR]
   grind
end
abbrev Q4:=(Int × Int × Int × Int) × Int
abbrev V4:=Int × Int × Int × Int
def lnI (e:V4) (y:V4):Int:=e.1*y.1+e.2.1*y.2.1+e.2.2.1*y.2.2.1+e.2.2.2*y.2.2.2
def lT:List Q4:=[((1,0,0,0),1),((0,1,0,0),1),((1,1,0,0),1),((0,0,1,0),1),((1,0,1,0),1),((0,1,1,0),1),((1,1,1,0),1),((0,0,0,1),1),((1,0,0,1),1),((0,1,0,1),1),((1,1,0,1),1),((0,0,1,1),1),((1,0,1,1),1),((0,1,1,1),1),((1,1,1,1),1),((1,0,0,0),0),((0,1,0,0),0),((0,0,1,0),0),((0,0,0,1),0)]
def xC:List V4:=[(0,0,0,(-1)),(0,0,(-1),0),(0,(-1),0,0),((-1),0,0,0),((-1),0,0,1),((-1),0,1,0),(0,(-1),0,1),(0,0,(-1),1),(0,(-1),1,0),((-1),1,0,0),((-1),(-1),0,1),((-1),0,(-1),1),((-1),(-1),1,0),(0,(-1),(-1),1),((-1),0,1,(-1)),((-1),1,(-1),0),(0,(-1),1,(-1)),((-1),1,0,(-1)),((-1),0,1,1),((-1),1,0,1),(0,(-1),1,1),((-1),1,1,0),((-1),(-1),1,1),(0,0,(-1),(-1)),(0,(-1),0,(-1)),(0,(-1),(-1),0),((-1),0,0,(-1)),((-1),0,(-1),0),((-1),(-1),0,0),((-1),1,(-1),1),((-1),1,1,(-1)),((-1),(-1),(-1),1),((-1),(-1),1,(-1)),((-1),1,(-1),(-1)),(0,(-1),(-1),(-1)),((-1),0,(-1),(-1)),((-1),(-1),0,(-1)),((-1),(-1),(-1),0),((-1),(-1),(-1),(-1)),((-1),1,1,1),((-1),1,1,(-2)),((-1),1,(-1),2),((-1),1,(-2),1),((-1),1,2,(-1)),((-1),(-1),1,2),((-1),(-2),1,1),((-1),2,1,(-1)),((-2),(-1),1,1),((-2),1,(-1),1),((-1),(-1),2,1),((-1),2,(-1),1),((-2),1,1,(-1)),((-2),1,1,1),((-1),2,(-1),(-1)),((-1),(-1),2,(-1)),((-1),(-1),(-1),2)]
def d2 (a b c d:Int):Int:=a*d-b*c
def d3 (a b c d e f g h i:Int):Int:=a*d2 e f h i-b*d2 d f g i+c*d2 d e g h
def d4 (a b c d:V4):Int:=a.1*d3 b.2.1 b.2.2.1 b.2.2.2 c.2.1 c.2.2.1 c.2.2.2 d.2.1 d.2.2.1 d.2.2.2-a.2.1*d3 b.1 b.2.2.1 b.2.2.2 c.1 c.2.2.1 c.2.2.2 d.1 d.2.2.1 d.2.2.2+a.2.2.1*d3 b.1 b.2.1 b.2.2.2 c.1 c.2.1 c.2.2.2 d.1 d.2.1 d.2.2.2-a.2.2.2*d3 b.1 b.2.1 b.2.2.1 c.1 c.2.1 c.2.2.1 d.1 d.2.1 d.2.2.1
def cr (f:Q4→V4) (a b c d:Q4):Int:=d4 (f a) (f b) (f c) (f d)
def oU (a b c d:Q4):V4:=(cr (fun e=>(e.2,e.1.2)) a b c d,cr (fun e=>(e.1.1,e.2,e.1.2.2)) a b c d,cr (fun e=>(e.1.1,e.1.2.1,e.2,e.1.2.2.2)) a b c d,cr (fun e=>(e.1.1,e.1.2.1,e.1.2.2.1,e.2)) a b c d)
def vr (y:V4):Bool:=decide (y.1.natAbs≤3)&&decide (y.2.1.natAbs≤3)&&decide (y.2.2.1.natAbs≤3)&&decide (y.2.2.2.natAbs≤3)
def uh:List Q4→Bool
 | [a,b,c,d]=>!(cr (fun e=>e.1) a b c d == 0)&&decide ((cr (fun e=>e.1) a b c d).natAbs≤3)&&vr (oU a b c d)&&[a,b,c,d].all fun e=>lnI e.1 (oU a b c d) == cr (fun e=>e.1) a b c d*e.2
 | _=>false
def uq (F:List Q4):Bool:=xC.any (fun k=>F.all fun e=>lnI e.1 k == 0)||uh F
def mQ {α:Type}:Nat→List α→List (List α)
 | _,[]=>[[]]
 | 0,_ :: _=>[[]]
 | k+1,a :: l=>(mQ k l).map (a :: ·)++mQ (k+1) l
theorem zf:(mQ 4 lT).all uq=true:=by decide +kernel
theorem mH {α:Type}:∀ {l s:List α} {k:Nat},s.Sublist l→s.length≤k→s∈mQ k l
 | [],s,k,h,_=>by
  rw [List.sublist_nil.1 h]
  cases k <;> exact List.mem_singleton.2 rfl
 | a :: l,s,0,_,hk=>by
  rw [List.length_eq_zero_iff.1 (Nat.le_zero.1 hk)]
  exact List.mem_singleton.2 rfl
 | a :: l,s,k+1,h,hk=>by
  unfold mQ
  cases h with
  | cons _ h=>exact List.mem_append_right _ (mH h hk)
  | cons_cons _ h=>exact List.mem_append_left _ (List.mem_map.2 ⟨_,mH h (by simpa using hk),rfl⟩)
abbrev R4:=Rat × Rat × Rat × Rat
def lnR (e:V4) (y:R4):Rat:=e.1*y.1+e.2.1*y.2.1+e.2.2.1*y.2.2.1+e.2.2.2*y.2.2.2
def lS (y:V4):R4:=(y.1,y.2.1,y.2.2.1,y.2.2.2)
theorem qN (e y:V4):lnR e (lS y)=((lnI e y:Int):Rat):=by
 unfold lnR lS lnI
 simp only [Rat.intCast_add,Rat.intCast_mul]
def sq (x y:R4):R4:=(x.1+y.1,x.2.1+y.2.1,x.2.2.1+y.2.2.1,x.2.2.2+y.2.2.2)
def nU (c:Rat) (y:R4):R4:=(c*y.1,c*y.2.1,c*y.2.2.1,c*y.2.2.2)
theorem xo (e:V4) (x y:R4):lnR e (sq x y)=lnR e x+lnR e y:=by
 unfold lnR sq
 grind
theorem wG (e:V4) (c:Rat) (y:R4):lnR e (nU c y)=c*lnR e y:=by
 unfold lnR nU
 grind
theorem w4:∀ k∈xC,k≠(0,0,0,0):=by decide
theorem ra {E:List Q4} (hE:∀ e∈E,e∈lT) (hl:E.length≤4) {x:R4} (hx:∀ e∈E,lnR e.1 x=(e.2:Rat)) (hu:∀ y:R4,(∀ e∈E,lnR e.1 y=(e.2:Rat))→y=x) :
  ∃ D:Int,D≠0∧D.natAbs≤3∧∃ y:V4,nU D x=lS y∧vr y=true:=by
 have hF:lT.filter (fun e=>decide (e∈E))∈mQ 4 lT:=by
  refine mH List.filter_sublist ?_
  refine Nat.le_trans (List.Nodup.length_le_of_subset ?_ ?_) hl
  ·exact List.Nodup.sublist List.filter_sublist (by decide)
  ·intro e he
   exact of_decide_eq_true (List.mem_filter.1 he).2
 have hFE:∀ e,e∈lT.filter (fun e=>decide (e∈E))↔e∈E:=by
  intro e
  rw [List.mem_filter,decide_eq_true_eq]
  exact ⟨fun h=>h.2,fun h=>⟨hE e h,h⟩⟩
 have hs:=List.all_eq_true.1 zf _ hF
 generalize lT.filter (fun e=>decide (e∈E))=F at hF hFE hs
 unfold uq at hs
 rw [Bool.or_eq_true] at hs
 rcases hs with hs | hs
 ·exfalso
  obtain ⟨k,hk,hs⟩:=List.any_eq_true.1 hs
  have h1:=hu (sq x (lS k)) (fun e he=>by
   have h2:=List.all_eq_true.1 hs e ((hFE e).2 he)
   rw [beq_iff_eq] at h2
   rw [xo,qN,h2,hx e he]
   exact Rat.add_zero _)
  have h3:∀ {a:Rat} {z:Int},a+(z:Rat)=a→z=0:=by
   intro a z h
   have h4:(z:Rat)=((0:Int):Rat):=by
    have e0:((0:Int):Rat)=0:=rfl
    rw [e0];grind
   exact Rat.intCast_inj.1 h4
  unfold sq lS at h1
  have e1:=congrArg Prod.fst h1
  have e2:=congrArg (fun p:R4=>p.2.1) h1
  have e3:=congrArg (fun p:R4=>p.2.2.1) h1
  have e4:=congrArg (fun p:R4=>p.2.2.2) h1
  refine w4 k hk ?_
  obtain ⟨k1,k2,k3,k4⟩:=k
  rw [show k1=0 from h3 e1,show k2=0 from h3 e2,show k3=0 from h3 e3,show k4=0 from h3 e4]
 ·match F,hs,hFE with
  | [a,b,c,d],hs,hFE =>
   unfold uh at hs
   rw [Bool.and_eq_true,Bool.and_eq_true,Bool.and_eq_true,decide_eq_true_eq] at hs
   obtain ⟨⟨⟨h1,h2⟩,ht⟩,h3⟩:=hs
   have hD:cr (fun e=>e.1) a b c d≠0:=by
    intro h
    rw [h] at h1
    exact absurd h1 (by decide)
   have h4:∀ e∈E,lnI e.1 (oU a b c d)=cr (fun e=>e.1) a b c d*e.2:=fun e he=>by
    have h5:=List.all_eq_true.1 h3 e ((hFE e).2 he)
    rw [beq_iff_eq] at h5
    exact h5
   generalize cr (fun e=>e.1) a b c d=D at hD h2 h4
   generalize oU a b c d=y at h4 ht
   refine ⟨D,hD,h2,y,?_,ht⟩
   have hDR:(D:Rat)≠0:=fun h=>hD (Rat.intCast_eq_zero_iff.1 h)
   have h6:=hu (nU (D:Rat)⁻¹ (lS y)) (fun e he=>by
    rw [wG,qN,h4 e he,Rat.intCast_mul,← Rat.mul_assoc,Rat.inv_mul_cancel _ hDR,Rat.one_mul])
   rw [← h6]
   unfold nU lS
   simp only [← Rat.mul_assoc,Rat.mul_inv_cancel _ hDR,Rat.one_mul]
def i9 (y:R4):Nat→Rat
 | 0=>y.1
 | 1=>y.2.1
 | 2=>y.2.2.1
 | 3=>y.2.2.2
 | _=>0
def mk4 (g:Nat→Rat):R4:=(g 0,g 1,g 2,g 3)
theorem tK (g:Nat→Rat) {j:Nat} (h:j<4):i9 (mk4 g) j=g j:=by
 match j,h with
 | 0,_=>rfl
 | 1,_=>rfl
 | 2,_=>rfl
 | 3,_=>rfl
theorem vy (y:R4):mk4 (i9 y)=y:=rfl
theorem uc {g h:Nat→Rat} (e:∀ j,j<4→g j=h j):mk4 g=mk4 h:=by
 unfold mk4
 rw [e 0 (by decide),e 1 (by decide),e 2 (by decide),e 3 (by decide)]
theorem za {g:Nat→Rat}:∀ {n:Nat},n≤4→(∀ j,n≤j→j<4→g j=0)→cW 4 g=cW n g:=by
 intro n hn h
 match n,hn,h with
 | 4,_,_=>rfl
 | 3,_,h =>
  have h3:=h 3 (by decide) (by decide)
  show cW 3 g+g 3=_
  rw [h3];grind
 | 2,_,h =>
  have h3:=h 3 (by decide) (by decide)
  have h2:=h 2 (by decide) (by decide)
  show cW 2 g+g 2+g 3=_
  rw [h3,h2];grind
 | 1,_,h =>
  have h3:=h 3 (by decide) (by decide)
  have h2:=h 2 (by decide) (by decide)
  have h1:=h 1 (by decide) (by decide)
  show cW 1 g+g 1+g 2+g 3=_
  rw [h3,h2,h1];grind
 | 0,_,h =>
  have h3:=h 3 (by decide) (by decide)
  have h2:=h 2 (by decide) (by decide)
  have h1:=h 1 (by decide) (by decide)
  have h0:=h 0 (by decide) (by decide)
  show cW 0 g+g 0+g 1+g 2+g 3=_
  rw [h3,h2,h1,h0];grind
theorem pU {g:Nat→Rat}:∀ {n:Nat},(∀ j,j<n→g j=0)→cW n g=0
 | 0,_=>rfl
 | n+1,h=>by
  have h1:=pU (n:=n) fun j hj=>h j (by omega)
  have h2:=h n (by omega)
  unfold cW
  rw [h1,h2];grind
def jJ (r:aX) (b:Int):Q4:=(((aw r 0).1,(aw r 1).1,(aw r 2).1,(aw r 3).1),b)
theorem tt {r:cK} (h:jn r):rv r=(r.1:Rat):=by
 rcases h with rfl | rfl
 ·exact jI 0
 ·exact jI 1
theorem rF {r:aX} {na:Nat} (hl:r.length=na) (h4:na≤4) (hb:∀ j,j<na→jn (aw r j)) (b:Int) (y:R4):lnR (jJ r b).1 y=cW na (fun j=>rv (aw r j)*i9 y j):=by
 have h0:∀ j,na≤j→(aw r j).1=0:=fun j hj=>by
  unfold aw
  rw [List.getD_eq_getElem?_getD,List.getElem?_eq_none (by omega)];rfl
 have e1:cW na (fun j=>rv (aw r j)*i9 y j)=cW na (fun j=>((aw r j).1:Rat)*i9 y j):=el fun j hj=>by rw [tt (hb j hj)]
 rw [e1,← za h4 fun j h1 h2=>by
  rw [h0 j h1]
  have:((0:Int):Rat)=0:=rfl
  rw [this];exact Rat.zero_mul _]
 show _=(0:Rat)+_*_+_*_+_*_+_*_
 unfold lnR jJ i9
 dsimp only
 grind
theorem pK {n j:Nat} (h:j<n):aw (List.replicate n (0,1)) j=(0,1):=by
 unfold aw;simp [h]
theorem qU (y:R4):∀ j,j<4→lnR (jJ (du 4 j) 0).1 y=i9 y j:=by
 intro j hj
 rw [rF (kf 4 j) (Nat.le_refl 4) (fun i hi=>?_) 0 y]
 ·rw [nQ hj fun i hi hij=>?_]
  ·have:aw (du 4 j) j=(1,1):=by unfold du;rw [j6 (by rw [List.length_replicate];exact hj),if_pos rfl]
   rw [this,jI]
   have e:((1:Int):Rat)=1:=rfl
   rw [e];grind
  ·have:aw (du 4 j) i=(0,1):=by
    unfold du
    rw [j6 (by rw [List.length_replicate];exact hj),if_neg hij]
    exact pK hi
   rw [this,jI]
   have e:((0:Int):Rat)=0:=rfl
   rw [e];exact Rat.zero_mul _
 ·unfold du
  rw [j6 (by rw [List.length_replicate];exact hj)]
  split
  ·exact .inr rfl
  ·exact .inl (pK hi)
theorem xj:∀ a∈([0,1]:List Int),∀ b∈([0,1]:List Int),∀ c∈([0,1]:List Int),∀ d∈([0,1]:List Int),(a=0∧b=0∧c=0∧d=0)∨((a,b,c,d),(1:Int))∈lT:=by decide
theorem sd:∀ na,na≤4→∀ i,i<na→jJ (du na i) 0∈lT:=by
 intro na hna
 match na,hna with
 | 0,_=>intro i hi;exact absurd hi (Nat.not_lt_zero i)
 | 1,_=>intro i hi;match i,hi with
  | 0,_=>decide
 | 2,_=>intro i hi;match i,hi with
  | 0,_=>decide
  | 1,_=>decide
 | 3,_=>intro i hi;match i,hi with
  | 0,_=>decide
  | 1,_=>decide
  | 2,_=>decide
 | 4,_=>intro i hi;match i,hi with
  | 0,_=>decide
  | 1,_=>decide
  | 2,_=>decide
  | 3,_=>decide
theorem s7 {n i j:Nat} (hi:i<n) (hj:j<n):jn (aw (du n i) j):=by
 unfold du
 rw [j6 (by simpa using hi)]
 split
 ·exact .inr rfl
 ·refine .inl ?_
  unfold aw;simp [hj]
section
variable {N:Nat}
theorem tf (hN:1073741824≤N) {n:Nat} {atoms:List aY} (n5:n≤5) (a1:1≤atoms.length) (a4:atoms.length≤4) {x:aX} (hp:gV N n atoms x) :
  ∃ K:Int,DenOk N K x∧∀ j,j<x.length→(K:Rat)*rv (aw x j)≤3:=by
 obtain ⟨F,l,hl,hs⟩:=hp
 obtain ⟨m1,m2⟩:=jz hl
 have hxl:=F.len
 have hsh:=m9 (n:=n) (atoms:=atoms) m1
 have hbl:(dp n l).length=atoms.length:=by unfold dp g7;rw [List.length_map,List.length_map,m1]
 obtain ⟨x',ok,es,hsol⟩:=kv hN (n:=atoms.length) (by omega) hsh hbl
 rw [hs] at es
 obtain ⟨rfl,rfl⟩:x=x'∧true=ok:=by
  have:=Option.some.inj es
  exact ⟨congrArg Prod.fst this,congrArg Prod.snd this⟩
 obtain ⟨_,hv,hiff⟩:=hsol rfl
 have hrow:∀ i (hi:i<atoms.length),aZ (dE (aN n atoms) n atoms.length l) i=fD (aN n atoms) n atoms.length (l[i]'(by omega)).toNat∧aw (dp n l) i=gJ n (l[i]'(by omega)).toNat:=fun i hi=>by
  constructor
  ·unfold aZ dE g7
   simp [m1,hi]
  ·unfold aw dp g7
   simp [m1,hi]
 -- the rows are bits
 have hrb:∀ k:Nat,k<n+atoms.length→(fD (aN n atoms) n atoms.length k).length=atoms.length∧∀ j,j<atoms.length→jn (aw (fD (aN n atoms) n atoms.length k) j):=fun k hk=>by
  unfold fD
  split
  ·rename_i h
   refine ⟨jZ.2 k h,fun j hj=>?_⟩
   have:aw (aZ (aN n atoms) k) j=cell (aN n atoms) k j:=rfl
   rw [this,iZ h hj]
   exact jF _ _
  ·exact ⟨kf _ _,fun j hj=>s7 (by omega) hj⟩
 have hlt:∀ i (hi:i<atoms.length),(l[i]'(by omega)).toNat<n+atoms.length:=fun i hi=>by
  have:=m2 _ (List.getElem_mem (show i<l.length by omega))
  omega
 let E:List Q4:=(List.range' 0 atoms.length).map (fun i=>jJ (fD (aN n atoms) n atoms.length (l.getD i 0).toNat) (gJ n (l.getD i 0).toNat).1)++(List.range' atoms.length (4-atoms.length)).map (fun j=>jJ (du 4 j) 0)
 have hgd:∀ i (hi:i<atoms.length),l.getD i 0=l[i]'(by omega):=fun i hi=>by simp [m1,hi]
 have memE:∀ e,e∈E→(∃ i,∃ hi:i<atoms.length,e=jJ (aZ (dE (aN n atoms) n atoms.length l) i) (aw (dp n l) i).1)∨∃ j,atoms.length≤j∧j<4∧e=jJ (du 4 j) 0:=fun e he=>by
  rcases List.mem_append.1 he with h | h
  ·obtain ⟨i,hi,rfl⟩:=List.mem_map.1 h
   have hi:i<atoms.length:=by simpa using hi
   refine .inl ⟨i,hi,?_⟩
   rw [(hrow i hi).1,(hrow i hi).2,hgd i hi]
  ·obtain ⟨j,hj,rfl⟩:=List.mem_map.1 h
   rw [List.mem_range'_1] at hj
   exact .inr ⟨j,hj.1,by omega,rfl⟩
 have inE1:∀ i,i<atoms.length→jJ (aZ (dE (aN n atoms) n atoms.length l) i) (aw (dp n l) i).1∈E:=fun i hi=>by
  refine List.mem_append_left _ (List.mem_map.2 ⟨i,by simpa using hi,?_⟩)
  rw [(hrow i hi).1,(hrow i hi).2,hgd i hi]
 have inE2:∀ j,atoms.length≤j→j<4→jJ (du 4 j) 0∈E:=fun j h1 h2 =>
  List.mem_append_right _ (List.mem_map.2 ⟨j,List.mem_range'_1.2 ⟨h1,by omega⟩,rfl⟩)
 have hrl:∀ i (hi:i<atoms.length) (b:Int) (y:R4),lnR (jJ (aZ (dE (aN n atoms) n atoms.length l) i) b).1 y=cW atoms.length (fun j=>cv (dE (aN n atoms) n atoms.length l) i j*i9 y j):=fun i hi b y=>by
  obtain ⟨k1,k2⟩:=hrb _ (hlt i hi)
  rw [(hrow i hi).1,rF k1 a4 k2]
  refine el fun j hj=>?_
  unfold cv cell
  rw [(hrow i hi).1]
 have hrhs:∀ i (hi:i<atoms.length),rv (aw (dp n l) i)=((aw (dp n l) i).1:Rat):=fun i hi=>by
  rw [(hrow i hi).2]
  refine tt ?_
  unfold gJ
  split
  ·exact .inr rfl
  ·exact .inl rfl
 have hE:∀ e∈E,e∈lT:=fun e he=>by
  rcases memE e he with ⟨i,hi,rfl⟩ | ⟨j,h1,h2,rfl⟩
  ·obtain ⟨k1,k2⟩:=hrb _ (hlt i hi)
   rw [(hrow i hi).1,(hrow i hi).2]
   by_cases hn:(l[i]'(by omega)).toNat<n
   ·have er:fD (aN n atoms) n atoms.length (l[i]'(by omega)).toNat=aZ (aN n atoms) (l[i]'(by omega)).toNat:=by unfold fD;rw [if_pos hn]
    have eb:gJ n (l[i]'(by omega)).toNat=(1,1):=by unfold gJ;rw [if_pos hn]
    rw [eb]
    have hz:=F.ge _ hn
    rw [er] at k1 k2 ⊢
    have hbit:∀ j,(aw (aZ (aN n atoms) (l[i]'(by omega)).toNat) j).1∈([0,1]:List Int):=fun j=>by
     by_cases hj:j<atoms.length
     ·rcases k2 j hj with h | h <;> rw [h] <;> decide
     ·have:(aw (aZ (aN n atoms) (l[i]'(by omega)).toNat) j).1=0:=by
       unfold aw
       rw [List.getD_eq_getElem?_getD,List.getElem?_eq_none (by omega)];rfl
      rw [this];decide
    rcases xj _ (hbit 0) _ (hbit 1) _ (hbit 2) _ (hbit 3) with ⟨z0,z1,z2,z3⟩ | h
    ·exfalso
     have hall:∀ j,j<atoms.length→cv (aN n atoms) (l[i]'(by omega)).toNat j=0:=fun j hj=>by
      have hzj:(aw (aZ (aN n atoms) (l[i]'(by omega)).toNat) j).1=0:=by
       match j,(show j<4 by omega) with
       | 0,_=>exact z0
       | 1,_=>exact z1
       | 2,_=>exact z2
       | 3,_=>exact z3
      exact rV hzj
     rw [pU fun j hj=>by rw [hall j hj];exact Rat.zero_mul _] at hz
     exact absurd hz (by decide)
    ·exact h
   ·have er:fD (aN n atoms) n atoms.length (l[i]'(by omega)).toNat=du atoms.length ((l[i]'(by omega)).toNat-n):=by unfold fD;rw [if_neg hn]
    have eb:gJ n (l[i]'(by omega)).toNat=(0,1):=by unfold gJ;rw [if_neg hn]
    rw [er,eb]
    exact sd _ a4 _ (by have:=hlt i hi;omega)
  ·exact sd 4 (Nat.le_refl 4) j h2
 have hEl:E.length≤4:=by
  show (List.map _ _++List.map _ _).length≤4
  rw [List.length_append,List.length_map,List.length_map,List.length_range',List.length_range']
  omega
 have hx4:∀ j,j<4→i9 (mk4 fun j=>if j<atoms.length then rv (aw x j) else 0) j=if j<atoms.length then rv (aw x j) else 0:=fun j hj=>tK _ hj
 have hself:=(hiff fun j=>rv (aw x j)).2 fun j _=>rfl
 obtain ⟨D,D0,D3,y,hy,ht⟩:=ra hE hEl (x:=mk4 fun j=>if j<atoms.length then rv (aw x j) else 0) (fun e he=>by
  rcases memE e he with ⟨i,hi,rfl⟩ | ⟨j,h1,h2,rfl⟩
  ·rw [hrl i hi]
   show _=(((aw (dp n l) i).1:Int):Rat)
   rw [← hrhs i hi,← hself i hi]
   refine el fun j hj=>?_
   rw [hx4 j (by omega),if_pos hj]
  ·rw [qU _ j h2,hx4 j h2,if_neg (by omega)]
   rfl) (fun z hz=>by
  have h1:=(hiff (i9 z)).1 fun i hi=>by
   have h2:=hz _ (inE1 i hi)
   rw [hrl i hi] at h2
   rw [hrhs i hi]
   exact h2
  rw [← vy z]
  refine uc fun j hj=>?_
  by_cases hja:j<atoms.length
  ·rw [if_pos hja];exact h1 j hja
  ·rw [if_neg hja]
   have h3:=hz _ (inE2 j (by omega) hj)
   rw [qU _ j hj] at h3
   exact h3)
 have hcomp:∀ j,j<x.length→∃ w:Int,w.natAbs≤3∧(D:Rat)*rv (aw x j)=(w:Rat):=fun j hj=>by
  have hja:j<atoms.length:=by omega
  have h1:=congrArg (fun z=>i9 z j) hy
  unfold vr at ht
  simp only [Bool.and_eq_true,decide_eq_true_eq] at ht
  have h2:i9 (nU (D:Rat) (mk4 fun j=>if j<atoms.length then rv (aw x j) else 0)) j=(D:Rat)*rv (aw x j):=by
   have h3:i9 (nU (D:Rat) (mk4 fun j=>if j<atoms.length then rv (aw x j) else 0)) j=(D:Rat)*(if j<atoms.length then rv (aw x j) else 0):=by
    match j,(show j<4 by omega) with
    | 0,_=>rfl
    | 1,_=>rfl
    | 2,_=>rfl
    | 3,_=>rfl
   rw [h3,if_pos hja]
  rw [h2] at h1
  match j,(show j<4 by omega),h1 with
  | 0,_,h1=>exact ⟨y.1,ht.1.1.1,h1⟩
  | 1,_,h1=>exact ⟨y.2.1,ht.1.1.2,h1⟩
  | 2,_,h1=>exact ⟨y.2.2.1,ht.1.2,h1⟩
  | 3,_,h1=>exact ⟨y.2.2.2,ht.2,h1⟩
 have hden:∀ j,j<x.length→(aw x j).2 ∣ D:=fun j hj=>by
  obtain ⟨w,_,hw⟩:=hcomp j hj
  obtain ⟨g1,_⟩:=F.ok j hj
  have hq:=ji hN g1
  have hg:=((fF hN).1 g1).2.2.2.2
  have h1:((D*(aw x j).1:Int):Rat)=((w*(aw x j).2:Int):Rat):=by
   rw [Rat.intCast_mul,Rat.intCast_mul,← hw]
   unfold rv
   grind
  have h2:=Rat.intCast_inj.1 h1
  have h3:(aw x j).2 ∣ D*(aw x j).1:=by rw [h2];exact Int.dvd_mul_left _ _
  have h4:=Int.natAbs_dvd_natAbs.2 h3
  rw [Int.natAbs_mul] at h4
  have h5:Nat.Coprime (aw x j).2.natAbs (aw x j).1.natAbs:=by
   unfold Nat.Coprime
   rw [Nat.gcd_comm]
   exact hg
  exact Int.natAbs_dvd_natAbs.1 (h5.dvd_of_dvd_mul_right h4)
 refine ⟨(D.natAbs:Int),⟨by omega,by omega,F.ok,fun j hj=>?_⟩,fun j hj=>?_⟩
 ·have h1:=hden j hj
  have h2:(aw x j).2 ∣ (D.natAbs:Int):=Int.dvd_natAbs.2 h1
  have h3:=((fF hN).1 (F.ok j hj).1).1
  have h4:=Int.le_of_dvd (by omega) h2
  generalize (aw x j).2=q at h2 h3 h4
  by_cases e1:q=1
  ·exact .inl e1
  ·by_cases e2:q=(D.natAbs:Int)
   ·exact .inr e2
   ·have e3:q=2:=by omega
    have e4:(D.natAbs:Int)=3:=by omega
    rw [e3,e4] at h2
    exact absurd h2 (by decide)
 ·obtain ⟨w,w3,hw⟩:=hcomp j hj
  have h0:0≤rv (aw x j):=by
   have h1:=(F.ok j hj).2
   have h3:=((fF hN).1 (F.ok j hj).1).1
   unfold rv
   rw [Rat.div_def]
   exact Rat.mul_nonneg (Rat.intCast_nonneg.2 h1) (Rat.le_of_lt (Rat.inv_pos.2 (Rat.intCast_pos.2 (by omega))))
  have e3:((3:Int):Rat)=3:=rfl
  rcases Int.natAbs_eq D with e | e
  ·rw [← e,hw,← e3]
   exact Rat.intCast_le_intCast.2 (by omega)
  ·have h5:((D.natAbs:Int):Rat)*rv (aw x j)=((-w:Int):Rat):=by
    have h6:(D.natAbs:Int)=-D:=by omega
    rw [h6,Rat.intCast_neg,Rat.intCast_neg,Rat.neg_mul,hw]
   rw [h5,← e3]
   exact Rat.intCast_le_intCast.2 (by omega)
end
def wtL (k:Nat→Nat) (I:List Nat):List Nat:=I.flatMap fun i=>List.replicate (k i) i
theorem sL (c:Nat→Bool) (m i:Nat):((List.replicate m i).filter c).length=if c i=true then m else 0:=by
 rw [List.filter_replicate]
 split <;> simp
theorem rU (c:Nat→Bool) (k:Nat→Nat):∀ I:List Nat,((wtL k I).filter c).length=smN (I.map fun i=>if c i=true then k i else 0)
 | []=>rfl
 | i :: I=>by
  have ih:=rU c k I
  unfold wtL at ih ⊢
  rw [List.flatMap_cons,List.filter_append,List.length_append,sL,ih];rfl
theorem rW:∀ a b:List Nat,prN (a++b)=prN a*prN b
 | [],b=>by rw [List.nil_append];exact (Nat.one_mul _).symm
 | x :: a,b=>by
  have:=rW a b
  show x*prN (a++b)=x*prN a*prN b
  rw [this,Nat.mul_assoc]
theorem qn (k:Nat→Nat):∀ n:Nat,cW n (fun j=>((k j:Nat):Rat))=((smN ((List.range' 0 n).map k):Nat):Rat)
 | 0=>rfl
 | n+1=>by
  have ih:=qn k n
  rw [List.range'_concat,List.map_append,oM]
  unfold cW
  rw [ih,Rat.natCast_add]
  simp only [Nat.zero_add,Nat.one_mul,List.map_cons,List.map_nil]
  congr 1
theorem qD {g:Nat→Rat} {c:Rat}:∀ n:Nat,c*cW n g=cW n (fun j=>c*g j)
 | 0=>by unfold cW;grind
 | n+1=>by
  have:=qD (g:=g) (c:=c) n
  unfold cW
  rw [← this];grind
section
variable {N:Nat}
theorem pF (hN:1073741824≤N) {n:Nat} {atoms:List aY} (n5:n≤5) (a1:1≤atoms.length) (a4:atoms.length≤4) {x:aX} (hp:gV N n atoms x) :
  ∃ (d:Nat) (k:Nat→Nat),1≤d∧d≤3∧(∀ i,i<atoms.length→k i≤3)∧bY N x=some ((List.range' 0 atoms.length).map (fun i:Nat=>(k i:Int)),(d:Int))∧Cov atoms n (wtL k (List.range' 0 atoms.length)) d:=by
 obtain ⟨K,hD,hK⟩:=tf hN n5 a1 a4 hp
 obtain ⟨F,_⟩:=hp
 have hxl:=F.len
 obtain ⟨d,hd,es,hv⟩:=v9 hN hD
 have hKK:=hD.hK
 have hd3:1≤d∧d≤3∧d≤K:=by omega
 refine ⟨d.toNat,fun i=>((gj x d x.length).getD i 0).toNat,by omega,by omega,fun i hi=>?_,?_,?_⟩
 ·obtain ⟨v,e,v0,ev⟩:=hv i (by omega)
  have h1:=hK i (by omega)
  have h0:0≤rv (aw x i):=by
   have h1:=(F.ok i (by omega)).2
   have h3:=((fF hN).1 (F.ok i (by omega)).1).1
   unfold rv
   rw [Rat.div_def]
   exact Rat.mul_nonneg (Rat.intCast_nonneg.2 h1) (Rat.le_of_lt (Rat.inv_pos.2 (Rat.intCast_pos.2 (by omega))))
  have h2:(d:Rat)*rv (aw x i)≤(K:Rat)*rv (aw x i):=Rat.mul_le_mul_of_nonneg_right (Rat.intCast_le_intCast.2 hd3.2.2) h0
  have h3:(v:Rat)≤((3:Int):Rat):=by
   rw [ev]
   exact Rat.le_trans h2 h1
  have h4:=Rat.intCast_le_intCast.1 h3
  show ((gj x d x.length).getD i 0).toNat≤3
  rw [e];omega
 ·rw [es,Int.toNat_of_nonneg (by omega)]
  congr 2
  have hl:(gj x d x.length).length=atoms.length:=by unfold gj;simp [hxl]
  refine List.ext_getElem (by rw [hl];simp) fun i h1 h2=>?_
  obtain ⟨v,e,v0,_⟩:=hv i (by omega)
  rw [fw h1] at e
  simp only [List.getElem_map,List.getElem_range',Nat.zero_add,Nat.one_mul]
  rw [fw h1,e,Int.toNat_of_nonneg v0]
 ·refine ⟨by omega,fun i hi=>?_,fun v h0 h1=>?_⟩
  ·unfold wtL at hi
   obtain ⟨j,hj,h⟩:=List.mem_flatMap.1 hi
   rw [List.eq_of_mem_replicate h]
   simpa using hj
  ·rw [rU]
   obtain ⟨u,rfl⟩:∃ u:Nat,v=(u:Int):=⟨v.toNat,by omega⟩
   have hg:=F.ge u (by omega)
   have h2:(d:Rat)*1≤(d:Rat)*cW atoms.length (fun j=>cv (aN n atoms) u j*rv (aw x j)):=Rat.mul_le_mul_of_nonneg_left hg (Rat.intCast_nonneg.2 (by omega))
   rw [qD,el (h:=fun j=>(((if decide ((u:Int)∈(gY atoms j).2)=true then ((gj x d x.length).getD j 0).toNat else 0:Nat):Nat):Rat)) fun j hj=>by
    obtain ⟨w,e,w0,ew⟩:=hv j (by omega)
    have hb:cv (aN n atoms) u j=if decide ((u:Int)∈(gY atoms j).2)=true then 1 else 0:=by
     unfold cv
     rw [iZ (by omega) hj]
     unfold ic
     cases decide ((u:Int)∈(gY atoms j).2) with
     | true=>rw [cond_true,if_pos rfl,jI];rfl
     | false=>rw [cond_false,if_neg (by decide),jI];rfl
    have hw:((w.toNat:Nat):Rat)=(w:Rat):=by
     rw [← Rat.intCast_natCast,Int.toNat_of_nonneg w0]
    rw [hb]
    split
    ·rw [e,hw,ew];grind
    ·have e0:((0:Nat):Rat)=0:=rfl
     rw [e0];grind,qn] at h2
   have h3:((d.toNat:Nat):Rat)=(d:Rat):=by rw [← Rat.intCast_natCast,Int.toNat_of_nonneg (by omega)]
   rw [Rat.mul_one,← h3] at h2
   exact Rat.natCast_le_natCast.1 h2
end
def nN {α:Type}:List (List α)→List (List α)
 | []=>[[]]
 | l :: ls=>l.flatMap fun a=>(nN ls).map fun s=>a :: s
theorem lY {ι α:Type} {f:ι→List α} {g:ι→α}:∀ {I:List ι},(∀ i∈I,g i∈f i)→I.map g∈nN (I.map f)
 | [],_=>List.mem_singleton.2 rfl
 | i :: I,h=>List.mem_flatMap.2 ⟨g i,h i List.mem_cons_self,List.mem_map.2 ⟨_,lY fun j hj=>h j (List.mem_cons_of_mem _ hj),rfl⟩⟩
def mS (na:Nat) (S:List Nat) (i:Nat):List aX:=nN ((List.range' 0 na).map fun j=>bif S.contains j then [bif Nat.beq j i then (1,1) else (0,1)] else [(0,1),(1,1)])
def mC (na:Nat) (S:List Nat):List Nat:=(List.range' 0 na).filter fun j=>!S.contains j
def ptS (na:Nat) (S:List Nat):aX:=(List.range' 0 na).map fun j=>bif S.contains j then (1,1) else (0,1)
def sJ (na:Nat) (S:List Nat) (R:bc):bc:=R++(mC na S).map (du na)
def sx (na:Nat) (S:List Nat):aX:=S.map (fun _=>(1,1))++(mC na S).map fun _=>(0,1)
def zb (M na:Nat) (S:List Nat) (R:bc):Bool:=decide (bo (M+100) (sJ na S R) (sx na S)=some (ptS na S,true))
def sC (na s:Nat):List (List Nat):=(nN (List.replicate s (List.range' 0 na))).filter fun S=>decide S.Nodup
def kD (M na s:Nat):Bool:=(sC na s).all fun S=>(nN (S.map (mS na S))).all fun R=>zb M na S R
theorem zU (M:Nat):kD M 1 1=true:=by kernel_rfl
theorem zA (M:Nat):(kD M 2 1&&kD M 2 2)=true:=by kernel_rfl
theorem zX (M:Nat):(kD M 3 1&&(kD M 3 2&&kD M 3 3))=true:=by kernel_rfl
theorem zn (M:Nat):kD M 4 1=true:=by kernel_rfl
theorem zi (M:Nat):kD M 4 2=true:=by kernel_rfl
theorem zG (M:Nat):kD M 4 3=true:=by kernel_rfl
theorem zh (M:Nat):kD M 4 4=true:=by kernel_rfl
theorem zN (bit:Nat→Nat→Bool) (n:Nat):∀ (m:Nat) (S:List Nat),S.length≤m→S.Nodup→(∀ v,v<n→∃ j∈S,bit v j=true) →
  ∃ S':List Nat,S'.Nodup∧(∀ j∈S',j∈S)∧(∀ v,v<n→∃ j∈S',bit v j=true)∧∀ i∈S',∃ v,v<n∧bit v i=true∧∀ j∈S',j≠i→bit v j=false:=by
 intro m
 induction m with
 | zero =>
  intro S hm hn hc
  have:S=[]:=List.length_eq_zero_iff.1 (by omega)
  subst this
  exact ⟨[],hn,fun _ h=>h,hc,by simp⟩
 | succ m ih =>
  intro S hm hn hc
  by_cases h:∃ i∈S,∀ v,v<n→∃ j∈S.erase i,bit v j=true
  ·obtain ⟨i,hi,h⟩:=h
   have hl:=List.length_erase_of_mem hi
   obtain ⟨S',h1,h2,h3,h4⟩:=ih (S.erase i) (by omega) (hn.erase i) h
   exact ⟨S',h1,fun j hj=>List.mem_of_mem_erase (h2 j hj),h3,h4⟩
  ·refine ⟨S,hn,fun _ h=>h,hc,fun i hi=>?_⟩
   have h1:¬ ∀ v,v<n→∃ j∈S.erase i,bit v j=true:=fun h2=>h ⟨i,hi,h2⟩
   obtain ⟨v,h2⟩:=Classical.not_forall.1 h1
   have hv:v<n:=Classical.byContradiction fun h3=>h2 fun h4=>absurd h4 h3
   have h5:∀ j∈S,j≠i→bit v j=false:=fun j hj hji=>by
    cases hb:bit v j with
    | false=>rfl
    | true=>exact absurd (fun _=>⟨j,(List.mem_erase_of_ne hji).2 hj,hb⟩) h2
   obtain ⟨j,hj,hb⟩:=hc v hv
   by_cases e:j=i
   ·subst e;exact ⟨v,hv,hb,h5⟩
   ·rw [h5 j hj e] at hb;cases hb
theorem pL {S:List Nat} {na:Nat} (hn:S.Nodup) (hb:∀ j∈S,j<na):S.length+(mC na S).length=na:=by
 have h1:((List.range' 0 na).filter fun j=>S.contains j).length=S.length:=by
  refine Nat.le_antisymm (List.Nodup.length_le_of_subset (List.Nodup.sublist List.filter_sublist List.nodup_range') fun j hj=>?_) (List.Nodup.length_le_of_subset hn fun j hj=>?_)
  ·simpa using (List.mem_filter.1 hj).2
  ·exact List.mem_filter.2 ⟨by simpa using hb j hj,by simpa using hj⟩
 have h2:∀ I:List Nat,(I.filter fun j=>S.contains j).length+(I.filter fun j=>!S.contains j).length=I.length:=by
  intro I
  induction I with
  | nil=>rfl
  | cons i I ih =>
   rw [List.filter_cons,List.filter_cons]
   cases S.contains i
   ·simp only [Bool.not_false,if_true,Bool.false_eq_true,if_false,List.length_cons];omega
   ·simp only [Bool.not_true,if_true,Bool.false_eq_true,if_false,List.length_cons];omega
 have h3:=h2 (List.range' 0 na)
 rw [List.length_range',h1] at h3
 exact h3
theorem w8 {M na:Nat} (h4:na≤4) {S:List Nat} (hn:S.Nodup) (hb:∀ j∈S,j<na) (hs:S≠[]) {R:bc} (hR:R∈nN (S.map (mS na S))):bo (M+100) (sJ na S R) (sx na S)=some (ptS na S,true):=by
 have hl:=pL hn hb
 have hp:=List.length_pos_iff.2 hs
 have key:kD M na S.length=true:=by
  have c2:=zA M
  have c3:=zX M
  simp only [Bool.and_eq_true] at c2 c3
  match na,h4,S.length,(show S.length≤na by omega),hp with
  | 0,_,k,h1,h2=>omega
  | 1,_,1,_,_=>exact zU M
  | 2,_,1,_,_=>exact c2.1
  | 2,_,2,_,_=>exact c2.2
  | 3,_,1,_,_=>exact c3.1
  | 3,_,2,_,_=>exact c3.2.1
  | 3,_,3,_,_=>exact c3.2.2
  | 4,_,1,_,_=>exact zn M
  | 4,_,2,_,_=>exact zi M
  | 4,_,3,_,_=>exact zG M
  | 4,_,4,_,_=>exact zh M
 have hm:S∈sC na S.length:=by
  unfold sC
  rw [List.mem_filter,decide_eq_true_eq]
  refine ⟨?_,hn⟩
  have h:=lY (f:=fun _:Nat=>List.range' 0 na) (g:=fun j=>j) (I:=S) fun j hj=>by simpa using hb j hj
  rw [List.map_id'] at h
  have e:S.map (fun _:Nat=>List.range' 0 na)=List.replicate S.length (List.range' 0 na):=List.map_const' ..
  rw [e] at h
  exact h
 have h1:=List.all_eq_true.1 (List.all_eq_true.1 key S hm) R hR
 exact of_decide_eq_true h1
section
variable {N:Nat}
theorem uI (hN:1073741824≤N) {n:Nat} {atoms:List aY} (n1:1≤n) (n5:n≤5) (a1:1≤atoms.length) (a4:atoms.length≤4) (hc:∀ v,v<n→∃ j,j<atoms.length∧((v:Nat):Int)∈(gY atoms j).2) :
  ∃ x,gV N n atoms x∧dw N (aN n atoms) (aA n) (aA atoms.length) x 1=some true:=by
 obtain ⟨S,s1,s2,s3,s4⟩:=zN (fun v j=>decide ((v:Int)∈(gY atoms j).2)) n atoms.length (List.range' 0 atoms.length) (by simp) List.nodup_range' fun v hv=>by
  obtain ⟨j,h1,h2⟩:=hc v hv
  exact ⟨j,by simpa using h1,decide_eq_true h2⟩
 have hpx:∀ i,∃ v,i∈S→v<n∧decide (((v:Nat):Int)∈(gY atoms i).2)=true∧∀ j∈S,j≠i→decide (((v:Nat):Int)∈(gY atoms j).2)=false:=fun i=>by
  by_cases h:i∈S
  ·obtain ⟨v,h1⟩:=s4 i h
   exact ⟨v,fun _=>h1⟩
  ·exact ⟨0,fun h'=>absurd h' h⟩
 obtain ⟨p,hp⟩:=Classical.skolem.1 hpx
 have inj:∀ i∈S,∀ j∈S,p i=p j→i=j:=fun i hi j hj e=>by
  refine Classical.byContradiction fun hne=>?_
  have h1:=(hp i hi).2.2 j hj fun h=>hne h.symm
  have h2:=(hp j hj).2.1
  rw [← e,h1] at h2;cases h2
 -- in the order of the rows
 have hperm:=List.mergeSort_perm S (fun a b=>decide (p a≤p b))
 have hsort:(S.mergeSort fun a b=>decide (p a≤p b)).Pairwise fun a b=>decide (p a≤p b)=true :=
  List.pairwise_mergeSort (le:=fun a b=>decide (p a≤p b)) (fun a b c h1 h2=>decide_eq_true (Nat.le_trans (of_decide_eq_true h1) (of_decide_eq_true h2))) (fun a b=>by
   rcases Nat.le_total (p a) (p b) with h | h
   ·rw [decide_eq_true h];rfl
   ·rw [decide_eq_true h,Bool.or_true]) S
 generalize S.mergeSort (fun a b=>decide (p a≤p b))=T at hperm hsort
 have hT:∀ j,j∈T↔j∈S:=fun j=>hperm.mem_iff
 have tn:T.Nodup:=hperm.nodup_iff.2 s1
 have tb:∀ j∈T,j<atoms.length:=fun j hj=>by simpa using s2 j ((hT j).1 hj)
 have tne:T≠[]:=fun e=>by
  obtain ⟨j,hj,_⟩:=s3 0 (by omega)
  rw [← hT j,e] at hj;cases hj
 have hlen:=pL tn tb
 have hrowB:∀ i∈T,aZ (aN n atoms) (p i)=(List.range' 0 atoms.length).map fun j=>ic (gY atoms j) (p i:Int):=fun i hi=>by
  have hpi:=(hp i ((hT i).1 hi)).1
  refine List.ext_getElem (by rw [jZ.2 _ hpi];simp) fun j h1 h2=>?_
  have hj:j<atoms.length:=by rw [jZ.2 _ hpi] at h1;exact h1
  have h3:=iZ (atoms:=atoms) hpi hj
  unfold cell aw at h3
  rw [List.getElem_map,List.getElem_range',Nat.zero_add,Nat.one_mul,← h3]
  simp [h1]
 have hR:T.map (fun i=>aZ (aN n atoms) (p i))∈nN (T.map (mS atoms.length T)):=lY fun i hi=>by
  rw [hrowB i hi]
  unfold mS
  refine lY fun j hj=>?_
  obtain ⟨_,g2,g3⟩:=hp i ((hT i).1 hi)
  by_cases hjT:j∈T
  ·rw [show T.contains j=true by simpa using hjT,cond_true,List.mem_singleton]
   unfold ic
   by_cases e:j=i
   ·subst e
    rw [g2,show Nat.beq j j=true from Nat.beq_refl j,cond_true]
   ·rw [g3 j ((hT j).1 hjT) e,show Nat.beq j i=false from by
     cases hb:Nat.beq j i with
     | false=>rfl
     | true=>exact absurd (Nat.eq_of_beq_eq_true hb) e,cond_false]
  ·rw [show T.contains j=false by simpa using hjT,cond_false]
   unfold ic
   cases decide ((p i:Int)∈(gY atoms j).2)
   ·exact List.mem_cons_self
   ·exact List.mem_cons_of_mem _ List.mem_cons_self
 obtain ⟨M,rfl⟩:∃ M,N=M+100:=⟨N-100,by omega⟩
 have hsol:=w8 (M:=M) a4 tn tb tne hR
 -- the pick
 let l:List Nat:=T.map p++(mC atoms.length T).map fun j=>n+j
 have hll:l.length=atoms.length:=by
  show (T.map p++(mC atoms.length T).map fun j=>n+j).length=_
  rw [List.length_append,List.length_map,List.length_map];exact hlen
 have hasc:l.Pairwise (·<·):=by
  refine List.pairwise_append.2 ⟨?_,?_,fun a ha b hb=>?_⟩
  ·rw [List.pairwise_map]
   refine (List.Pairwise.and hsort tn).imp_of_mem fun {a b} ha hb h=>?_
   have h1:p a≤p b:=of_decide_eq_true h.1
   have h2:p a≠p b:=fun e=>h.2 (inj a ((hT a).1 ha) b ((hT b).1 hb) e)
   omega
  ·rw [List.pairwise_map]
   have:(mC atoms.length T).Pairwise (·<·):=List.Pairwise.sublist List.filter_sublist List.pairwise_lt_range'
   exact this.imp fun h=>by omega
  ·obtain ⟨i,hi,rfl⟩:=List.mem_map.1 ha
   obtain ⟨j,_,rfl⟩:=List.mem_map.1 hb
   have:=(hp i ((hT i).1 hi)).1
   omega
 have hlb:∀ v∈l,0≤v∧v<n+atoms.length:=fun v hv=>by
  refine ⟨Nat.zero_le v,?_⟩
  rcases List.mem_append.1 hv with h | h
  ·obtain ⟨i,hi,rfl⟩:=List.mem_map.1 h
   have:=(hp i ((hT i).1 hi)).1
   omega
  ·obtain ⟨j,hj,rfl⟩:=List.mem_map.1 h
   have:j<atoms.length:=by simpa using (List.mem_filter.1 hj).1
   omega
 have hpick:=pE hll hasc hlb
 have enat:g7 (l.map fun v:Nat=>(v:Int))=l:=by
  unfold g7
  rw [List.map_map]
  have:(Int.toNat ∘ fun v:Nat=>(v:Int))=id:=funext fun v=>Int.toNat_natCast v
  rw [this,List.map_id]
 have eA:dE (aN n atoms) n atoms.length (l.map fun v:Nat=>(v:Int))=sJ atoms.length T (T.map fun i=>aZ (aN n atoms) (p i)):=by
  unfold dE sJ
  rw [enat]
  show (T.map p++(mC atoms.length T).map fun j=>n+j).map _=_
  rw [List.map_append,List.map_map,List.map_map]
  congr 1
  ·refine List.map_congr_left fun i hi=>?_
   show fD (aN n atoms) n atoms.length (p i)=_
   unfold fD
   rw [if_pos (hp i ((hT i).1 hi)).1]
  ·refine List.map_congr_left fun j _=>?_
   show fD (aN n atoms) n atoms.length (n+j)=_
   unfold fD
   rw [if_neg (by omega),Nat.add_sub_cancel_left]
 have eB:dp n (l.map fun v:Nat=>(v:Int))=sx atoms.length T:=by
  unfold dp sx
  rw [enat]
  show (T.map p++(mC atoms.length T).map fun j=>n+j).map _=_
  rw [List.map_append,List.map_map,List.map_map]
  congr 1
  ·refine List.map_congr_left fun i hi=>?_
   show gJ n (p i)=_
   unfold gJ
   rw [if_pos (hp i ((hT i).1 hi)).1]
  ·refine List.map_congr_left fun j _=>?_
   show gJ n (n+j)=_
   unfold gJ
   rw [if_neg (by omega)]
 have hpl:(ptS atoms.length T).length=atoms.length:=by unfold ptS;simp
 have hpc:∀ j,j<atoms.length→aw (ptS atoms.length T) j=bif T.contains j then (1,1) else (0,1):=fun j hj=>by
  unfold ptS aw;simp [hj]
 obtain ⟨b,eb,hb1,hb2⟩:=rz hN n1 n5 a1 a4 hpl
 have hbt:b=true:=hb2 (fun j hj=>by
  rw [hpc j (by omega)]
  cases T.contains j
  ·exact .inl rfl
  ·exact .inr rfl) fun v hv=>by
  obtain ⟨j,hj,hbit⟩:=s3 v hv
  have hjl:j<atoms.length:=by simpa using s2 j hj
  refine ⟨j,by omega,?_,?_⟩
  ·rw [iZ hv hjl]
   unfold ic
   rw [hbit];rfl
  ·rw [hpc j hjl,show T.contains j=true by simpa using (hT j).2 hj];rfl
 subst hbt
 exact ⟨ptS atoms.length T,⟨hb1 rfl,_,hpick,by rw [eA,eB];exact hsol⟩,eb⟩
end
section
variable {N:Nat}
theorem zt (hN:1073741824≤N) {ss:List Int} (hs:ss.length≤1000) (hv:∀ v∈ss,0≤v∧v≤16) {A:bc} {B C:aX}:∀ (c i fuel:Nat),i+c=ss.length→c<fuel →
  ∃ z,cB N fuel ss A B C (i:Int)=some (.inr z):=by
 intro c
 induction c with
 | zero =>
  intro i fuel hi hf
  obtain ⟨fuel,rfl⟩:∃ k',fuel=k'+1:=⟨fuel-1,by omega⟩
  rw [cB,decide_eq_false (by omega),cond_false]
  exact ⟨_,rfl⟩
 | succ c ih =>
  intro i fuel hi hf
  obtain ⟨fuel,rfl⟩:∃ k',fuel=k'+1:=⟨fuel-1,by omega⟩
  have hil:i<ss.length:=by omega
  have h1:=hv _ (List.getElem_mem hil)
  rw [cB,decide_eq_true (by omega),cond_true,aS hil,bs,d5,bs,show inR ss[i] 0 16=true from cx.2 h1,cond_true,bF (by omega) (by omega),bs]
  exact ih (i+1) fuel (by omega) (by omega)
end
section
variable {N:Nat}
theorem zc (hN:1073741824≤N) {a b:List Int} (ha:Cn a) (hb:Cn b) (la:a.length≤60) (lb:b.length≤60) (h:vB a*vB b<10 ^ 60):∃ r,fI N a b=some (r,true)∧vB r=vB a*vB b∧Cn r∧r.length≤60:=by
 obtain ⟨r,e1,e2,_⟩:=nD hN (a:=a) (b:=b) (by omega) (by omega)
 obtain ⟨q,e3,h1,h2⟩:=rx hN ha hb la lb
 rw [e2] at e3
 obtain rfl:=Option.some.inj e3
 have ht:=h2.2 h
 obtain ⟨r1,r2⟩:=r
 obtain rfl:r2=true:=ht
 exact ⟨r1,e1,h1 rfl⟩
theorem vP (hN:1073741824≤N) {n:Int} (h0:0≤n) (h1:n≤9223372036854775807) {d:Nat} (hd:d≤100) (h:∀ j,j<d→n ^ (j+1)<10 ^ 60):∃ r,fN N n (d:Int)=some (r,true)∧vB r=n ^ d∧Cn r∧r.length≤60:=by
 obtain ⟨r,e1,e2,_⟩:=qY hN (n:=n) (k:=(d:Int)) h1
 obtain ⟨q,e3,h2,h3⟩:=wX hN h0 h1 hd
 rw [e2] at e3
 obtain rfl:=Option.some.inj e3
 have ht:=h3.2 h
 obtain ⟨r1,r2⟩:=r
 obtain rfl:r2=true:=ht
 exact ⟨r1,e1,h2 rfl⟩
theorem yN (hN:1073741824≤N) {a b:List Int} (ha:Cn a) (hb:Cn b) (la:a.length≤60) (lb:b.length≤60):∃ q,eN N a b=some q∧(q<0↔vB a<vB b)∧-1≤q∧q≤1:=by
 obtain ⟨c,e1,e2⟩:=qk hN (a:=a) (b:=b) (by omega) (by omega)
 obtain ⟨q,e3,_,h⟩:=uX hN ha hb la lb
 rw [e2] at e3
 obtain rfl:=Option.some.inj e3
 exact ⟨c,e1,h⟩
theorem zk (hN:1073741824≤N):∃ b,dy N 1=some b∧vB b=1∧Cn b∧b.length≤60:=by
 obtain ⟨r,e,h1,h2,h3⟩:=vP hN (n:=1) (by decide) (by decide) (d:=0) (by decide) (fun j hj=>absurd hj (Nat.not_lt_zero j))
 refine ⟨r,?_,by rw [h1];rfl,h2,h3⟩
 unfold fN at e
 rw [show decide ((1:Int)<0)=false from rfl,cond_false,d5,bs,show inR ((0:Nat):Int) 0 100=true from cx.2 (by omega),cond_true] at e
 cases hb:dy N 1 with
 | none=>rw [hb] at e;cases e
 | some b =>
  rw [hb,bs] at e
  obtain ⟨k,rfl⟩:∃ k,N=k+1:=⟨N-1,by omega⟩
  rw [cA,decide_eq_false (by omega),cond_false,bs,gm] at e
  injection e with e
  exact congrArg some (congrArg Prod.fst e)
end
section
variable {N:Nat}
theorem t7 (hN:1073741824≤N) {na:Nat} (h4:na≤4) {s k:Nat→Nat} (hs:∀ i,i<na→s i≤16) (hk:∀ i,i<na→k i≤9) :
  ∃ r,cZ N ((List.range' 0 na).map fun i:Nat=>(s i:Int)) ((List.range' 0 na).map fun i:Nat=>(k i:Int))=some (r,true)∧vB r=((prN ((List.range' 0 na).map fun i=>s i ^ k i):Nat):Int)∧Cn r∧r.length≤60∧prN ((List.range' 0 na).map fun i=>s i ^ k i)≤68719476736 ^ na:=by
 have l1:∀ f:Nat→Nat,((List.range' 0 na).map fun i:Nat=>(f i:Int)).length=na:=fun f=>by simp
 have g1:∀ (f:Nat→Nat) (j:Nat),j<na→((List.range' 0 na).map fun i:Nat=>(f i:Int)).getD j 0=(f j:Int):=fun f j hj=>by
  rw [fw (by rw [l1];exact hj),List.getElem_map,List.getElem_range',Nat.zero_add,Nat.one_mul]
 have pw:∀ i,i<na→s i ^ k i≤68719476736:=fun i hi=>by
  rcases Nat.eq_zero_or_pos (s i) with h0 | h0
  ·rw [h0]
   rcases Nat.eq_zero_or_pos (k i) with h1 | h1
   ·rw [h1];decide
   ·rw [Nat.zero_pow h1];decide
  ·exact Nat.le_trans (Nat.pow_le_pow_right h0 (hk i hi)) (Nat.pow_le_pow_left (hs i hi) 9)
 have ps:∀ i,prN ((List.range' 0 (i+1)).map fun i=>s i ^ k i)=prN ((List.range' 0 i).map fun i=>s i ^ k i)*s i ^ k i:=fun i=>by
  rw [List.range'_concat,List.map_append,rW]
  simp only [Nat.zero_add,Nat.one_mul,List.map_cons,List.map_nil,prN,Nat.mul_one]
 have pb:∀ i,i≤na→prN ((List.range' 0 i).map fun i=>s i ^ k i)≤68719476736 ^ i:=by
  intro i
  induction i with
  | zero =>
   intro _
   exact Nat.le_refl 1
  | succ i ih =>
   intro hi
   rw [ps,Nat.pow_succ]
   exact Nat.mul_le_mul (ih (by omega)) (pw i (by omega))
 have key:∀ (c i fuel:Nat) (b:List Int),i+c=na→c<fuel→Cn b→b.length≤60→vB b=((prN ((List.range' 0 i).map fun i=>s i ^ k i):Nat):Int) →
   ∃ r z,ba N fuel ((List.range' 0 na).map fun i:Nat=>(s i:Int)) ((List.range' 0 na).map fun i:Nat=>(k i:Int)) [] b (i:Int)=some (.inr (r,z))∧vB r=((prN ((List.range' 0 na).map fun i=>s i ^ k i):Nat):Int)∧Cn r∧r.length≤60:=by
  intro c
  induction c with
  | zero =>
   intro i fuel b hi hf hb lb hv
   obtain ⟨fuel,rfl⟩:∃ k',fuel=k'+1:=⟨fuel-1,by omega⟩
   rw [ba,l1,decide_eq_false (by omega),cond_false]
   obtain rfl:i=na:=by omega
   exact ⟨b,_,rfl,hv,hb,lb⟩
  | succ c ih =>
   intro i fuel b hi hf hb lb hv
   obtain ⟨fuel,rfl⟩:∃ k',fuel=k'+1:=⟨fuel-1,by omega⟩
   have hsi:=hs i (by omega)
   have hki:=hk i (by omega)
   have hp:=pw i (by omega)
   obtain ⟨r,e,hr,cr,lr⟩:=vP hN (n:=(s i:Int)) (by omega) (by omega) (d:=k i) (by omega) fun j hj=>by
    have h1:s i ^ (j+1)≤16 ^ 9:=by
     rcases Nat.eq_zero_or_pos (s i) with h0 | h0
     ·rw [h0,Nat.zero_pow (by omega)];decide
     ·exact Nat.le_trans (Nat.pow_le_pow_right h0 (by omega)) (Nat.pow_le_pow_left hsi 9)
    have h2:((s i:Int)) ^ (j+1)=((s i ^ (j+1):Nat):Int):=(Int.natCast_pow ..).symm
    rw [h2]
    have:((s i ^ (j+1):Nat):Int)≤68719476736:=by omega
    exact Int.lt_of_le_of_lt this (by decide)
   have hr':vB r=((s i ^ k i:Nat):Int):=by rw [hr,Int.natCast_pow]
   have hb':=pb i (by omega)
   have hi4:(68719476736:Nat) ^ i≤68719476736 ^ 4:=Nat.pow_le_pow_right (by decide) (by omega)
   have hmul:=Nat.mul_le_mul (Nat.le_trans hb' hi4) hp
   have hm:vB b*vB r=((prN ((List.range' 0 (i+1)).map fun i=>s i ^ k i):Nat):Int):=by
    rw [hv,hr',ps,Int.natCast_mul]
   obtain ⟨y,e2,hy,cy,ly⟩:=zc hN hb cr lb lr (by
    rw [hm,ps]
    have:((prN ((List.range' 0 i).map fun i=>s i ^ k i)*s i ^ k i:Nat):Int)≤((68719476736 ^ 4*68719476736:Nat):Int):=Int.ofNat_le.2 hmul
    exact Int.lt_of_le_of_lt this (by decide))
   rw [ba,l1,decide_eq_true (by omega),cond_true,ixD (by rw [l1];omega),bs,g1 s i (by omega),ixD (by rw [l1];omega),bs,g1 k i (by omega),e,bs]
   dsimp only
   rw [e2,bs]
   dsimp only
   rw [cond_true,cond_true,bF (by omega) (by omega),bs]
   exact ih (i+1) fuel y (by omega) (by omega) cy ly (by rw [hy,hm])
 obtain ⟨b,eb,hb,cb,lb⟩:=zk hN
 obtain ⟨r,z,e,h1,h2,h3⟩:=key na 0 N b (by omega) (by omega) cb lb (by rw [hb];rfl)
 refine ⟨r,?_,h1,h2,h3,pb na (Nat.le_refl _)⟩
 unfold cZ
 have e':ba N N ((List.range' 0 na).map fun i:Nat=>(s i:Int)) ((List.range' 0 na).map fun i:Nat=>(k i:Int)) [] b 0=_:=e
 rw [l1,l1,show ((na:Int) != (na:Int))=false by rw [bne_eq_false_iff_eq],cond_false,eb,bs,e',bs,gm]
def xsF (na:Nat) (k:Nat→Nat) (e i:Nat):List Int:=(List.range' 0 na).map fun j:Nat=>(((if j<i then k j*e else k j):Nat):Int)
theorem im (na:Nat) (k:Nat→Nat) (e i:Nat):(xsF na k e i).length=na:=by unfold xsF;simp
theorem oL {na:Nat} {k:Nat→Nat} {e i j:Nat} (h:j<na):(xsF na k e i).getD j 0=(((if j<i then k j*e else k j):Nat):Int):=by
 rw [fw (by rw [im];exact h)]
 unfold xsF
 rw [List.getElem_map,List.getElem_range',Nat.zero_add,Nat.one_mul]
theorem qV (na:Nat) (k:Nat→Nat) (e:Nat):xsF na k e 0=(List.range' 0 na).map fun j:Nat=>(k j:Int):=by
 unfold xsF
 simp
theorem qP (na:Nat) (k:Nat→Nat) (e:Nat):xsF na k e na=(List.range' 0 na).map fun j:Nat=>((k j*e:Nat):Int):=by
 unfold xsF
 refine List.map_congr_left fun j hj=>?_
 rw [if_pos (by simp at hj;omega)]
theorem rL {na:Nat} {k:Nat→Nat} {e i:Nat} (h:i<na):(xsF na k e i).set i ((k i*e:Nat):Int)=xsF na k e (i+1):=by
 refine List.ext_getElem (by rw [List.length_set,im,im]) fun j h1 h2=>?_
 rw [List.length_set,im] at h1
 rw [List.getElem_set]
 have g1:=oL (k:=k) (e:=e) (i:=i) h1
 have g2:=oL (k:=k) (e:=e) (i:=i+1) h1
 rw [fw (by rw [im];exact h1)] at g1 g2
 rw [g1,g2]
 by_cases hij:i=j
 ·subst hij
  rw [if_pos rfl,if_pos (by omega)]
 ·rw [if_neg hij]
  by_cases hl:j<i
  ·rw [if_pos hl,if_pos (by omega)]
  ·rw [if_neg hl,if_neg (by omega)]
theorem wT (hN:1073741824≤N) {ss:List Int} {d e:Nat} (d3:d≤3) (e3:e≤3) {na:Nat} (hna:na≤4) {k q:Nat→Nat} (hk:∀ i,i<na→k i≤3) (hq:∀ i,i<na→q i≤3):∀ (c i fuel:Nat),i+c=na→c<fuel →
  ∃ z,dg N fuel ss (xsF na k e i) (d:Int) (xsF na q d i) (e:Int) (i:Int)=some (xsF na k e na,xsF na q d na,z):=by
 intro c
 induction c with
 | zero =>
  intro i fuel hi hf
  obtain ⟨fuel,rfl⟩:∃ k',fuel=k'+1:=⟨fuel-1,by omega⟩
  rw [dg,im,decide_eq_false (by omega),cond_false]
  obtain rfl:i=na:=by omega
  exact ⟨_,rfl⟩
 | succ c ih =>
  intro i fuel hi hf
  obtain ⟨fuel,rfl⟩:∃ k',fuel=k'+1:=⟨fuel-1,by omega⟩
  have hin:i<na:=by omega
  have m1:k i*e≤3*3:=Nat.mul_le_mul (hk i hin) e3
  have m2:q i*d≤3*3:=Nat.mul_le_mul (hq i hin) d3
  have x1:(xsF na k e i).getD i 0=(k i:Int):=by rw [oL hin,if_neg (by omega)]
  have x2:(xsF na q d i).getD i 0=(q i:Int):=by rw [oL hin,if_neg (by omega)]
  have p1:(k i:Int)*(e:Int)=((k i*e:Nat):Int):=(Int.natCast_mul ..).symm
  have p2:(q i:Int)*(d:Int)=((q i*d:Nat):Int):=(Int.natCast_mul ..).symm
  rw [dg,im,decide_eq_true (by omega),cond_true,ixD (by rw [im];exact hin),bs,x1,eL (by rw [p1];omega) (by rw [p1];omega),bs,p1,bs,kE (by rw [im];exact hin),bs,rL hin,ixD (by rw [im];exact hin),bs,x2,eL (by rw [p2];omega) (by rw [p2];omega),bs,p2,bs,kE (by rw [im];exact hin),bs,rL hin,bF (by omega) (by omega),bs]
  exact ih (i+1) fuel (by omega) (by omega)
def PVx (N:Nat) (na:Nat) (s:Nat→Nat) (x:aX):Nat × Nat :=
 match bY N x with
 | some (ws,d)=>(prN ((List.range' 0 na).map fun i=>s i ^ (ws.getD i 0).toNat),d.toNat)
 | none=>(0,0)
def LeV (N na:Nat) (s:Nat→Nat) (x y:aX):Prop:=(PVx N na s x).1 ^ (PVx N na s y).2≤(PVx N na s y).1 ^ (PVx N na s x).2
theorem LeV.refl {na:Nat} {s:Nat→Nat} (x:aX):LeV N na s x x:=Nat.le_refl _
theorem LeV.trans {na:Nat} {s:Nat→Nat} {x y z:aX} (hy:1≤(PVx N na s y).2) (h1:LeV N na s x y) (h2:LeV N na s y z):LeV N na s x z:=by
 unfold LeV at *
 generalize PVx N na s x=X at *
 generalize PVx N na s y=Y at *
 generalize PVx N na s z=Z at *
 refine (Nat.pow_le_pow_iff_left (show Y.2≠0 by omega)).1 ?_
 have a1:=Nat.pow_le_pow_left h1 Z.2
 have a2:=Nat.pow_le_pow_left h2 X.2
 rw [← Nat.pow_mul,← Nat.pow_mul] at a1 a2 ⊢
 rw [Nat.mul_comm Z.2 Y.2,Nat.mul_comm X.2 Y.2]
 rw [Nat.mul_comm X.2 Z.2] at a1
 rw [Nat.mul_comm Z.2 X.2] at a2
 refine Nat.le_trans a1 ?_
 rw [Nat.mul_comm Z.2 X.2]
 exact Nat.le_trans a2 (Nat.le_of_eq (by rw [Nat.mul_comm]))
end
section
variable {N:Nat}
theorem xZ {ss:List Int} (hv:∀ v∈ss,0≤v∧v≤16):∃ s:Nat→Nat,(∀ i,i<ss.length→s i≤16)∧ss=(List.range' 0 ss.length).map fun i:Nat=>(s i:Int):=by
 refine ⟨fun i=>(ss.getD i 0).toNat,fun i hi=>?_,List.ext_getElem (by simp) fun i h1 h2=>?_⟩
 ·have:=hv _ (List.getElem_mem hi)
  dsimp only
  rw [fw hi]
  omega
 ·have:=hv _ (List.getElem_mem h1)
  rw [List.getElem_map,List.getElem_range',Nat.zero_add,Nat.one_mul]
  dsimp only
  rw [fw h1]
  omega
end
section
variable {N:Nat}
theorem uF {α:Type} (N:Nat) (x:Int) (k:Int→Option α):(ir N x).bind k=(sb 0 x).bind fun y=>k (imx x y):=by
 unfold ir
 cases sb 0 x <;> rfl
theorem nz (N:Nat) (x a b:Int):cu N x a b=cC N x a b:=by
 rw [eD];unfold cu inR
 by_cases h:a≤x
 ·rw [decide_eq_true h,cond_true,Bool.true_and]
 ·rw [decide_eq_false h,cond_false,Bool.false_and]
theorem nE (N:Nat) (n d:Int):eT N n d=bG N n d:=by
 unfold eT bG
 have e:sb 0 4000000000000000000=some (-4000000000000000000):=by decide
 simp only [e,Option.bind_some,nz,kC,nT,uF]
theorem sv (N:Nat) (a b c d:Int):eH N a b c d=(ay N a b).bind fun r=>bif r then ay N c d else some false:=by
 unfold eH
 simp only [kC]
 cases bh N a b with
 | none=>rfl
 | some r =>
  cases r
  ·rfl
  ·simp only [Option.bind_some,cond_true]
   cases bh N c d <;> rfl
theorem k9 {α:Type} (N:Nat) (a b c d:Int) {x y:Option α}:(eH N a b c d).bind (fun r=>bif r then x else y)=(ay N a b).bind fun r=>bif r then (ay N c d).bind fun r=>bif r then x else y else y:=by
 rw [sv]
 cases ay N a b with
 | none=>rfl
 | some r=>cases r <;> rfl
theorem qK (N:Nat) (a b c d:Int):fQ N a b c d=bJ N a b c d:=by
 unfold fQ bJ
 rw [k9];simp only [nE]
theorem qI (N:Nat) (a b c d:Int):fT N a b c d=bK N a b c d:=by
 unfold fT bK
 rw [k9];simp only [nE]
theorem uZ (N:Nat) (a b c d:Int):fc N a b c d=cl N a b c d:=by
 unfold fc cl
 rw [k9]
 simp only [ie,Option.bind_some,lM]
 have e:∀ x y:Int,(some (if x<y then (-1:Int) else if y<x then 1 else 0))=(bif decide (x<y) then some (-1) else bif decide (y<x) then some 1 else some 0):=by
  intro x y
  by_cases h1:x<y
  ·rw [if_pos h1,decide_eq_true h1,cond_true]
  ·rw [if_neg h1,decide_eq_false h1,cond_false]
   by_cases h2:y<x
   ·rw [if_pos h2,decide_eq_true h2,cond_true]
   ·rw [if_neg h2,decide_eq_false h2,cond_false]
 simp only [e]
theorem uC (N:Nat) (n:Int):bG N n 0=some ((0,0),false):=by
 unfold bG;rfl
theorem rb (hN:1073741824≤N) (a b c d:Int):fJ N a b c d=dh N a b c d:=by
 unfold fJ dh
 rw [k9];simp only [nE]
 rcases gR hN (a,b) with h | h
 ·rcases gR hN (c,d) with h2 | h2
  ·by_cases hc:c=0
   ·subst hc
    have e1:=(fF hN).1 h
    have e2:=(fF hN).1 h2
    have hm:=ik (a:=a) (b:=d) e1.2.2.1 e1.2.2.2.1 (by have:=e2.1;simp only at this;omega) e2.2.1
    have m1:ml a d=some (a*d):=eL (by omega) (by omega)
    have m2:ml b 0=some (b*0):=eL (by omega) (by omega)
    have h:ay N a b=some true:=h
    have h2:ay N 0 d=some true:=h2
    rw [h,h2,m1,m2]
    simp only [Option.bind_some,cond_true,Int.mul_zero,uC]
    rfl
   ·have e:(c == 0)=false:=by simpa using hc
    simp only [e,cond_false]
  ·have h2:ay N c d=some false:=h2
   rw [h2];rfl
 ·have h:ay N a b=some false:=h
  rw [h];rfl
def Rs (N:Nat) (r:cK) (ok:Bool):Prop:=ok=true∧VR N r∨ok=false∧r=(0,0)
theorem yW {N:Nat} {n d:Int} {r:cK} {ok:Bool} (h:bG N n d=some (r,ok)):Rs N r ok:=by
 unfold bG at h
 have fin:∀ {x y:Int} {q:Bool},ay N x y=some q→(bif q then some ((x,y),true) else some ((0,0),false))=some (r,ok)→Rs N r ok:=by
  intro x y q hq h
  cases q
  ·cases h;exact .inr ⟨rfl,rfl⟩
  ·cases h;exact .inl ⟨rfl,hq⟩
 have no:some (((0:Int),(0:Int)),false)=some (r,ok)→Rs N r ok:=by
  intro h;cases h;exact .inr ⟨rfl,rfl⟩
 rcases oif h with ⟨_,h⟩ | ⟨_,h⟩
 ·exact no h
 obtain ⟨_,_,h⟩:=ob h
 obtain ⟨_,_,h⟩:=ob h
 rcases oif h with ⟨_,h⟩ | ⟨_,h⟩
 rotate_left
 ·exact no h
 obtain ⟨_,_,h⟩:=ob h
 obtain ⟨_,_,h⟩:=ob h
 rcases oif h with ⟨_,h⟩ | ⟨_,h⟩
 rotate_left
 ·exact no h
 rcases oif h with ⟨_,h⟩ | ⟨_,h⟩
 ·obtain ⟨_,_,h⟩:=ob h
  obtain ⟨_,_,h⟩:=ob h
  obtain ⟨_,_,h⟩:=ob h
  obtain ⟨_,_,h⟩:=ob h
  obtain ⟨_,_,h⟩:=ob h
  obtain ⟨_,_,h⟩:=ob h
  obtain ⟨_,hq,h⟩:=ob h
  exact fin hq h
 ·obtain ⟨_,_,h⟩:=ob h
  obtain ⟨_,_,h⟩:=ob h
  obtain ⟨_,_,h⟩:=ob h
  obtain ⟨_,_,h⟩:=ob h
  obtain ⟨_,hq,h⟩:=ob h
  exact fin hq h
theorem tC {N:Nat} {a b c d:Int} {r:cK × Bool} (h:bK N a b c d=some r):Rs N r.1 r.2:=by
 unfold bK at h
 have no:some (((0:Int),(0:Int)),false)=some r→Rs N r.1 r.2:=by
  intro h;cases h;exact .inr ⟨rfl,rfl⟩
 obtain ⟨_,_,h⟩:=ob h
 rcases oif h with ⟨_,h⟩ | ⟨_,h⟩
 rotate_left
 ·exact no h
 obtain ⟨_,_,h⟩:=ob h
 rcases oif h with ⟨_,h⟩ | ⟨_,h⟩
 rotate_left
 ·exact no h
 obtain ⟨_,_,h⟩:=ob h
 obtain ⟨_,_,h⟩:=ob h
 obtain ⟨⟨r1,r2⟩,hq,h⟩:=ob h
 cases h
 exact yW hq
theorem nY (hN:1073741824≤N):ay N 0 0=some false:=by
 rcases gR hN (0,0) with h | h
 ·exact absurd ((fF hN).1 h).1 (by decide)
 ·exact h
theorem vh (hN:1073741824≤N) (a b:Int) {r:cK} {ok:Bool} (hr:Rs N r ok):gD N a b r.1 r.2=dA N a b r.1 r.2:=by
 unfold gD dA
 simp only [qK]
 rcases hr with ⟨_,h⟩ | ⟨_,rfl⟩
 ·have h':ay N r.1 r.2=some true:=h
  rw [h'];rfl
 ·have e0:sb 0 0=some 0:=by decide
  simp only [e0,nY hN,Option.bind_some,cond_false]
  unfold bJ
  rw [nY hN]
  rcases gR hN (a,b) with h | h
  ·have h:ay N a b=some true:=h
   rw [h];rfl
  ·have h:ay N a b=some false:=h
   rw [h];rfl
end
theorem ixI {α:Type} {xs:List α} {i:Int} {x:α} (h:ix xs i=some x):0≤i∧i<xs.length:=by
 obtain ⟨k,rfl,hk,_⟩:=et h
 omega
theorem pj {α:Type} {xs ys:List α} {i:Int} {y:α} (h:sto xs i y=some ys):0≤i∧i<xs.length∧ys=xs.set i.toNat y:=by
 unfold sto at h
 split at h
 ·rename_i h0;exact ⟨by omega,by omega,(Option.some.inj h).symm⟩
 ·cases h
theorem pz {α:Type} {xs:List α} {i:Int} {y:α} (h0:0≤i) (h1:i<xs.length):sto xs i y=some (xs.set i.toNat y):=by
 obtain ⟨k,rfl⟩:=Int.eq_ofNat_of_zero_le h0
 rw [kE (by omega)];simp
theorem qC {α:Type} {xs ys:List α} {i:Int} {y:α} (h:sto xs i y=some ys):ix ys i=some y:=by
 obtain ⟨h0,h1,rfl⟩:=pj h
 obtain ⟨k,rfl⟩:=Int.eq_ofNat_of_zero_le h0
 rw [aS (by simp;omega)];simp
theorem s9 {α:Type} {xs ys:List α} {i j:Int} {y:α} (h:sto xs i y=some ys) (hn:j≠i):ix ys j=ix xs j:=by
 obtain ⟨h0,h1,rfl⟩:=pj h
 obtain ⟨k,rfl⟩:=Int.eq_ofNat_of_zero_le h0
 unfold ix
 split
 ·rename_i hj
  obtain ⟨l,rfl⟩:=Int.eq_ofNat_of_zero_le hj
  simp only [Int.toNat_natCast]
  rw [List.getElem?_set_ne (by omega)]
 ·rfl
theorem pp {α:Type} {xs ys:List α} {i:Int} {y:α} (h:sto xs i y=some ys):ys.length=xs.length:=by
 obtain ⟨_,_,rfl⟩:=pj h;simp
theorem uU {α:Type} {xs:List α} {i:Int} {y:α} (h:ix xs i=some y):sto xs i y=some xs:=by
 obtain ⟨k,rfl,hk,rfl⟩:=et h
 rw [kE hk];simp
theorem wn {α:Type} {xs ys:List α} {i:Int} {y z:α} (h:sto xs i y=some ys):sto ys i z=sto xs i z:=by
 obtain ⟨h0,h1,rfl⟩:=pj h
 rw [pz h0 h1,pz h0 (by simpa using h1),List.set_set]
theorem qr {α:Type} {k:Nat} {xs ys zs:List α} (h:apd k xs ys=some zs):zs=xs++ys:=by
 unfold apd at h
 split at h
 ·exact (Option.some.inj h).symm
 ·cases h
section
variable {N:Nat}
theorem we (hN:1073741824≤N) {p i:Int} (hpi:p≠i) {f1 f2:Int} {P:aX}:∀ (fuel:Nat) (m:bc) (R:aX) (c:Int) (s:bc × Bool × Int),ix m i=some R→ix m p=some P→bT N fuel m p i f1 f2 true c=some s →
  (s.2.1=true∧∃ R',fA N fuel R P f1 f2 c=some (.inr (R',s.2.2))∧sto m i R'=some s.1)∨(s.2.1=false∧∃ R',fA N fuel R P f1 f2 c=some (.inl (false,R'))):=by
 intro fuel
 induction fuel with
 | zero=>intro m R c s _ _ h;cases h
 | succ fuel ih =>
  intro m R c s hi hp h
  rw [bT,hi,bs] at h
  rw [fA]
  rcases oif h with ⟨hc,h⟩ | ⟨hc,h⟩
  ·rw [hc,cond_true]
   rw [cond_true,hp,bs] at h
   obtain ⟨a,ha,h⟩:=ob h
   rw [ha,bs,qI]
   obtain ⟨t,ht,h⟩:=ob h
   rw [ht,bs]
   rw [bs] at h
   obtain ⟨b,hb,h⟩:=ob h
   rw [hb,bs,vh hN _ _ (tC ht)]
   obtain ⟨v,hv,h⟩:=ob h
   rw [hv,bs]
   rcases oif h with ⟨h1,h⟩ | ⟨h1,h⟩
   ·rw [h1,cond_true]
    rw [bs,hb,bs] at h
    obtain ⟨R1,hR1,h⟩:=ob h
    obtain ⟨m1,hm1,h⟩:=ob h
    obtain ⟨c1,hc1,h⟩:=ob h
    cases h2:v.2 with
    | true =>
     rw [h2] at h
     rw [cond_true,hR1,bs,hc1,bs]
     rcases ih m1 R1 c1 s (qC hm1) (by rw [s9 hm1 hpi];exact hp) h with ⟨g1,R',g2,g3⟩ | ⟨g1,R',g2⟩
     ·exact .inl ⟨g1,R',g2,by rw [← wn hm1];exact g3⟩
     ·exact .inr ⟨g1,R',g2⟩
    | false =>
     rw [h2] at h
     rw [cond_false]
     refine .inr ⟨?_,_,rfl⟩
     cases fuel with
     | zero=>cases h
     | succ fuel =>
      rw [bT,qC hm1,bs] at h
      rcases oif h with ⟨_,h⟩ | ⟨_,h⟩
      ·rw [cond_false] at h;cases h;rfl
      ·cases h;rfl
   ·rw [h1,cond_false]
    refine .inr ⟨?_,_,rfl⟩
    rw [bs] at h
    obtain ⟨_,_,h⟩:=ob h
    obtain ⟨R1,hR1,h⟩:=ob h
    obtain ⟨m1,hm1,h⟩:=ob h
    obtain ⟨c1,hc1,h⟩:=ob h
    cases fuel with
    | zero=>cases h
    | succ fuel =>
     rw [bT,qC hm1,bs] at h
     rcases oif h with ⟨_,h⟩ | ⟨_,h⟩
     ·rw [cond_false] at h;cases h;rfl
     ·cases h;rfl
  ·rw [hc,cond_false]
   cases h
   exact .inl ⟨rfl,R,rfl,uU hi⟩
theorem vD (hN:1073741824≤N) {p n:Int}:∀ (fuel:Nat) (m:bc) (i:Int) (s:Sum (Bool × bc) (bc × Int)),(m.length:Int)=n→cd N fuel m p i=some s →
  (∃ m' z,s=.inr (m',z)∧(m'.length:Int)=n∧bW N fuel n m p i=some (.inr (m',z)))∨(∃ m',s=.inl (false,m')∧bW N fuel n m p i=some (.inl ([],false))):=by
 intro fuel
 induction fuel with
 | zero=>intro m i s _ h;cases h
 | succ fuel ih =>
  intro m i s hl h
  rw [cd,hl] at h
  rw [bW]
  rcases oif h with ⟨hc,h⟩ | ⟨hc,h⟩
  ·rw [hc,cond_true]
   rcases oif h with ⟨he,h⟩ | ⟨he,h⟩
   ·have e:i=p:=by simpa using he
    have e2:(i != p)=false:=by simpa using e
    rw [e2,cond_false]
    obtain ⟨i1,hi1,h⟩:=ob h
    rw [hi1,bs]
    exact ih m i1 s hl h
   ·have e:i≠p:=by simpa using he
    have e2:(i != p)=true:=by simpa using e
    rw [e2,cond_true]
    obtain ⟨R,hR,h⟩:=ob h
    rw [hR,bs]
    obtain ⟨a,ha,h⟩:=ob h
    rw [ha,bs]
    rcases oif h with ⟨hz,h⟩ | ⟨hz,h⟩
    ·have e3:(a.1 != 0)=false:=by simpa using hz
     rw [e3,cond_false]
     obtain ⟨i1,hi1,h⟩:=ob h
     rw [hi1,bs]
     exact ih m i1 s hl h
    ·have e3:(a.1 != 0)=true:=by simpa using hz
     rw [e3,cond_true]
     rw [hR,bs,ha,bs] at h
     rw [bs]
     obtain ⟨P,hP,h⟩:=ob h
     rw [hP,bs]
     unfold jc
     rw [ha,bs]
     obtain ⟨b,hb,h⟩:=ob h
     rw [hb,bs,rb hN]
     obtain ⟨f,hf,h⟩:=ob h
     rw [hf,bs]
     obtain ⟨r,hr,h⟩:=ob h
     cases h0:f.2 with
     | true =>
      rw [h0] at hr
      rw [cond_true]
      rcases we hN (Ne.symm e) N m R p r hR hP hr with ⟨g1,R',g2,g3⟩ | ⟨g1,R',g2⟩
      ·rw [g2,bs]
       simp only [lpS,bs]
       rw [g3,bs,cond_true]
       rw [lpB] at h
       simp only [g1,cond_true] at h
       obtain ⟨i1,hi1,h⟩:=ob h
       rw [hi1,bs]
       exact ih r.1 i1 s (by rw [pp g3];exact hl) h
      ·rw [g2,bs]
       simp only [lpS,bs]
       obtain ⟨q0,q1⟩:=ixI hR
       rw [pz q0 q1,bs,cond_false]
       rw [lpB] at h
       simp only [g1,cond_false] at h
       cases h
       exact .inr ⟨_,rfl,rfl⟩
     | false =>
      rw [h0] at hr
      rw [cond_false,bs]
      have g1:r.2.1=false:=by
       cases hN':N with
       | zero=>omega
       | succ K =>
        rw [hN'] at hr
        rw [bT,hR,bs] at hr
        rcases oif hr with ⟨_,hr⟩ | ⟨_,hr⟩
        ·rw [cond_false] at hr;cases hr;rfl
        ·cases hr;rfl
      rw [lpB] at h
      simp only [g1,cond_false] at h
      cases h
      obtain ⟨q0,q1⟩:=ixI hR
      refine .inr ⟨_,rfl,?_⟩
      simp only [pz q0 q1,bs,cond_false]
  ·rw [hc,cond_false]
   cases h
   exact .inl ⟨m,_,rfl,hl,rfl⟩
theorem td (N:Nat):∀ (fuel:Nat) (n p k:Int) (m:bc),ef N fuel n m p k=bw N fuel n m p k:=by
 intro fuel
 induction fuel with
 | zero=>intros;rfl
 | succ fuel ih=>intro n p k m;rw [ef,bw];simp only [ih]
theorem tL {m m1 m2:bc} {p q:Int} {a b:aX} (ha:ix m p=some a) (hb:ix m q=some b) (h1:sto m q a=some m1) (h2:sto m1 p b=some m2):∃ m3,sto m p b=some m3∧sto m3 q a=some m2:=by
 obtain ⟨q0,q1,rfl⟩:=pj h1
 obtain ⟨p0,p1,rfl⟩:=pj h2
 have p2:p<m.length:=by simpa using p1
 refine ⟨_,pz p0 p2,?_⟩
 rw [pz q0 (by simpa using q1)]
 obtain ⟨k,rfl⟩:=Int.eq_ofNat_of_zero_le p0
 obtain ⟨l,rfl⟩:=Int.eq_ofNat_of_zero_le q0
 by_cases e:k=l
 ·subst e
  obtain rfl:a=b:=by rw [ha] at hb;exact Option.some.inj hb
  rfl
 ·simp only [Int.toNat_natCast]
  rw [List.set_comm _ _ e]
theorem vg (hN:1073741824≤N) {n:Int}:∀ (fuel:Nat) (m:bc) (p:Int) (s:Sum (aX × Bool) (bc × Int)),(m.length:Int)=n→bp N fuel n m p=some s →
  d8 N fuel n m p=some s:=by
 intro fuel
 induction fuel with
 | zero=>intro m p s _ h;cases h
 | succ fuel ih =>
  intro m p s hl h
  rw [bp] at h
  rw [d8]
  rcases oif h with ⟨hc,h⟩ | ⟨hc,h⟩
  ·rw [hc,cond_true,td]
   obtain ⟨q,hq,h⟩:=ob h
   rw [hq,bs]
   simp only [lpB] at h ⊢
   rcases oif h with ⟨he,h⟩ | ⟨he,h⟩
   ·rw [he,cond_true];exact h
   ·rw [he,cond_false]
    obtain ⟨b,hb,h⟩:=ob h
    obtain ⟨a,ha,h⟩:=ob h
    rw [hb,bs] at h
    obtain ⟨m1,h1,h⟩:=ob h
    obtain ⟨m2,h2,h⟩:=ob h
    obtain ⟨m3,h3,h4⟩:=tL ha hb h1 h2
    rw [hb,bs,ha,bs,bs,h3,bs,h4,bs]
    obtain ⟨r,hr,h⟩:=ob h
    unfold fq at hr
    obtain ⟨r1,hr1,hr⟩:=ob hr
    have hl2:(m2.length:Int)=n:=by rw [pp h2,pp h1];exact hl
    rcases vD hN N m2 0 r1 hl2 hr1 with ⟨m',z,rfl,hl',g⟩ | ⟨m',rfl,g⟩
    ·rw [g,bs]
     simp only [lpS] at hr ⊢
     cases hr
     simp only [cond_true] at h
     obtain ⟨p1,hp1,h⟩:=ob h
     rw [hp1,bs]
     exact ih m' p1 s hl' h
    ·rw [g,bs]
     simp only [lpS] at hr ⊢
     cases hr
     simp only [cond_false] at h
     exact h
  ·rw [hc,cond_false];exact h
theorem v6 (hN:1073741824≤N) {n:Int} {m:bc}:∀ (fuel:Nat) (o:aX) (p:Int),d7 N fuel n m o p=bq N fuel n m o p:=by
 intro fuel
 induction fuel with
 | zero=>intros;rfl
 | succ fuel ih=>intro o p;rw [d7,bq];simp only [ih,rb hN]
theorem q8 {xs:aX} (h:xs.length≤1048576):fd N xs=some xs:=by
 unfold fd
 rw [bB (by decide) (by simpa using Nat.le_trans h (by decide)),bs,List.nil_append]
theorem wq (hN:1073741824≤N) {n:Int} {A:bc} {b:aX} (hA:∀ i R,ix A i=some R→(R.length:Int)=n∧R.length≤1000∧dW N R=some true) (hb:∀ i r,ix b i=some r→VR N r) (hl:(A.length:Int)=n):∀ (fuel:Nat) (m:bc) (i:Int) (s:Sum (aX × Bool) (bc × Int)),(m.length:Int)=i→i≤n→bt N fuel A b n m i=some s →
  eh N fuel b n m A n i=some s∧∀ r,s=.inr r→(r.1.length:Int)=n:=by
 intro fuel
 induction fuel with
 | zero=>intro m i s _ _ h;cases h
 | succ fuel ih =>
  intro m i s hm hi h
  rw [bt] at h
  rw [eh]
  rcases oif h with ⟨hc,h⟩ | ⟨hc,h⟩
  ·rw [hc,cond_true]
   obtain ⟨r,hr,h⟩:=ob h
   have hv:ay N r.1 r.2=some true:=hb _ _ hr
   rw [hv,bs,cond_true] at h
   obtain ⟨R,hR,h⟩:=ob h
   obtain ⟨g1,g2,g3⟩:=hA _ _ hR
   have e:((R.length:Int) != n)=false:=by simpa using g1
   rw [hR,bs,e,cond_false,g3,bs,cond_true,hr,bs,q8 (by omega),bs]
   rw [hr,bs,bB (by decide) (by simp;omega),bs,List.nil_append] at h
   obtain ⟨R1,h1,h⟩:=ob h
   rw [h1,bs]
   obtain ⟨m1,h2,h⟩:=ob h
   rw [h2,bs]
   obtain ⟨i1,h3,h⟩:=ob h
   rw [h3,bs]
   have e1:=qr h2
   have e2:=sj h3
   have e3:=of_decide_eq_true hc
   exact ih m1 i1 s (by rw [e1,List.length_append,List.length_singleton];omega) (by omega) h
  ·rw [hc,cond_false]
   have e3:=of_decide_eq_false hc
   refine ⟨h,fun r e=>?_⟩
   cases h;cases e
   show (m.length:Int)=n
   omega
theorem wh (N:Nat) {xs:aX} (hl:xs.length≤1000) (hv:∀ i r,ix xs i=some r→VR N r):∀ (c i fuel:Nat),i+c=xs.length→c<fuel→fO N fuel xs (xs.length:Int) (i:Int)=some (.inr (xs.length:Int)):=by
 intro c
 induction c with
 | zero =>
  intro i fuel hi hf
  obtain ⟨fuel,rfl⟩:∃ k',fuel=k'+1:=⟨fuel-1,by omega⟩
  rw [fO,decide_eq_false (by omega),cond_false,show (i:Int)=(xs.length:Int) by omega]
 | succ c ih =>
  intro i fuel hi hf
  obtain ⟨fuel,rfl⟩:∃ k',fuel=k'+1:=⟨fuel-1,by omega⟩
  have e:=gk (r:=xs) (j:=i) (by omega)
  have h:ay N (aw xs i).1 (aw xs i).2=some true:=hv _ _ e
  rw [kC] at h
  rw [fO,decide_eq_true (by omega),cond_true,e,bs,h,bs,cond_true,bF (by omega) (by omega),bs]
  exact ih (i+1) fuel (by omega) (by omega)
theorem py (hN:1073741824≤N) {xs:aX} (hl:xs.length≤1000) (hv:∀ i r,ix xs i=some r→VR N r):dW N xs=some true:=by
 unfold dW
 have:=wh N hl hv xs.length 0 N (by omega) (by omega)
 rw [show ((0:Nat):Int)=0 from rfl] at this
 rw [this,bs];rfl
theorem s5 (hN:1073741824≤N) {A:bc} {b:aX} (h6:b.length≤6) (hl:A.length=b.length) (hA:∀ i R,ix A i=some R→R.length=b.length∧∀ j r,ix R j=some r→VR N r) (hb:∀ i r,ix b i=some r→VR N r) {s:aX × Bool} (h:bo N A b=some s):eS N A b=some s:=by
 unfold bo at h
 unfold eS
 rw [decide_eq_false (by omega),cond_false] at h ⊢
 have e:((A.length:Int) != (b.length:Int))=false:=by simp [hl]
 rw [e,cond_false,py hN (by omega) hb,bs,cond_true]
 obtain ⟨q,hq,h⟩:=ob h
 obtain ⟨q',hq',hqq⟩:=n6 hN (A:=A) (by omega) (c:=b.length) (by omega) b.length
 obtain rfl:q=q':=by rw [hq] at hq';exact Option.some.inj hq'
 have hqt:q=true:=hqq.2 ⟨fun i hi=>by
  have e1:=hA _ _ (ixM hi)
  exact ⟨e1.1,fun j hj=>by have:=e1.2 _ _ (gk (r:=aZ A i) (j:=j) (by omega));exact this⟩,hl⟩
 rw [hqt,cond_true] at h
 obtain ⟨s1,h1,h⟩:=ob h
 have g1:=wq hN (n:=(b.length:Int)) (A:=A) (b:=b) (fun i R hR=>by
  obtain ⟨e1,e2⟩:=hA i R hR
  exact ⟨by omega,by omega,py hN (by omega) e2⟩) hb (by omega) N [] 0 s1 rfl (by omega) h1
 rw [hl,g1.1,bs]
 cases s1 with
 | inl r=>exact h
 | inr r =>
  simp only [lpS] at h ⊢
  obtain ⟨s2,h2,h⟩:=ob h
  have hml:(r.1.length:Int)=(b.length:Int):=g1.2 r rfl
  rw [vg hN N r.1 0 s2 hml h2,bs]
  cases s2 with
  | inl r=>exact h
  | inr r =>
   simp only [lpS] at h ⊢
   rw [v6 hN]
   exact h
end
end Go.Proofs.YtijmbnbnojicjaaGreatDoor
