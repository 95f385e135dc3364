/- That the law's 'lives' comes to true was run, call by call; the law CensusCount, walked. Conditions: the rows of nodes are short (at most 1048576 nodes). -/
import Derived.Test.YtgeckikdpipabaaGreatDoorK24Z
import Derived.Test.YtgeckikdpipabaaGreatDoorCountLaw
namespace Go.Proofs.YtgeckikdpipabaaGreatDoor
open Go Go.Vint Go.RowKit
set_option maxRecDepth 1000000
namespace Count
theorem lives_calls (W : World) : Calls Tryz.prog 4 #[] W fun e W' => e = .returned (.bool true) ∧ Below W.heap.size W W' := by
  have e : truthK (envH 70368782454720 tab24_11) 1000000 4 [] ⟨.e, 0⟩ = true := by kernel_rfl
  have h := truth_calls (φ := ⟨fun _ => 0, fun _ => 0, fun _ => 0⟩) (w := W) (envH_ok true _ _ ok24_11) mixedH (by decide) e (by simp [fineL])
  simpa only [concL, conc] using h
theorem CensusCount_walk (A : Option Addr) (c : Nat) (L : List Cns.Nd) (B : Option Addr) (d : Nat) (M : List Cns.Nd) (w : World) (hA : A = none → c = 0 ∧ L = []) (hB : B = none → d = 0 ∧ M = []) (hl : L.length ≤ 1048576) (hm : M.length ≤ 1048576) (ra : Cns.NRow w A L) (rb : Cns.NRow w B M) :
    Calls Tryz.prog 3 #[.slice A L.length c, .slice B M.length d] w fun e w' => e = .returned (.bool true) ∧ Below w.heap.size w w' := law_walk lives_calls A c L B d M w hA hB hl hm ra rb
end Count
end Go.Proofs.YtgeckikdpipabaaGreatDoor
