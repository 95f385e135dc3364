/- Calls of the program that were run by the runner, at the values and heaps that stand here. No conditions. -/
import Derived.Test.YtgeckikdpipabaaGreatDoorK24A
import Derived.Test.YtgeckikdpipabaaGreatDoorK24B
namespace Go.Proofs.YtgeckikdpipabaaGreatDoor
open Go Go.Vint
set_option maxRecDepth 1000000
theorem ok24_0 : ∀ k ∈ tab24_0, entryOk PP k := by intro k hk; cases hk
theorem known24_0 : k24_0.ok PP := knownH ok24_0 run24_0
theorem entry24_0 : entryOk PP (false, k24_0) := known24_0
theorem ok24_1 : ∀ k ∈ tab24_1, entryOk PP k := by
  intro k hk
  rcases List.mem_cons.1 hk with rfl | hk
  · exact entry24_0
  · exact ok24_0 k hk
theorem known24_1 : k24_1.ok PP := knownH ok24_1 run24_1
theorem entry24_1 : entryOk PP (false, k24_1) := known24_1
theorem ok24_2 : ∀ k ∈ tab24_2, entryOk PP k := by
  intro k hk
  rcases List.mem_cons.1 hk with rfl | hk
  · exact entry24_1
  · exact ok24_1 k hk
theorem known24_2 : k24_2.ok PP := knownH ok24_2 run24_2
theorem entry24_2 : entryOk PP (true, k24_2) := fun h => pure_good known24_2 (by intro φ D; simp [fineL_iff, fineV, k24_2]) (by intro φ D; simp [fineV, fineL, k24_2])
theorem ok24_3 : ∀ k ∈ tab24_3, entryOk PP k := by
  intro k hk
  rcases List.mem_cons.1 hk with rfl | hk
  · exact entry24_2
  · exact ok24_2 k hk
theorem known24_3 : k24_3.ok PP := knownH ok24_3 run24_3
theorem entry24_3 : entryOk PP (true, k24_3) := fun h => pure_good known24_3 (by intro φ D; simp [fineL_iff, fineV, k24_3]) (by intro φ D; simp [fineV, fineL, k24_3])
theorem ok24_4 : ∀ k ∈ tab24_4, entryOk PP k := by
  intro k hk
  rcases List.mem_cons.1 hk with rfl | hk
  · exact entry24_3
  · exact ok24_3 k hk
theorem known24_4 : k24_4.ok PP := knownH ok24_4 run24_4
theorem entry24_4 : entryOk PP (true, k24_4) := fun h => pure_good known24_4 (by intro φ D; simp [fineL_iff, fineV, k24_4]) (by intro φ D; simp [fineV, fineL, k24_4])
theorem ok24_5 : ∀ k ∈ tab24_5, entryOk PP k := by
  intro k hk
  rcases List.mem_cons.1 hk with rfl | hk
  · exact entry24_4
  · exact ok24_4 k hk
theorem known24_5 : k24_5.ok PP := knownH ok24_5 run24_5
theorem entry24_5 : entryOk PP (false, k24_5) := known24_5
theorem ok24_6 : ∀ k ∈ tab24_6, entryOk PP k := by
  intro k hk
  rcases List.mem_cons.1 hk with rfl | hk
  · exact entry24_5
  · exact ok24_5 k hk
theorem known24_6 : k24_6.ok PP := knownH ok24_6 run24_6
theorem entry24_6 : entryOk PP (false, k24_6) := known24_6
theorem ok24_7 : ∀ k ∈ tab24_7, entryOk PP k := by
  intro k hk
  rcases List.mem_cons.1 hk with rfl | hk
  · exact entry24_6
  · exact ok24_6 k hk
theorem known24_7 : k24_7.ok PP := knownH ok24_7 run24_7
theorem entry24_7 : entryOk PP (false, k24_7) := known24_7
theorem ok24_8 : ∀ k ∈ tab24_8, entryOk PP k := by
  intro k hk
  rcases List.mem_cons.1 hk with rfl | hk
  · exact entry24_7
  · exact ok24_7 k hk
theorem known24_8 : k24_8.ok PP := knownH ok24_8 run24_8
theorem entry24_8 : entryOk PP (false, k24_8) := known24_8
theorem ok24_9 : ∀ k ∈ tab24_9, entryOk PP k := by
  intro k hk
  rcases List.mem_cons.1 hk with rfl | hk
  · exact entry24_8
  · exact ok24_8 k hk
theorem known24_9 : k24_9.ok PP := knownH ok24_9 run24_9
theorem entry24_9 : entryOk PP (false, k24_9) := known24_9
theorem ok24_10 : ∀ k ∈ tab24_10, entryOk PP k := by
  intro k hk
  rcases List.mem_cons.1 hk with rfl | hk
  · exact entry24_9
  · exact ok24_9 k hk
theorem known24_10 : k24_10.ok PP := knownH ok24_10 run24_10
theorem entry24_10 : entryOk PP (false, k24_10) := known24_10
theorem ok24_11 : ∀ k ∈ tab24_11, entryOk PP k := by
  intro k hk
  rcases List.mem_cons.1 hk with rfl | hk
  · exact entry24_10
  · exact ok24_10 k hk
theorem known24_11 : k24_11.ok PP := knownH ok24_11 run24_11
theorem entry24_11 : entryOk PP (false, k24_11) := known24_11
theorem ok24_12 : ∀ k ∈ tab24_12, entryOk PP k := by
  intro k hk
  rcases List.mem_cons.1 hk with rfl | hk
  · exact entry24_11
  · exact ok24_11 k hk
end Go.Proofs.YtgeckikdpipabaaGreatDoor
