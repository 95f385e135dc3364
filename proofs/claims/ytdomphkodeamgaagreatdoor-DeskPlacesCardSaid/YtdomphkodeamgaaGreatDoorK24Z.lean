/- Calls of the program that were run by the runner, at the values and heaps that stand here. No conditions. -/
import Derived.Test.YtdomphkodeamgaaGreatDoorK24A
import Derived.Test.YtdomphkodeamgaaGreatDoorK24B
import Derived.Test.YtdomphkodeamgaaGreatDoorK24C
import Derived.Test.YtdomphkodeamgaaGreatDoorK24D
import Derived.Test.YtdomphkodeamgaaGreatDoorK24E
import Derived.Test.YtdomphkodeamgaaGreatDoorK24F
import Derived.Test.YtdomphkodeamgaaGreatDoorK24G
namespace Go.Proofs.YtdomphkodeamgaaGreatDoor
open Go Go.Vint
set_option maxRecDepth 1000000
theorem ok24_0 : ∀ k ∈ tab24_0, entryOk PP k := by intro k hk; cases hk
theorem known24_0 : k24_0.ok PP := knownH ok24_0 run24_0
theorem entry24_0 : entryOk PP (false, k24_0) := known24_0
theorem ok24_1 : ∀ k ∈ tab24_1, entryOk PP k := by
  intro k hk
  rcases List.mem_cons.1 hk with rfl | hk
  · exact entry24_0
  · exact ok24_0 k hk
theorem known24_1 : k24_1.ok PP := knownH ok24_1 run24_1
theorem entry24_1 : entryOk PP (true, k24_1) := fun h => pure_good known24_1 (by intro φ D; simp [fineL_iff, fineV, k24_1]) (by intro φ D; simp [fineV, fineL, k24_1])
theorem ok24_2 : ∀ k ∈ tab24_2, entryOk PP k := by
  intro k hk
  rcases List.mem_cons.1 hk with rfl | hk
  · exact entry24_1
  · exact ok24_1 k hk
theorem known24_2 : k24_2.ok PP := knownH ok24_2 run24_2
theorem entry24_2 : entryOk PP (true, k24_2) := fun h => pure_good known24_2 (by intro φ D; simp [fineL_iff, fineV, k24_2]) (by intro φ D; simp [fineV, fineL, k24_2])
theorem ok24_3 : ∀ k ∈ tab24_3, entryOk PP k := by
  intro k hk
  rcases List.mem_cons.1 hk with rfl | hk
  · exact entry24_2
  · exact ok24_2 k hk
theorem known24_3 : k24_3.ok PP := knownH ok24_3 run24_3
theorem entry24_3 : entryOk PP (true, k24_3) := fun h => pure_good known24_3 (by intro φ D; simp [fineL_iff, fineV, k24_3]) (by intro φ D; simp [fineV, fineL, k24_3])
theorem ok24_4 : ∀ k ∈ tab24_4, entryOk PP k := by
  intro k hk
  rcases List.mem_cons.1 hk with rfl | hk
  · exact entry24_3
  · exact ok24_3 k hk
theorem known24_4 : k24_4.ok PP := knownH ok24_4 run24_4
theorem entry24_4 : entryOk PP (false, k24_4) := known24_4
theorem ok24_5 : ∀ k ∈ tab24_5, entryOk PP k := by
  intro k hk
  rcases List.mem_cons.1 hk with rfl | hk
  · exact entry24_4
  · exact ok24_4 k hk
theorem known24_5 : k24_5.ok PP := knownH ok24_5 run24_5
theorem entry24_5 : entryOk PP (false, k24_5) := known24_5
theorem ok24_6 : ∀ k ∈ tab24_6, entryOk PP k := by
  intro k hk
  rcases List.mem_cons.1 hk with rfl | hk
  · exact entry24_5
  · exact ok24_5 k hk
theorem known24_6 : k24_6.ok PP := knownH ok24_6 run24_6
theorem entry24_6 : entryOk PP (false, k24_6) := known24_6
theorem ok24_7 : ∀ k ∈ tab24_7, entryOk PP k := by
  intro k hk
  rcases List.mem_cons.1 hk with rfl | hk
  · exact entry24_6
  · exact ok24_6 k hk
theorem known24_7 : k24_7.ok PP := knownH ok24_7 run24_7
theorem entry24_7 : entryOk PP (false, k24_7) := known24_7
theorem ok24_8 : ∀ k ∈ tab24_8, entryOk PP k := by
  intro k hk
  rcases List.mem_cons.1 hk with rfl | hk
  · exact entry24_7
  · exact ok24_7 k hk
theorem known24_8 : k24_8.ok PP := knownH ok24_8 run24_8
theorem entry24_8 : entryOk PP (false, k24_8) := known24_8
theorem ok24_9 : ∀ k ∈ tab24_9, entryOk PP k := by
  intro k hk
  rcases List.mem_cons.1 hk with rfl | hk
  · exact entry24_8
  · exact ok24_8 k hk
theorem known24_9 : k24_9.ok PP := knownH ok24_9 run24_9
theorem entry24_9 : entryOk PP (true, k24_9) := fun h => pure_good known24_9 (by intro φ D; simp [fineL_iff, fineV, k24_9]) (by intro φ D; simp [fineV, fineL, k24_9])
theorem ok24_10 : ∀ k ∈ tab24_10, entryOk PP k := by
  intro k hk
  rcases List.mem_cons.1 hk with rfl | hk
  · exact entry24_9
  · exact ok24_9 k hk
theorem known24_10 : k24_10.ok PP := knownH ok24_10 run24_10
theorem entry24_10 : entryOk PP (false, k24_10) := known24_10
theorem ok24_11 : ∀ k ∈ tab24_11, entryOk PP k := by
  intro k hk
  rcases List.mem_cons.1 hk with rfl | hk
  · exact entry24_10
  · exact ok24_10 k hk
theorem known24_11 : k24_11.ok PP := knownH ok24_11 run24_11
theorem entry24_11 : entryOk PP (false, k24_11) := known24_11
theorem ok24_12 : ∀ k ∈ tab24_12, entryOk PP k := by
  intro k hk
  rcases List.mem_cons.1 hk with rfl | hk
  · exact entry24_11
  · exact ok24_11 k hk
theorem known24_12 : k24_12.ok PP := knownH ok24_12 run24_12
theorem entry24_12 : entryOk PP (false, k24_12) := known24_12
theorem ok24_13 : ∀ k ∈ tab24_13, entryOk PP k := by
  intro k hk
  rcases List.mem_cons.1 hk with rfl | hk
  · exact entry24_12
  · exact ok24_12 k hk
theorem known24_13 : k24_13.ok PP := knownH ok24_13 run24_13
theorem entry24_13 : entryOk PP (false, k24_13) := known24_13
theorem ok24_14 : ∀ k ∈ tab24_14, entryOk PP k := by
  intro k hk
  rcases List.mem_cons.1 hk with rfl | hk
  · exact entry24_13
  · exact ok24_13 k hk
theorem known24_14 : k24_14.ok PP := knownH ok24_14 run24_14
theorem entry24_14 : entryOk PP (false, k24_14) := known24_14
theorem ok24_15 : ∀ k ∈ tab24_15, entryOk PP k := by
  intro k hk
  rcases List.mem_cons.1 hk with rfl | hk
  · exact entry24_14
  · exact ok24_14 k hk
theorem known24_15 : k24_15.ok PP := knownH ok24_15 run24_15
theorem entry24_15 : entryOk PP (false, k24_15) := known24_15
theorem ok24_16 : ∀ k ∈ tab24_16, entryOk PP k := by
  intro k hk
  rcases List.mem_cons.1 hk with rfl | hk
  · exact entry24_15
  · exact ok24_15 k hk
theorem known24_16 : k24_16.ok PP := knownH ok24_16 run24_16
theorem entry24_16 : entryOk PP (false, k24_16) := known24_16
theorem ok24_17 : ∀ k ∈ tab24_17, entryOk PP k := by
  intro k hk
  rcases List.mem_cons.1 hk with rfl | hk
  · exact entry24_16
  · exact ok24_16 k hk
theorem known24_17 : k24_17.ok PP := knownH ok24_17 run24_17
theorem entry24_17 : entryOk PP (false, k24_17) := known24_17
theorem ok24_18 : ∀ k ∈ tab24_18, entryOk PP k := by
  intro k hk
  rcases List.mem_cons.1 hk with rfl | hk
  · exact entry24_17
  · exact ok24_17 k hk
theorem known24_18 : k24_18.ok PP := knownH ok24_18 run24_18
theorem entry24_18 : entryOk PP (false, k24_18) := known24_18
theorem ok24_19 : ∀ k ∈ tab24_19, entryOk PP k := by
  intro k hk
  rcases List.mem_cons.1 hk with rfl | hk
  · exact entry24_18
  · exact ok24_18 k hk
theorem known24_19 : k24_19.ok PP := knownH ok24_19 run24_19
theorem entry24_19 : entryOk PP (false, k24_19) := known24_19
theorem ok24_20 : ∀ k ∈ tab24_20, entryOk PP k := by
  intro k hk
  rcases List.mem_cons.1 hk with rfl | hk
  · exact entry24_19
  · exact ok24_19 k hk
theorem known24_20 : k24_20.ok PP := knownH ok24_20 run24_20
theorem entry24_20 : entryOk PP (false, k24_20) := known24_20
theorem ok24_21 : ∀ k ∈ tab24_21, entryOk PP k := by
  intro k hk
  rcases List.mem_cons.1 hk with rfl | hk
  · exact entry24_20
  · exact ok24_20 k hk
theorem known24_21 : k24_21.ok PP := knownH ok24_21 run24_21
theorem entry24_21 : entryOk PP (false, k24_21) := known24_21
theorem ok24_22 : ∀ k ∈ tab24_22, entryOk PP k := by
  intro k hk
  rcases List.mem_cons.1 hk with rfl | hk
  · exact entry24_21
  · exact ok24_21 k hk
theorem known24_22 : k24_22.ok PP := knownH ok24_22 run24_22
theorem entry24_22 : entryOk PP (false, k24_22) := known24_22
theorem ok24_23 : ∀ k ∈ tab24_23, entryOk PP k := by
  intro k hk
  rcases List.mem_cons.1 hk with rfl | hk
  · exact entry24_22
  · exact ok24_22 k hk
theorem known24_23 : k24_23.ok PP := knownH ok24_23 run24_23
theorem entry24_23 : entryOk PP (false, k24_23) := known24_23
theorem ok24_24 : ∀ k ∈ tab24_24, entryOk PP k := by
  intro k hk
  rcases List.mem_cons.1 hk with rfl | hk
  · exact entry24_23
  · exact ok24_23 k hk
theorem known24_24 : k24_24.ok PP := knownH ok24_24 run24_24
theorem entry24_24 : entryOk PP (false, k24_24) := known24_24
theorem ok24_25 : ∀ k ∈ tab24_25, entryOk PP k := by
  intro k hk
  rcases List.mem_cons.1 hk with rfl | hk
  · exact entry24_24
  · exact ok24_24 k hk
theorem known24_25 : k24_25.ok PP := knownH ok24_25 run24_25
theorem entry24_25 : entryOk PP (false, k24_25) := known24_25
theorem ok24_26 : ∀ k ∈ tab24_26, entryOk PP k := by
  intro k hk
  rcases List.mem_cons.1 hk with rfl | hk
  · exact entry24_25
  · exact ok24_25 k hk
theorem known24_26 : k24_26.ok PP := knownH ok24_26 run24_26
theorem entry24_26 : entryOk PP (false, k24_26) := known24_26
theorem ok24_27 : ∀ k ∈ tab24_27, entryOk PP k := by
  intro k hk
  rcases List.mem_cons.1 hk with rfl | hk
  · exact entry24_26
  · exact ok24_26 k hk
theorem known24_27 : k24_27.ok PP := knownH ok24_27 run24_27
theorem entry24_27 : entryOk PP (false, k24_27) := known24_27
theorem ok24_28 : ∀ k ∈ tab24_28, entryOk PP k := by
  intro k hk
  rcases List.mem_cons.1 hk with rfl | hk
  · exact entry24_27
  · exact ok24_27 k hk
theorem known24_28 : k24_28.ok PP := knownH ok24_28 run24_28
theorem entry24_28 : entryOk PP (false, k24_28) := known24_28
theorem ok24_29 : ∀ k ∈ tab24_29, entryOk PP k := by
  intro k hk
  rcases List.mem_cons.1 hk with rfl | hk
  · exact entry24_28
  · exact ok24_28 k hk
theorem known24_29 : k24_29.ok PP := knownH ok24_29 run24_29
theorem entry24_29 : entryOk PP (false, k24_29) := known24_29
theorem ok24_30 : ∀ k ∈ tab24_30, entryOk PP k := by
  intro k hk
  rcases List.mem_cons.1 hk with rfl | hk
  · exact entry24_29
  · exact ok24_29 k hk
theorem known24_30 : k24_30.ok PP := knownH ok24_30 run24_30
theorem entry24_30 : entryOk PP (false, k24_30) := known24_30
theorem ok24_31 : ∀ k ∈ tab24_31, entryOk PP k := by
  intro k hk
  rcases List.mem_cons.1 hk with rfl | hk
  · exact entry24_30
  · exact ok24_30 k hk
theorem known24_31 : k24_31.ok PP := knownH ok24_31 run24_31
theorem entry24_31 : entryOk PP (false, k24_31) := known24_31
theorem ok24_32 : ∀ k ∈ tab24_32, entryOk PP k := by
  intro k hk
  rcases List.mem_cons.1 hk with rfl | hk
  · exact entry24_31
  · exact ok24_31 k hk
theorem known24_32 : k24_32.ok PP := knownH ok24_32 run24_32
theorem entry24_32 : entryOk PP (false, k24_32) := known24_32
theorem ok24_33 : ∀ k ∈ tab24_33, entryOk PP k := by
  intro k hk
  rcases List.mem_cons.1 hk with rfl | hk
  · exact entry24_32
  · exact ok24_32 k hk
theorem known24_33 : k24_33.ok PP := knownH ok24_33 run24_33
theorem entry24_33 : entryOk PP (false, k24_33) := known24_33
theorem ok24_34 : ∀ k ∈ tab24_34, entryOk PP k := by
  intro k hk
  rcases List.mem_cons.1 hk with rfl | hk
  · exact entry24_33
  · exact ok24_33 k hk
theorem known24_34 : k24_34.ok PP := knownH ok24_34 run24_34
theorem entry24_34 : entryOk PP (false, k24_34) := known24_34
theorem ok24_35 : ∀ k ∈ tab24_35, entryOk PP k := by
  intro k hk
  rcases List.mem_cons.1 hk with rfl | hk
  · exact entry24_34
  · exact ok24_34 k hk
theorem known24_35 : k24_35.ok PP := knownH ok24_35 run24_35
theorem entry24_35 : entryOk PP (false, k24_35) := known24_35
theorem ok24_36 : ∀ k ∈ tab24_36, entryOk PP k := by
  intro k hk
  rcases List.mem_cons.1 hk with rfl | hk
  · exact entry24_35
  · exact ok24_35 k hk
theorem known24_36 : k24_36.ok PP := knownH ok24_36 run24_36
theorem entry24_36 : entryOk PP (false, k24_36) := known24_36
theorem ok24_37 : ∀ k ∈ tab24_37, entryOk PP k := by
  intro k hk
  rcases List.mem_cons.1 hk with rfl | hk
  · exact entry24_36
  · exact ok24_36 k hk
theorem known24_37 : k24_37.ok PP := knownH ok24_37 run24_37
theorem entry24_37 : entryOk PP (false, k24_37) := known24_37
theorem ok24_38 : ∀ k ∈ tab24_38, entryOk PP k := by
  intro k hk
  rcases List.mem_cons.1 hk with rfl | hk
  · exact entry24_37
  · exact ok24_37 k hk
theorem known24_38 : k24_38.ok PP := knownH ok24_38 run24_38
theorem entry24_38 : entryOk PP (false, k24_38) := known24_38
theorem ok24_39 : ∀ k ∈ tab24_39, entryOk PP k := by
  intro k hk
  rcases List.mem_cons.1 hk with rfl | hk
  · exact entry24_38
  · exact ok24_38 k hk
theorem known24_39 : k24_39.ok PP := knownH ok24_39 run24_39
theorem entry24_39 : entryOk PP (false, k24_39) := known24_39
theorem ok24_40 : ∀ k ∈ tab24_40, entryOk PP k := by
  intro k hk
  rcases List.mem_cons.1 hk with rfl | hk
  · exact entry24_39
  · exact ok24_39 k hk
theorem known24_40 : k24_40.ok PP := knownH ok24_40 run24_40
theorem entry24_40 : entryOk PP (false, k24_40) := known24_40
theorem ok24_41 : ∀ k ∈ tab24_41, entryOk PP k := by
  intro k hk
  rcases List.mem_cons.1 hk with rfl | hk
  · exact entry24_40
  · exact ok24_40 k hk
theorem known24_41 : k24_41.ok PP := knownH ok24_41 run24_41
theorem entry24_41 : entryOk PP (false, k24_41) := known24_41
theorem ok24_42 : ∀ k ∈ tab24_42, entryOk PP k := by
  intro k hk
  rcases List.mem_cons.1 hk with rfl | hk
  · exact entry24_41
  · exact ok24_41 k hk
theorem known24_42 : k24_42.ok PP := knownH ok24_42 run24_42
theorem entry24_42 : entryOk PP (false, k24_42) := known24_42
theorem ok24_43 : ∀ k ∈ tab24_43, entryOk PP k := by
  intro k hk
  rcases List.mem_cons.1 hk with rfl | hk
  · exact entry24_42
  · exact ok24_42 k hk
theorem known24_43 : k24_43.ok PP := knownH ok24_43 run24_43
theorem entry24_43 : entryOk PP (false, k24_43) := known24_43
theorem ok24_44 : ∀ k ∈ tab24_44, entryOk PP k := by
  intro k hk
  rcases List.mem_cons.1 hk with rfl | hk
  · exact entry24_43
  · exact ok24_43 k hk
theorem known24_44 : k24_44.ok PP := knownH ok24_44 run24_44
theorem entry24_44 : entryOk PP (false, k24_44) := known24_44
theorem ok24_45 : ∀ k ∈ tab24_45, entryOk PP k := by
  intro k hk
  rcases List.mem_cons.1 hk with rfl | hk
  · exact entry24_44
  · exact ok24_44 k hk
theorem known24_45 : k24_45.ok PP := knownH ok24_45 run24_45
theorem entry24_45 : entryOk PP (false, k24_45) := known24_45
theorem ok24_46 : ∀ k ∈ tab24_46, entryOk PP k := by
  intro k hk
  rcases List.mem_cons.1 hk with rfl | hk
  · exact entry24_45
  · exact ok24_45 k hk
theorem known24_46 : k24_46.ok PP := knownH ok24_46 run24_46
theorem entry24_46 : entryOk PP (false, k24_46) := known24_46
theorem ok24_47 : ∀ k ∈ tab24_47, entryOk PP k := by
  intro k hk
  rcases List.mem_cons.1 hk with rfl | hk
  · exact entry24_46
  · exact ok24_46 k hk
theorem known24_47 : k24_47.ok PP := knownH ok24_47 run24_47
theorem entry24_47 : entryOk PP (false, k24_47) := known24_47
theorem ok24_48 : ∀ k ∈ tab24_48, entryOk PP k := by
  intro k hk
  rcases List.mem_cons.1 hk with rfl | hk
  · exact entry24_47
  · exact ok24_47 k hk
theorem known24_48 : k24_48.ok PP := knownH ok24_48 run24_48
theorem entry24_48 : entryOk PP (false, k24_48) := known24_48
theorem ok24_49 : ∀ k ∈ tab24_49, entryOk PP k := by
  intro k hk
  rcases List.mem_cons.1 hk with rfl | hk
  · exact entry24_48
  · exact ok24_48 k hk
theorem known24_49 : k24_49.ok PP := knownH ok24_49 run24_49
theorem entry24_49 : entryOk PP (false, k24_49) := known24_49
theorem ok24_50 : ∀ k ∈ tab24_50, entryOk PP k := by
  intro k hk
  rcases List.mem_cons.1 hk with rfl | hk
  · exact entry24_49
  · exact ok24_49 k hk
theorem known24_50 : k24_50.ok PP := knownH ok24_50 run24_50
theorem entry24_50 : entryOk PP (false, k24_50) := known24_50
theorem ok24_51 : ∀ k ∈ tab24_51, entryOk PP k := by
  intro k hk
  rcases List.mem_cons.1 hk with rfl | hk
  · exact entry24_50
  · exact ok24_50 k hk
theorem known24_51 : k24_51.ok PP := knownH ok24_51 run24_51
theorem entry24_51 : entryOk PP (false, k24_51) := known24_51
theorem ok24_52 : ∀ k ∈ tab24_52, entryOk PP k := by
  intro k hk
  rcases List.mem_cons.1 hk with rfl | hk
  · exact entry24_51
  · exact ok24_51 k hk
theorem known24_52 : k24_52.ok PP := knownH ok24_52 run24_52
theorem entry24_52 : entryOk PP (false, k24_52) := known24_52
theorem ok24_53 : ∀ k ∈ tab24_53, entryOk PP k := by
  intro k hk
  rcases List.mem_cons.1 hk with rfl | hk
  · exact entry24_52
  · exact ok24_52 k hk
theorem known24_53 : k24_53.ok PP := knownH ok24_53 run24_53
theorem entry24_53 : entryOk PP (false, k24_53) := known24_53
theorem ok24_54 : ∀ k ∈ tab24_54, entryOk PP k := by
  intro k hk
  rcases List.mem_cons.1 hk with rfl | hk
  · exact entry24_53
  · exact ok24_53 k hk
theorem known24_54 : k24_54.ok PP := knownH ok24_54 run24_54
theorem entry24_54 : entryOk PP (false, k24_54) := known24_54
theorem ok24_55 : ∀ k ∈ tab24_55, entryOk PP k := by
  intro k hk
  rcases List.mem_cons.1 hk with rfl | hk
  · exact entry24_54
  · exact ok24_54 k hk
theorem known24_55 : k24_55.ok PP := knownH ok24_55 run24_55
theorem entry24_55 : entryOk PP (false, k24_55) := known24_55
theorem ok24_56 : ∀ k ∈ tab24_56, entryOk PP k := by
  intro k hk
  rcases List.mem_cons.1 hk with rfl | hk
  · exact entry24_55
  · exact ok24_55 k hk
theorem known24_56 : k24_56.ok PP := knownH ok24_56 run24_56
theorem entry24_56 : entryOk PP (false, k24_56) := known24_56
theorem ok24_57 : ∀ k ∈ tab24_57, entryOk PP k := by
  intro k hk
  rcases List.mem_cons.1 hk with rfl | hk
  · exact entry24_56
  · exact ok24_56 k hk
theorem known24_57 : k24_57.ok PP := knownH ok24_57 run24_57
theorem entry24_57 : entryOk PP (false, k24_57) := known24_57
theorem ok24_58 : ∀ k ∈ tab24_58, entryOk PP k := by
  intro k hk
  rcases List.mem_cons.1 hk with rfl | hk
  · exact entry24_57
  · exact ok24_57 k hk
end Go.Proofs.YtdomphkodeamgaaGreatDoor
