/- What ref28.set does at any text: what Gl says. Conditions: as the theorems state them. -/
import Derived.Test.YtefomcoimbnalaaDoorGlR
namespace Go.Proofs.YtefomcoimbnalaaDoor.Gw
open Go Go.RowKit Go.Gl
set_option maxRecDepth 100000
set_option maxHeartbeats 16000000
theorem set_c (s : ByteArray) (hz : ¬ 0 < s.size) (w : World) : Calls Tryd.prog 14 #[.string s] w fun e w' => e = .returned (.agg (pcells false fun _ => false)) ∧ Below w.heap.size w w' := by
  have PF := Aside0.mk (Pt.first w)
  have d0 : decide ((s.size : Int) > 0) = false := decide_eq_false (by omega)
  have d1 : decide ((0 : Int) < (s.size : Int)) = false := decide_eq_false (by omega)
  go_enter Tryd.func14, Tryd.ntmps14
  go_wp2
  go_loopg [5] 1 (fun kq v5 wx => v5 = .int .i64 0 ∧ Aside0 (Pt w (fun _ => false) wx))
  case atStart => exact ⟨rfl, PF⟩
  case round =>
    obtain ⟨rfl, HQ0⟩ := hrel
    go_wp2
    go_loopg [9] 1 (fun kq v9 ux => v9 = .int .i64 0 ∧ Aside0 (Pt w (fun _ => false) ux))
    case atStart => exact ⟨rfl, HQ0⟩
    case round =>
      obtain ⟨rfl, HQ⟩ := hrel
      clear HQ0
      go_wp2_with (first
        | (refine wpList_load_row rfl 36 _ rfl (w.heap.size + 1) rfl _ _ (0, 0) _ HQ.out.part Tryd.underlying36 rfl (info_cells _ _) ?_)
        | (refine wpList_store_row rfl 36 _ _ rfl w.heap.size _ rfl rfl _ _ HQ.out.res (info_cells _ _) (by rw [pcells_size]; exact zero_size) (pcells_one _ _) ?_))
      refine bodyPost_ret (results_cell_row rfl _ _ w.heap.size _ _ (0, 0) _ rfl (setRow_heap _ _ _ _ _ _ HQ.out.res) Tryd.underlying36 rfl (info_cells _ _)) rfl ?_
      exact ⟨rfl, below_setRow HQ.out.bel (Nat.le_refl _) _⟩
end Go.Proofs.YtefomcoimbnalaaDoor.Gw
