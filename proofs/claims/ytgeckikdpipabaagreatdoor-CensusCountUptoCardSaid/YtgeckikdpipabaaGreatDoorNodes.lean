/- Nodes: how many directories, files and bytes there are, by definition. Plain: no program. Conditions: as the theorems state them. -/
import Derived.RowKit
import Derived.KernelRfl
import Derived.Laws.Sem
namespace Go.Cns
open Go Go.RowKit
structure Nd where
  id : Int
  kind : Int
  links : Int
  data : ByteArray
  nA : Option Addr
  nl : Nat
  nc : Nat
instance : Inhabited Nd := ⟨⟨0, 0, 0, ByteArray.empty, none, 0, 0⟩⟩
/-- a node's cells -/
def Nd.cells (n : Nd) : List Value := [.int .i64 n.id, .int .i64 n.kind, .int .i64 n.links, .string n.data, .slice n.nA n.nl n.nc]
/-- nodes in a row of cells -/
def NRow (w : World) (A : Option Addr) (L : List Nd) : Prop := ∀ (j : Nat) (x : Nd), L[j]? = some x → ∃ b o : Nat, A = some ⟨b, o, none⟩ ∧ ∀ (i : Nat) (u : Value), x.cells[i]? = some u → w.cell? ⟨b, o + j * 5 + i, none⟩ = some u
def tally (z : Int × Int × Int) (n : Nd) : Int × Int × Int :=
  if n.kind = 2 then (wrap64 (z.1 + 1), z.2.1, z.2.2) else if n.kind = 1 then (z.1, wrap64 (z.2.1 + 1), wrap64 (z.2.2 + n.data.size)) else z
def tot (l : List Nd) (z : Int × Int × Int) : Int × Int × Int := l.foldl tally z
def dirs (l : List Nd) : Int := (l.countP fun n => n.kind = 2 : Nat)
def files (l : List Nd) : Int := (l.countP fun n => n.kind = 1 : Nat)
def size : List Nd → Int
  | [] => 0
  | n :: l => (if n.kind = 1 then (n.data.size : Int) else 0) + size l
theorem wrap_add (a b : Int) : wrap64 (wrap64 a + b) = wrap64 (a + b) := by
  simp only [wrap64]; omega
theorem wrap_add2 (a b : Int) : wrap64 (wrap64 a + wrap64 b) = wrap64 (a + b) := by
  simp only [wrap64]; omega
theorem tot_eq : ∀ (l : List Nd) (a b c : Int), tot l (wrap64 a, wrap64 b, wrap64 c) = (wrap64 (a + dirs l), wrap64 (b + files l), wrap64 (c + size l))
  | [], a, b, c => by simp [tot, dirs, files, size]
  | n :: l, a, b, c => by
    show tot l (tally (wrap64 a, wrap64 b, wrap64 c) n) = _
    by_cases h2 : n.kind = 2
    · have e : tally (wrap64 a, wrap64 b, wrap64 c) n = (wrap64 (a + 1), wrap64 b, wrap64 c) := by simp [tally, h2, wrap_add]
      rw [e, tot_eq l]
      simp only [dirs, files, size, List.countP_cons, h2]
      simp
      exact congrArg wrap64 (by omega)
    · by_cases h1 : n.kind = 1
      · have e : tally (wrap64 a, wrap64 b, wrap64 c) n = (wrap64 a, wrap64 (b + 1), wrap64 (c + n.data.size)) := by simp [tally, h1, wrap_add]
        rw [e, tot_eq l]
        simp only [dirs, files, size, List.countP_cons, h1]
        simp
        exact ⟨congrArg wrap64 (by omega), congrArg wrap64 (by omega)⟩
      · have e : tally (wrap64 a, wrap64 b, wrap64 c) n = (wrap64 a, wrap64 b, wrap64 c) := by simp [tally, h1, h2]
        rw [e, tot_eq l]
        simp only [dirs, files, size, List.countP_cons, h1, h2]
        simp
theorem tot0 (l : List Nd) : tot l (0, 0, 0) = (wrap64 (dirs l), wrap64 (files l), wrap64 (size l)) := by
  have := tot_eq l 0 0 0
  rw [show wrap64 0 = 0 from rfl] at this
  simpa using this
theorem size_append (l m : List Nd) : size (l ++ m) = size l + size m := by
  induction l with
  | nil => simp [size]
  | cons n l ih => simp only [List.cons_append, size, ih]; omega
theorem tot_append (l m : List Nd) : tot (l ++ m) (0, 0, 0) = (wrap64 ((tot l (0, 0, 0)).1 + (tot m (0, 0, 0)).1), wrap64 ((tot l (0, 0, 0)).2.1 + (tot m (0, 0, 0)).2.1), wrap64 ((tot l (0, 0, 0)).2.2 + (tot m (0, 0, 0)).2.2)) := by
  rw [tot0, tot0, tot0]
  simp only [wrap_add2, dirs, files, List.countP_append, size_append, Int.natCast_add]
end Go.Cns
