/- A part of the seat's proofs over the abstract machine. No condition. -/
import Derived.Test.YtihifhoemfpalaaI15
import Derived.Test.YtihifhoemfpalaaMF
set_option linter.unusedVariables false
namespace Go.Proofs.Ytihifhoemfpalaa.M
open Go Go.Mini
def gIv (x : Iv) : Prop := GInt .i64 x.lo ∧ GInt .i64 x.hi
theorem intervalTwice_row (W : World) (a0 : List Iv) (a1 : Int) (g0 : GList gIv a0) (g1 : GInt .u8 a1) : FSpec Try.prog n_palinodelaw10_IntervalTwice [.fsl 2 (a0.map eIv), .int .u8 a1] (Heap.bare W (cellsOf W)) fun v s => v = .bool true ∧ s.W = W := by
  have h := gint_u8 g1
  have := twice_fspec W (cellsOf W) a0 a1.toNat (by omega)
  rw [Int.toNat_of_nonneg h.1] at this
  exact this
theorem intervalMoved_row (W : World) (a0 : List Iv) (a1 : Int) (g0 : GList gIv a0) (g1 : GInt .i16 a1) : FSpec Try.prog n_palinodelaw10_IntervalMoved [.fsl 2 (a0.map eIv), .int .i16 a1] (Heap.bare W (cellsOf W)) fun v s => v = .bool true ∧ s.W = W :=
  moved_fspec W (cellsOf W) a0 a1 (gint_i16 g1).1 (gint_i16 g1).2
theorem intervalMerges_row (W : World) (a0 : List Iv) (g0 : GList gIv a0) : FSpec Try.prog n_palinodelaw10_IntervalMerges [.fsl 2 (a0.map eIv)] (Heap.bare W (cellsOf W)) fun v s => v = .bool true ∧ s.W = W :=
  merges_fspec W (cellsOf W) a0
end Go.Proofs.Ytihifhoemfpalaa.M
