/- A part of the seat's proofs over the abstract machine. No condition. -/
import Derived.Test.YtihifhoemfpalaaF1
import Derived.Test.YtihifhoemfpalaaF2
import Derived.Test.YtihifhoemfpalaaF0
import Derived.Test.YtihifhoemfpalaaME
namespace Go.Proofs.Ytihifhoemfpalaa.M
open Go Go.Mini
theorem mixed : Try.prog.follows .mixedOrders = true := by kernel_rfl
def tbl : List (Nat × SFunc) := [(2, f2), (3, f3), (4, f4), (5, f5), (7, f7), (8, f8), (9, f9), (10, f10), (11, f11), (12, f12), (13, f13), (14, f14), (15, f15), (16, f16), (17, f17), (18, f18), (19, f19), (20, f20), (21, f21), (22, f22), (23, f23), (24, f24), (25, f25), (26, f26), (27, f27), (28, f28), (29, f29), (30, f30), (31, f31), (32, f32), (33, f33), (34, f34), (35, f35), (36, f36), (37, f37), (38, f38), (39, f39), (40, f40), (41, f41)]
theorem tbl_ok : TblOk Try.prog tbl := List.forall_mem_cons.2 ⟨c2, List.forall_mem_cons.2 ⟨c3, List.forall_mem_cons.2 ⟨c4, List.forall_mem_cons.2 ⟨c5, List.forall_mem_cons.2 ⟨c7, List.forall_mem_cons.2 ⟨c8, List.forall_mem_cons.2 ⟨c9, List.forall_mem_cons.2 ⟨c10, List.forall_mem_cons.2 ⟨c11, List.forall_mem_cons.2 ⟨c12, List.forall_mem_cons.2 ⟨c13, List.forall_mem_cons.2 ⟨c14, List.forall_mem_cons.2 ⟨c15, List.forall_mem_cons.2 ⟨c16, List.forall_mem_cons.2 ⟨c17, List.forall_mem_cons.2 ⟨c18, List.forall_mem_cons.2 ⟨c19, List.forall_mem_cons.2 ⟨c20, List.forall_mem_cons.2 ⟨c21, List.forall_mem_cons.2 ⟨c22, List.forall_mem_cons.2 ⟨c23, List.forall_mem_cons.2 ⟨c24, List.forall_mem_cons.2 ⟨c25, List.forall_mem_cons.2 ⟨c26, List.forall_mem_cons.2 ⟨c27, List.forall_mem_cons.2 ⟨c28, List.forall_mem_cons.2 ⟨c29, List.forall_mem_cons.2 ⟨c30, List.forall_mem_cons.2 ⟨c31, List.forall_mem_cons.2 ⟨c32, List.forall_mem_cons.2 ⟨c33, List.forall_mem_cons.2 ⟨c34, List.forall_mem_cons.2 ⟨c35, List.forall_mem_cons.2 ⟨c36, List.forall_mem_cons.2 ⟨c37, List.forall_mem_cons.2 ⟨c38, List.forall_mem_cons.2 ⟨c39, List.forall_mem_cons.2 ⟨c40, List.forall_mem_cons.2 ⟨c41, fun _ h => nomatch h⟩⟩⟩⟩⟩⟩⟩⟩⟩⟩⟩⟩⟩⟩⟩⟩⟩⟩⟩⟩⟩⟩⟩⟩⟩⟩⟩⟩⟩⟩⟩⟩⟩⟩⟩⟩⟩⟩⟩
theorem known_ran : ∀ W, (callC tbl 100 30 8 [] (Heap.bare W)).map (fun p => (p.1, p.2.W)) = some (.bool true, W) := by
  intro W
  kernel_rfl
theorem known_call (σ : Heap) : ACall Try.prog 8 [] σ (.bool true) σ := acall_ran mixed tbl_ok rfl rfl known_ran σ
end Go.Proofs.Ytihifhoemfpalaa.M
