/- The worlds behind a Take. -/
import Derived.Test.YtojgpgjmcamfoaaSam3
namespace Go.Proofs.Ytojgpgjmcamfoaa
open Go.RowKit Go.Lib
theorem take_clear {T : TypeId} {w w3 : World} {b : Nat} {s : SA} (P : Put w w3 b T (sam s)) : Put w (World.setCell (World.setCell (World.setCell (World.setCell (World.setCell (World.setCell (World.setCell w3 ⟨b, 4, none⟩ (.bool false)) ⟨b, 5, none⟩ (.int .u64 0)) ⟨b, 6, none⟩ (.int .u64 0)) ⟨b, 7, none⟩ (.int .u64 0)) ⟨b, 8, none⟩ (.bool false)) ⟨b, 9, none⟩ (.int .u64 0)) ⟨b, 10, none⟩ (.int .u64 0)) b T (sam (takeF s)) := by
  have h := (((((((P.s 4 (.bool false)).s 5 (.int .u64 0)).s 6 (.int .u64 0)).s 7 (.int .u64 0)).s 8 (.bool false)).s 9 (.int .u64 0)).s 10 (.int .u64 0))
  simp only [sam, takeF, List.setIfInBounds_toArray, List.set_cons_zero, List.set_cons_succ] at h ⊢
  exact h
theorem take_fill {T : TypeId} {w3 : World} {n : Nat} {y x : SM} (Z : At w3 n T (cellsM y)) : Put w3 (World.setCell (World.setCell (World.setCell (World.setCell (World.setCell (World.setCell (World.setCell (World.setCell (World.setCell w3 ⟨n, 0, none⟩ (.int .u64 x.now)) ⟨n, 1, none⟩ (.int .u64 x.delivered)) ⟨n, 2, none⟩ (.int .u64 x.prior)) ⟨n, 3, none⟩ (.int .u64 x.interval)) ⟨n, 4, none⟩ (.int .u64 x.rtt)) ⟨n, 5, none⟩ (.int .u64 x.acked)) ⟨n, 6, none⟩ (.int .u64 x.lost)) ⟨n, 7, none⟩ (.int .u64 x.flight)) ⟨n, 8, none⟩ (.bool x.limited)) n T (cellsM x) := by
  have h := ((((((((((Put.same Z).s 0 (.int .u64 x.now)).s 1 (.int .u64 x.delivered)).s 2 (.int .u64 x.prior)).s 3 (.int .u64 x.interval)).s 4 (.int .u64 x.rtt)).s 5 (.int .u64 x.acked)).s 6 (.int .u64 x.lost)).s 7 (.int .u64 x.flight)).s 8 (.bool x.limited))
  simp only [cellsM, List.setIfInBounds_toArray, List.set_cons_zero, List.set_cons_succ] at h ⊢
  exact h
end Go.Proofs.Ytojgpgjmcamfoaa
