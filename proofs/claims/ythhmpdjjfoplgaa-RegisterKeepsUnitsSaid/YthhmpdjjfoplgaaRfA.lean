/- The register of the first example: law25.example, walked. -/
import Derived.Test.YthhmpdjjfoplgaaRegZ
import Derived.Test.YthhmpdjjfoplgaaRegT
set_option linter.unusedVariables false
set_option linter.unusedSimpArgs false
namespace Go.Proofs.Ythhmpdjjfoplgaa
open Go.RowKit Reg Go.Maps

def sBank : ByteArray := ⟨#[98, 97, 110, 107]⟩
def sAnn : ByteArray := ⟨#[97, 110, 110]⟩
def sBob : ByteArray := ⟨#[98, 111, 98]⟩
def sSmith : ByteArray := ⟨#[115, 109, 105, 116, 104]⟩
def exL : List Lot := [⟨⟨#[]⟩, sSmith, 0, 4⟩, ⟨sBank, sAnn, 3, 5⟩, ⟨sBank, sAnn, 7, 9⟩, ⟨sBank, sBob, 3, 1⟩]
theorem ex_check : checkB exL = true := by decide +kernel
theorem ex_redE : redE exL sBank sAnn 6 = 0 := by decide +kernel
def exLeft : List Lot := [⟨⟨#[]⟩, sSmith, 0, 4⟩, ⟨sBank, sAnn, 7, 8⟩, ⟨sBank, sBob, 3, 1⟩]
def exTaken : List Lot := [⟨sBank, sAnn, 3, 5⟩, ⟨sBank, sAnn, 7, 1⟩]
theorem ex_redL : redL exL sBank sAnn 6 = (exLeft, exTaken) := by
  unfold redL
  rw [ex_redE, if_pos rfl]
  kernel_rfl
theorem lots_new (W : World) (l : List Lot) (t : TypeId) (n : Nat) (hn : n = l.length) (h1 : l.length ≤ 1000) : LotsAt (W.alloc (.cells (cellsL l).toArray t)) (.slice (some ⟨W.heap.size, 0, none⟩) n n) l := by
  subst hn
  refine ⟨cellsL_len l, small_maxLen (by omega), some ⟨W.heap.size, 0, none⟩, l.length, rfl, fun _ => ⟨W.heap.size, 0, rfl, fun j u hj => ?_⟩⟩
  have := cells_new W (cellsL l) t j u hj
  rwa [add_lit] at this

set_option maxRecDepth 100000 in
set_option maxHeartbeats 2000000 in
theorem example_any (w : World) :
    Calls Try.prog 35 #[] w fun e w' => ∃ v, e = .returned (.agg #[v]) ∧ LotsAt w' v exL ∧ Below w.heap.size w w' := by
  go_enter Try.func35, Try.ntmps35
  go_wp2
  obtain ⟨W, hW⟩ : ∃ W : World, W = ((w.alloc (.cells #[.slice (some ⟨w.heap.size + 1 + 1, 0, none⟩) 4 4] 24)).alloc (.cells #[.string ⟨#[98, 97, 110, 107]⟩, .string ⟨#[97, 110, 110]⟩] 26)) := ⟨_, rfl⟩
  have hc : W.cell? ⟨w.heap.size, 0, none⟩ = some (.slice (some ⟨w.heap.size + 1 + 1, 0, none⟩) 4 4) := by rw [hW]; go_cell
  have hb : Below w.heap.size w W := by rw [hW]; exact ((Below.refl _ _).alloc (Nat.le_refl _) _).alloc (by simp) _
  have hs : W.heap.size = w.heap.size + 1 + 1 := by rw [hW]; simp
  rw [← hW]
  have hc2 := cell_alloc hc (.cells (cellsL exL).toArray 41)
  refine bodyPost_ret (v := .agg #[.slice (some ⟨w.heap.size + 1 + 1, 0, none⟩) 4 4]) (by simp only [cellsL, exL, List.flatMap_cons, List.flatMap_nil, Lot.cells, sBank, sAnn, sBob, sSmith, List.cons_append, List.nil_append, List.append_nil] at hc2; simp [results, Try.results35, go_sem, hc2, regV]) rfl ?_
  refine ⟨_, rfl, ?_, hb.alloc hb.size _⟩
  have := lots_new W exL 41 4 rfl (by decide)
  rw [hs] at this
  exact this
end Go.Proofs.Ythhmpdjjfoplgaa
