/- fundadminscene: accounts and units, walked. -/
import Derived.Test.YthhmpdjjfoplgaaScA
import Derived.BigQuiet
set_option linter.unusedVariables false
set_option linter.unusedSimpArgs false
namespace Go.Proofs.Ythhmpdjjfoplgaa
open Go.RowKit Reg

namespace Reg
def scJones : ByteArray := ⟨#[106, 111, 110, 101, 115]⟩
def scSmith : ByteArray := ⟨#[115, 109, 105, 116, 104]⟩
def scBank : ByteArray := ⟨#[98, 97, 110, 107]⟩
def scAnn : ByteArray := ⟨#[97, 110, 110]⟩
def scBob : ByteArray := ⟨#[98, 111, 98]⟩
/-- the six accounts of a scene -/
def accs : List (ByteArray × ByteArray) := [(⟨#[]⟩, scSmith), (⟨#[]⟩, scJones), (scBank, scAnn), (scBank, scBob), (⟨#[]⟩, scAnn), (⟨#[]⟩, scBank)]
def accCells (l : List (ByteArray × ByteArray)) : List Value := l.flatMap fun x => [.string x.1, .string x.2]
theorem accCells_get (l : List (ByteArray × ByteArray)) (i : Nat) (t : ByteArray × ByteArray) (h : l[i]? = some t) : (accCells l)[i * 2]? = some (.string t.1) ∧ (accCells l)[i * 2 + 1]? = some (.string t.2) := by
  induction l generalizing i with
  | nil => simp at h
  | cons a l ih =>
    cases i with
    | zero => simp at h; subst h; simp [accCells]
    | succ i =>
      have := ih i (by simpa using h)
      simp only [accCells, List.flatMap_cons, List.cons_append, List.nil_append] at this ⊢
      rw [show (i + 1) * 2 + 1 = (i * 2 + 1) + 1 + 1 by omega, show (i + 1) * 2 = (i * 2) + 1 + 1 by omega]
      simpa using this
theorem accs_ok : ∀ x ∈ accs, acctB x.1 x.2 = true := by decide +kernel
end Reg
theorem addLit0 (b o j : Nat) : (⟨b, o, none⟩ : Addr).add j = ⟨b, o + j, none⟩ := by unfold Addr.add; split <;> simp_all
theorem froz_two (w : World) (o o2 : Obj) (j : Nat) : ((w.alloc o).alloc o2).frozen? ⟨w.heap.size, j, none⟩ = (w.alloc o).frozen? ⟨w.heap.size, j, none⟩ := World.frozen?_of_block (Below.heap_alloc _ _ _ (by simp))
set_option maxRecDepth 100000 in
set_option maxHeartbeats 2000000 in
theorem account_any (bt : Nat) (w : World) (ht : IsTp w bt) :
    Calls Try.prog 16 #[.pointer (some ⟨bt, 0, none⟩)] w fun e w' => ∃ x, x ∈ accs ∧ e = .returned (.agg #[.string x.1, .string x.2]) ∧ Drew w bt w' := by
  have hbt := ht.lt
  have HT := Lib.hid ht
  go_enter Try.func16, Try.ntmps16
  go_wp2_with fail
  refine (next_any bt 6 _ (HT.out.below ?hb) (by omega) (by omega)).mono ?_
  case hb => exact ((Below.refl _ _).alloc (Nat.le_refl _) _).alloc (by simp) _
  rintro e w1 ⟨v, rfl, hv0, hv1, hd⟩
  obtain ⟨k, rfl⟩ : ∃ k : Nat, v = k := ⟨v.toNat, by omega⟩
  have hlt : k < accs.length := by show k < 6; omega
  obtain ⟨x, hx⟩ : ∃ x, accs[k]? = some x := ⟨accs[k], by simp [hlt]⟩
  obtain ⟨g0, g1⟩ := accCells_get accs k x hx
  have c0 : w1.cell? ⟨w.heap.size + 1, k * 2, none⟩ = some (.string x.1) := hd.cell (by have := cells_new (w.alloc (.cells #[.string ⟨#[]⟩, .string ⟨#[]⟩] 26)) (accCells accs) 26 _ _ g0; rwa [addLit0, World.size_alloc, Nat.zero_add] at this) (by simp; omega)
  have c1 : w1.cell? ⟨w.heap.size + 1, k * 2 + 1, none⟩ = some (.string x.2) := hd.cell (by have := cells_new (w.alloc (.cells #[.string ⟨#[]⟩, .string ⟨#[]⟩] 26)) (accCells accs) 26 _ _ g1; rwa [addLit0, World.size_alloc, Nat.zero_add] at this) (by simp; omega)
  have r0 : w1.cell? ⟨w.heap.size, 0, none⟩ = some (.string ⟨#[]⟩) := hd.cell (by go_cell) (by simp; omega)
  have r1 : w1.cell? ⟨w.heap.size, 1, none⟩ = some (.string ⟨#[]⟩) := hd.cell (by go_cell) (by simp; omega)
  have z0 : w1.frozen? ⟨w.heap.size, 0, none⟩ = false := by rw [hd.frozen (by simp; omega) (by simp; omega)]; rw [froz_two]; simp
  have z1 : w1.frozen? ⟨w.heap.size, 1, none⟩ = false := by rw [hd.frozen (by simp; omega) (by simp; omega)]; rw [froz_two]; simp
  have HX := Lib.hid (List.mem_of_getElem? hx)
  have HD := Lib.hid hd
  clear hx hd g0 g1
  go_wp2
  refine bodyPost_ret (v := .agg #[.string x.1, .string x.2]) (by simp [results, Try.results16, go_sem, r0, r1]) rfl ⟨x, HX.out, rfl, ?_⟩
  exact ((((Drew.refl HT.out).alloc _).alloc _).trans HD.out |>.setCell hbt _ _ (Nat.le_refl _)).setCell hbt _ _ (Nat.le_refl _)

theorem ints_at (w : World) (l : List Int) (t : TypeId) (g : Nat) (hg : g = w.heap.size) : ∀ j u, l[j]? = some u → (w.alloc (.cells (l.map (Value.int .i64)).toArray t)).cell? ⟨g, j, none⟩ = some (.int .i64 u) := by
  intro j u hu
  have := cells_new w (l.map (Value.int .i64)) t j (.int .i64 u) (by simp [hu])
  rwa [addLit0, Nat.zero_add, ← hg] at this
set_option maxRecDepth 100000 in
set_option maxHeartbeats 2000000 in
theorem units_any (bt : Nat) (w : World) (ht : IsTp w bt) :
    Calls Try.prog 26 #[.pointer (some ⟨bt, 0, none⟩)] w fun e w' => ∃ u : Int, e = .returned (.int .i64 u) ∧ 1 ≤ u ∧ u ≤ 1000000 ∧ Drew w bt w' := by
  have hbt := ht.lt
  go_enter Try.func26, Try.ntmps26
  go_wp2_with fail
  refine (next_any bt 20 _ ht (by omega) (by omega)).mono ?_
  rintro e w1 ⟨a, rfl, ha0, ha1, hd1⟩
  have HD1 := Lib.hid hd1
  clear hd1
  go_wp2_with fail
  refine (next_any bt 1000 _ HD1.out.1 (by omega) (by omega)).mono ?_
  rintro e w2 ⟨b, rfl, hb0, hb1, hd2⟩
  have HD2 := Lib.hid (HD1.out.trans hd2)
  clear hd2
  go_wp2_with fail
  refine (next_any bt 1000000 _ HD2.out.1 (by omega) (by omega)).mono ?_
  rintro e w3 ⟨c, rfl, hc0, hc1, hd3⟩
  have HD3 := Lib.hid (HD2.out.trans hd3)
  have hz3 := hd3.size
  have hz2 := HD2.out.size
  clear hd3
  go_wp2_with fail
  have HP := Lib.hid (ints_at w3 [1, 2, 3, 1 + a, 1 + b, 1 + c] 3 w3.heap.size rfl)
  refine (pick_any bt w3.heap.size 6 6 [1, 2, 3, 1 + a, 1 + b, 1 + c] _ rfl (HD3.out.alloc _).1 (by omega) (by omega) (by omega) HP.out).mono ?_
  rintro e w4 ⟨u, hu, rfl, hd4⟩
  have HD4 := Lib.hid ((HD3.out.alloc _).trans hd4)
  have HU := Lib.hid hu
  clear hd4 hu
  go_wp2
  go_ret
  have hu := HU.out
  simp only [List.mem_cons, List.not_mem_nil, or_false] at hu
  exact ⟨u, rfl, by omega, by omega, HD4.out⟩
end Go.Proofs.Ythhmpdjjfoplgaa
