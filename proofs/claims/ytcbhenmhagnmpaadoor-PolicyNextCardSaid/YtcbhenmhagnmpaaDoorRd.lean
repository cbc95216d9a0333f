/- How an argument reads as data, kind by kind: a value that can be read as data is one of the kind's values ('Rd'): integers, bools, strings, slices, structs, nested as they come. -/
import Derived.Test.YtcbhenmhagnmpaaDoorWWords
import Derived.ChangeArms
import Derived.Deep.Slices
import Derived.Deep.Fields
import Derived.ChangeSame
import Derived.ProofKit
namespace Go.Proofs.YtcbhenmhagnmpaaDoor.Rd
open Go.RowKit Go.Deep Go.ChangeShapes Go.WideShapes Go.Proofs.YtcbhenmhagnmpaaDoorW.PrintWords
def Rd {α : Type} (P : Program) (w : World) (t : TypeId) (d : Kd α) (good : α → Prop) : Prop :=
  ∀ (H : Type) (enc : TypeId × Value → H) (fuel : Nat) (cs : List Value) (x : DataW H × List MemPlace), DataW.trod enc P w 0 (fun _ => true) true fuel t cs = some x → ∃ a : α, d.K w a cs ∧ good a
section
variable {P : Program} {w : World} {t e : TypeId} {α β : Type}
theorem rd_int {k : IntKind} (ht : P.underlying t = some (.int k)) : Rd P w t (Kd.int k) (fun n => (Lit.int k n).wf = true) := by
  intro H enc fuel cs x h
  obtain ⟨n, rfl, -, hw⟩ := DataW.trod_int ht h
  exact ⟨n, rfl, hw⟩
theorem rd_slice {d : Kd α} {good : α → Prop} (ht : P.underlying t = some (.slice e)) (hs : P.cellsOf e = d.sz) (hd : Rd P w e d good) :
    Rd P w t (Kd.slice e d) (fun xs => xs.length ≤ maxLen ∧ ∀ x ∈ xs, good x) := by
  intro H enc fuel cs x h
  rcases open_slice ht h with ⟨rfl, -⟩ | ⟨a, len, cap, m, n, D, Pl, rfl, -, hl, hm, hmm, -, hi⟩
  · exact ⟨[], ⟨none, 0, rfl, Nat.le_refl _, rfl, by simp, fun h0 => absurd h0 (by simp)⟩, by simp, by simp⟩
  · have hlm : len ≤ m := by rw [hmm]; split <;> omega
    have key : ∀ q, q ≤ len → ∃ xs : List α, xs.length = q ∧ (∀ x ∈ xs, good x) ∧ ∀ j p, xs[j]? = some p → ∃ c : List Value, c.length = d.sz ∧ d.K w p c ∧ ∀ i u, c[i]? = some u → w.cell? (a.add (j * d.sz + i)) = some u := by
      intro q
      induction q with
      | zero => intro _; exact ⟨[], rfl, by simp, fun j p hj => by simp at hj⟩
      | succ q ih =>
        intro hq
        obtain ⟨xs, hxl, hxg, hx⟩ := ih (by omega)
        obtain ⟨cs', hc, htr⟩ := hi q (by omega)
        rw [hs] at hc
        obtain ⟨-, hcl, hat⟩ := World.cells?_some hc
        obtain ⟨p, hp, hg⟩ := hd _ _ _ _ _ htr
        refine ⟨xs ++ [p], by simp [hxl], fun x hx' => ?_, fun j y hj => ?_⟩
        · rcases List.mem_append.1 hx' with h1 | h1
          · exact hxg x h1
          · rw [List.mem_singleton.1 h1]; exact hg
        · by_cases hjq : j < xs.length
          · rw [List.getElem?_append_left hjq] at hj
            exact hx j y hj
          · rw [List.getElem?_append_right (by omega)] at hj
            have hj0 : j - xs.length = 0 := by
              by_cases h0 : j - xs.length = 0
              · exact h0
              · rw [List.getElem?_eq_none (by simp; omega)] at hj; cases hj
            rw [hj0] at hj
            simp only [List.getElem?_cons_zero, Option.some.injEq] at hj
            subst hj
            obtain rfl : j = q := by omega
            refine ⟨cs', hcl, hp, fun i u hu => ?_⟩
            have hil : i < d.sz := by
              have := (List.getElem?_eq_some_iff.1 hu).1
              omega
            rw [← Go.Deep.add_add, hat i hil, hu]
    obtain ⟨xs, hxl, hxg, hx⟩ := key len (Nat.le_refl _)
    refine ⟨xs, ⟨some a, cap, by rw [hxl], by omega, rfl, by unfold maxLen at hm; omega, fun _ => ⟨a, rfl, hx⟩⟩, by omega, hxg⟩
/-- The fields from place o on, of n cells in all. -/
def RdF (P : Program) (w : World) (n o : Nat) (fs : List Field) (d : Kd α) (good : α → Prop) : Prop :=
  ∀ (H : Type) (enc : TypeId × Value → H) (fuel : Nat) (cs : List Value), cs.length = n → (∀ f ∈ fs, ∃ y, DataW.trod enc P w 0 (fun _ => true) true fuel f.type ((cs.drop f.offset).take (P.cellsOf f.type)) = some y) → ∃ a : α, d.K w a (cs.drop o) ∧ good a
theorem rdF_cons {n o s : Nat} {f : Field} {fs : List Field} {d1 : Kd α} {d2 : Kd β} {g1 : α → Prop} {g2 : β → Prop} (ho : f.offset = o) (hs : P.cellsOf f.type = s) (h1 : Rd P w f.type d1 g1) (h2 : RdF P w n (o + s) fs d2 g2) :
    RdF P w n o (f :: fs) (Kd.pair d1 d2) (fun x => g1 x.1 ∧ g2 x.2) := by
  intro H enc fuel cs hl hf
  obtain ⟨y, hy⟩ := hf f (by simp)
  rw [ho, hs] at hy
  obtain ⟨a, ha, hga⟩ := h1 _ _ _ _ _ hy
  obtain ⟨b, hb, hgb⟩ := h2 H enc fuel cs hl (fun f' hf' => hf f' (by simp [hf']))
  exact ⟨(a, b), ⟨_, _, by rw [← List.drop_drop]; exact (List.take_append_drop s (cs.drop o)).symm, ha, hb⟩, hga, hgb⟩
theorem rdF_last {n o s : Nat} {f : Field} {d1 : Kd α} {g1 : α → Prop} (ho : f.offset = o) (hs : P.cellsOf f.type = s) (h1 : Rd P w f.type d1 g1) (hn : n = o + s) : RdF P w n o [f] d1 g1 := by
  intro H enc fuel cs hl hf
  obtain ⟨y, hy⟩ := hf f (by simp)
  rw [ho, hs] at hy
  obtain ⟨a, ha, hga⟩ := h1 _ _ _ _ _ hy
  refine ⟨a, ?_, hga⟩
  rw [List.take_of_length_le (by rw [List.length_drop]; omega)] at ha
  exact ha
theorem rd_struct {n : Nat} {fs : Array Field} {d : Kd α} {good : α → Prop} (ht : P.underlying t = some (.struct fs)) (hn : P.cellsOf t = n) (h : RdF P w n 0 fs.toList d good) : Rd P w t d good := by
  intro H enc fuel cs x hx
  obtain ⟨xs, m, -, -, hl, hxl, hf⟩ := DataW.trod_struct ht hx
  obtain ⟨a, ha, hg⟩ := h H enc m cs (by omega) (fun f hf' => by
    obtain ⟨i, hi, rfl⟩ := List.getElem_of_mem hf'
    have hi' : i < fs.size := by simpa using hi
    have h1 := hf i fs.toList[i] (by simp [hi'])
    rw [h1]
    exact ⟨_, List.getElem?_eq_getElem (by omega)⟩)
  exact ⟨a, by simpa using ha, hg⟩
end
end Go.Proofs.YtcbhenmhagnmpaaDoor.Rd
