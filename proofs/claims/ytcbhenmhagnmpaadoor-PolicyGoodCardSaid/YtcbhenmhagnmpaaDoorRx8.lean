-- Laid by a program of this session (a fork of the kit's print, with contracts of this session's own in it).
import Derived.Test.YtcbhenmhagnmpaaDoorRx0
import Derived.Test.YtcbhenmhagnmpaaDoorRx1
import Derived.Test.YtcbhenmhagnmpaaDoorRx2
import Derived.Test.YtcbhenmhagnmpaaDoorRx3
import Derived.Test.YtcbhenmhagnmpaaDoorRx4
import Derived.Test.YtcbhenmhagnmpaaDoorRx5
import Derived.Test.YtcbhenmhagnmpaaDoorRx6
namespace Go.Proofs.YtcbhenmhagnmpaaDoor.R
open Go.RowKit Go.Proofs.YtcbhenmhagnmpaaDoorW.PrintWords Go.Proofs.YtcbhenmhagnmpaaDoorW.PrintLast Go.Proofs.YtcbhenmhagnmpaaDoorW.PrintMore
attribute [local go_sem] max2_int min2_int max_two min_two max_three min_three max_four min_four   -- for this text's walks alone
set_option linter.unusedVariables false
set_option linter.unusedSimpArgs false

def z28 : S28 := ⟨(0 : Int), (0 : Int), (0 : Int), (0 : Int), (0 : Int), (0 : Int), (0 : Int), (0 : Int), (0 : Int), (0 : Int), ([] : List Int), ([] : List Int)⟩
def k28 : Kd S28 := Kd.iso (Kd.pair (Kd.int .i64) (Kd.pair (Kd.int .i64) (Kd.pair (Kd.int .i64) (Kd.pair (Kd.int .i64) (Kd.pair (Kd.int .i64) (Kd.pair (Kd.int .i64) (Kd.pair (Kd.int .i64) (Kd.pair (Kd.int .i64) (Kd.pair (Kd.int .u64) (Kd.pair (Kd.int .u64) (Kd.pair (Kd.slice 3 (Kd.int .i64)) (Kd.slice 2 (Kd.int .i64))))))))))))) (fun x : S28 => (x.f0, x.f1, x.f2, x.f3, x.f4, x.f5, x.f6, x.f7, x.f8, x.f9, x.f10, x.f11))
theorem k28_open {w : World} {x : S28} {cs : List Value} (h : k28.K w x cs) : ∃ A10 c10 A11 c11, cs = [.int .i64 x.f0, .int .i64 x.f1, .int .i64 x.f2, .int .i64 x.f3, .int .i64 x.f4, .int .i64 x.f5, .int .i64 x.f6, .int .i64 x.f7, .int .u64 x.f8, .int .u64 x.f9, .slice A10 x.f10.length c10, .slice A11 x.f11.length c11] ∧ x.f10.length ≤ c10 ∧ (Kd.int .i64).C w A10 x.f10.length x.f10 ∧ x.f11.length ≤ c11 ∧ (Kd.int .i64).C w A11 x.f11.length x.f11 := by
  obtain ⟨_, _, rfl, rfl, ⟨_, _, rfl, rfl, ⟨_, _, rfl, rfl, ⟨_, _, rfl, rfl, ⟨_, _, rfl, rfl, ⟨_, _, rfl, rfl, ⟨_, _, rfl, rfl, ⟨_, _, rfl, rfl, ⟨_, _, rfl, rfl, ⟨_, _, rfl, rfl, ⟨_, _, rfl, ⟨A10, c10, rfl, l10, g10⟩, ⟨A11, c11, rfl, l11, g11⟩⟩⟩⟩⟩⟩⟩⟩⟩⟩⟩⟩ := h
  exact ⟨A10, c10, A11, c11, rfl, l10, g10, l11, g11⟩
theorem k28_openM {w : World} {base : Nat} {ok : Nat → Prop} {x : S28} {cs : List Value} (h : k28.M w base ok x cs) : ∃ v10 v11, cs = [.int .i64 x.f0, .int .i64 x.f1, .int .i64 x.f2, .int .i64 x.f3, .int .i64 x.f4, .int .i64 x.f5, .int .i64 x.f6, .int .i64 x.f7, .int .u64 x.f8, .int .u64 x.f9, v10, v11] ∧ (Kd.int .i64).R 3 w base ok v10 x.f10 ∧ (Kd.int .i64).R 2 w base ok v11 x.f11 := by
  obtain ⟨_, _, rfl, rfl, ⟨_, _, rfl, rfl, ⟨_, _, rfl, rfl, ⟨_, _, rfl, rfl, ⟨_, _, rfl, rfl, ⟨_, _, rfl, rfl, ⟨_, _, rfl, rfl, ⟨_, _, rfl, rfl, ⟨_, _, rfl, rfl, ⟨_, _, rfl, rfl, ⟨_, _, rfl, ⟨v10, rfl, g10⟩, ⟨v11, rfl, g11⟩⟩⟩⟩⟩⟩⟩⟩⟩⟩⟩⟩ := h
  exact ⟨v10, v11, rfl, g10, g11⟩
theorem k28_mk (w : World) (x : S28) {A10 : Option Addr} {c10 : Nat} (l10 : x.f10.length ≤ c10) (g10 : (Kd.int .i64).C w A10 x.f10.length x.f10) {A11 : Option Addr} {c11 : Nat} (l11 : x.f11.length ≤ c11) (g11 : (Kd.int .i64).C w A11 x.f11.length x.f11) : k28.K w x [.int .i64 x.f0, .int .i64 x.f1, .int .i64 x.f2, .int .i64 x.f3, .int .i64 x.f4, .int .i64 x.f5, .int .i64 x.f6, .int .i64 x.f7, .int .u64 x.f8, .int .u64 x.f9, .slice A10 x.f10.length c10, .slice A11 x.f11.length c11] := ⟨[.int .i64 x.f0], [.int .i64 x.f1, .int .i64 x.f2, .int .i64 x.f3, .int .i64 x.f4, .int .i64 x.f5, .int .i64 x.f6, .int .i64 x.f7, .int .u64 x.f8, .int .u64 x.f9, .slice A10 x.f10.length c10, .slice A11 x.f11.length c11], rfl, rfl, ⟨[.int .i64 x.f1], [.int .i64 x.f2, .int .i64 x.f3, .int .i64 x.f4, .int .i64 x.f5, .int .i64 x.f6, .int .i64 x.f7, .int .u64 x.f8, .int .u64 x.f9, .slice A10 x.f10.length c10, .slice A11 x.f11.length c11], rfl, rfl, ⟨[.int .i64 x.f2], [.int .i64 x.f3, .int .i64 x.f4, .int .i64 x.f5, .int .i64 x.f6, .int .i64 x.f7, .int .u64 x.f8, .int .u64 x.f9, .slice A10 x.f10.length c10, .slice A11 x.f11.length c11], rfl, rfl, ⟨[.int .i64 x.f3], [.int .i64 x.f4, .int .i64 x.f5, .int .i64 x.f6, .int .i64 x.f7, .int .u64 x.f8, .int .u64 x.f9, .slice A10 x.f10.length c10, .slice A11 x.f11.length c11], rfl, rfl, ⟨[.int .i64 x.f4], [.int .i64 x.f5, .int .i64 x.f6, .int .i64 x.f7, .int .u64 x.f8, .int .u64 x.f9, .slice A10 x.f10.length c10, .slice A11 x.f11.length c11], rfl, rfl, ⟨[.int .i64 x.f5], [.int .i64 x.f6, .int .i64 x.f7, .int .u64 x.f8, .int .u64 x.f9, .slice A10 x.f10.length c10, .slice A11 x.f11.length c11], rfl, rfl, ⟨[.int .i64 x.f6], [.int .i64 x.f7, .int .u64 x.f8, .int .u64 x.f9, .slice A10 x.f10.length c10, .slice A11 x.f11.length c11], rfl, rfl, ⟨[.int .i64 x.f7], [.int .u64 x.f8, .int .u64 x.f9, .slice A10 x.f10.length c10, .slice A11 x.f11.length c11], rfl, rfl, ⟨[.int .u64 x.f8], [.int .u64 x.f9, .slice A10 x.f10.length c10, .slice A11 x.f11.length c11], rfl, rfl, ⟨[.int .u64 x.f9], [.slice A10 x.f10.length c10, .slice A11 x.f11.length c11], rfl, rfl, ⟨[.slice A10 x.f10.length c10], [.slice A11 x.f11.length c11], rfl, ⟨A10, c10, rfl, l10, g10⟩, ⟨A11, c11, rfl, l11, g11⟩⟩⟩⟩⟩⟩⟩⟩⟩⟩⟩⟩
theorem k28_mkM (w : World) (base : Nat) (ok : Nat → Prop) (x : S28) {v10 : Value} (g10 : (Kd.int .i64).R 3 w base ok v10 x.f10) {v11 : Value} (g11 : (Kd.int .i64).R 2 w base ok v11 x.f11) : k28.M w base ok x [.int .i64 x.f0, .int .i64 x.f1, .int .i64 x.f2, .int .i64 x.f3, .int .i64 x.f4, .int .i64 x.f5, .int .i64 x.f6, .int .i64 x.f7, .int .u64 x.f8, .int .u64 x.f9, v10, v11] := ⟨[.int .i64 x.f0], [.int .i64 x.f1, .int .i64 x.f2, .int .i64 x.f3, .int .i64 x.f4, .int .i64 x.f5, .int .i64 x.f6, .int .i64 x.f7, .int .u64 x.f8, .int .u64 x.f9, v10, v11], rfl, rfl, ⟨[.int .i64 x.f1], [.int .i64 x.f2, .int .i64 x.f3, .int .i64 x.f4, .int .i64 x.f5, .int .i64 x.f6, .int .i64 x.f7, .int .u64 x.f8, .int .u64 x.f9, v10, v11], rfl, rfl, ⟨[.int .i64 x.f2], [.int .i64 x.f3, .int .i64 x.f4, .int .i64 x.f5, .int .i64 x.f6, .int .i64 x.f7, .int .u64 x.f8, .int .u64 x.f9, v10, v11], rfl, rfl, ⟨[.int .i64 x.f3], [.int .i64 x.f4, .int .i64 x.f5, .int .i64 x.f6, .int .i64 x.f7, .int .u64 x.f8, .int .u64 x.f9, v10, v11], rfl, rfl, ⟨[.int .i64 x.f4], [.int .i64 x.f5, .int .i64 x.f6, .int .i64 x.f7, .int .u64 x.f8, .int .u64 x.f9, v10, v11], rfl, rfl, ⟨[.int .i64 x.f5], [.int .i64 x.f6, .int .i64 x.f7, .int .u64 x.f8, .int .u64 x.f9, v10, v11], rfl, rfl, ⟨[.int .i64 x.f6], [.int .i64 x.f7, .int .u64 x.f8, .int .u64 x.f9, v10, v11], rfl, rfl, ⟨[.int .i64 x.f7], [.int .u64 x.f8, .int .u64 x.f9, v10, v11], rfl, rfl, ⟨[.int .u64 x.f8], [.int .u64 x.f9, v10, v11], rfl, rfl, ⟨[.int .u64 x.f9], [v10, v11], rfl, rfl, ⟨[v10], [v11], rfl, ⟨v10, rfl, g10⟩, ⟨v11, rfl, g11⟩⟩⟩⟩⟩⟩⟩⟩⟩⟩⟩⟩
def rd_T28 (xs : List S28) (i : Int) : S28 := xs.getD i.toNat z28
theorem at_T28 {w : World} {A : Option Addr} {n : Nat} {xs : List S28} (h : Kd.C k28 w A n xs) (i : Int) (h0 : 0 ≤ i) (h1 : i < n) : ∃ ad A10 c10 A11 c11, A = some ad ∧ w.cell? (ad.add (i.toNat * 12)) = some (.int .i64 (rd_T28 xs i).f0) ∧ w.cell? ⟨(ad.add (i.toNat * 12)).block, (ad.add (i.toNat * 12)).off + 1, none⟩ = some (.int .i64 (rd_T28 xs i).f1) ∧ w.cell? ⟨(ad.add (i.toNat * 12)).block, (ad.add (i.toNat * 12)).off + 2, none⟩ = some (.int .i64 (rd_T28 xs i).f2) ∧ w.cell? ⟨(ad.add (i.toNat * 12)).block, (ad.add (i.toNat * 12)).off + 3, none⟩ = some (.int .i64 (rd_T28 xs i).f3) ∧ w.cell? ⟨(ad.add (i.toNat * 12)).block, (ad.add (i.toNat * 12)).off + 4, none⟩ = some (.int .i64 (rd_T28 xs i).f4) ∧ w.cell? ⟨(ad.add (i.toNat * 12)).block, (ad.add (i.toNat * 12)).off + 5, none⟩ = some (.int .i64 (rd_T28 xs i).f5) ∧ w.cell? ⟨(ad.add (i.toNat * 12)).block, (ad.add (i.toNat * 12)).off + 6, none⟩ = some (.int .i64 (rd_T28 xs i).f6) ∧ w.cell? ⟨(ad.add (i.toNat * 12)).block, (ad.add (i.toNat * 12)).off + 7, none⟩ = some (.int .i64 (rd_T28 xs i).f7) ∧ w.cell? ⟨(ad.add (i.toNat * 12)).block, (ad.add (i.toNat * 12)).off + 8, none⟩ = some (.int .u64 (rd_T28 xs i).f8) ∧ w.cell? ⟨(ad.add (i.toNat * 12)).block, (ad.add (i.toNat * 12)).off + 9, none⟩ = some (.int .u64 (rd_T28 xs i).f9) ∧ w.cell? ⟨(ad.add (i.toNat * 12)).block, (ad.add (i.toNat * 12)).off + 10, none⟩ = some (.slice A10 (rd_T28 xs i).f10.length c10) ∧ w.cell? ⟨(ad.add (i.toNat * 12)).block, (ad.add (i.toNat * 12)).off + 11, none⟩ = some (.slice A11 (rd_T28 xs i).f11.length c11) ∧ (rd_T28 xs i).f10.length ≤ c10 ∧ (Kd.int .i64).C w A10 (rd_T28 xs i).f10.length (rd_T28 xs i).f10 ∧ (rd_T28 xs i).f11.length ≤ c11 ∧ (Kd.int .i64).C w A11 (rd_T28 xs i).f11.length (rd_T28 xs i).f11 := by
  obtain ⟨ad, c, e, _, hK, hc0⟩ := Kd.C_get h z28 i h0 h1
  have hc : ∀ j u, c[j]? = some u → w.cell? (ad.add (i.toNat * 12 + j)) = some u := hc0
  obtain ⟨A10, c10, A11, c11, rfl, l10, g10, l11, g11⟩ := k28_open hK
  exact ⟨ad, A10, c10, A11, c11, e, hc 0 _ rfl, by rw [← add_field _ _ 1 (by omega)]; exact hc 1 _ rfl, by rw [← add_field _ _ 2 (by omega)]; exact hc 2 _ rfl, by rw [← add_field _ _ 3 (by omega)]; exact hc 3 _ rfl, by rw [← add_field _ _ 4 (by omega)]; exact hc 4 _ rfl, by rw [← add_field _ _ 5 (by omega)]; exact hc 5 _ rfl, by rw [← add_field _ _ 6 (by omega)]; exact hc 6 _ rfl, by rw [← add_field _ _ 7 (by omega)]; exact hc 7 _ rfl, by rw [← add_field _ _ 8 (by omega)]; exact hc 8 _ rfl, by rw [← add_field _ _ 9 (by omega)]; exact hc 9 _ rfl, by rw [← add_field _ _ 10 (by omega)]; exact hc 10 _ rfl, by rw [← add_field _ _ 11 (by omega)]; exact hc 11 _ rfl, l10, g10, l11, g11⟩

/-! #### struct type 60 -/
structure S60 where
  f0 : Int
  f1 : Int
def z60 : S60 := ⟨(0 : Int), (0 : Int)⟩
def k60 : Kd S60 := Kd.iso (Kd.pair (Kd.int .u64) (Kd.int .i64)) (fun x : S60 => (x.f0, x.f1))
theorem k60_open {w : World} {x : S60} {cs : List Value} (h : k60.K w x cs) : cs = [.int .u64 x.f0, .int .i64 x.f1] := by
  obtain ⟨_, _, rfl, rfl, rfl⟩ := h
  exact rfl
theorem k60_openM {w : World} {base : Nat} {ok : Nat → Prop} {x : S60} {cs : List Value} (h : k60.M w base ok x cs) : cs = [.int .u64 x.f0, .int .i64 x.f1] := by
  obtain ⟨_, _, rfl, rfl, rfl⟩ := h
  exact rfl
theorem k60_mk (w : World) (x : S60)  : k60.K w x [.int .u64 x.f0, .int .i64 x.f1] := ⟨[.int .u64 x.f0], [.int .i64 x.f1], rfl, rfl, rfl⟩
theorem k60_mkM (w : World) (base : Nat) (ok : Nat → Prop) (x : S60)  : k60.M w base ok x [.int .u64 x.f0, .int .i64 x.f1] := ⟨[.int .u64 x.f0], [.int .i64 x.f1], rfl, rfl, rfl⟩
def rd_T60 (xs : List S60) (i : Int) : S60 := xs.getD i.toNat z60
theorem at_T60 {w : World} {A : Option Addr} {n : Nat} {xs : List S60} (h : Kd.C k60 w A n xs) (i : Int) (h0 : 0 ≤ i) (h1 : i < n) : ∃ ad , A = some ad ∧ w.cell? (ad.add (i.toNat * 2)) = some (.int .u64 (rd_T60 xs i).f0) ∧ w.cell? ⟨(ad.add (i.toNat * 2)).block, (ad.add (i.toNat * 2)).off + 1, none⟩ = some (.int .i64 (rd_T60 xs i).f1) := by
  obtain ⟨ad, c, e, _, hK, hc0⟩ := Kd.C_get h z60 i h0 h1
  have hc : ∀ j u, c[j]? = some u → w.cell? (ad.add (i.toNat * 2 + j)) = some u := hc0
  obtain rfl := k60_open hK
  exact ⟨ad, e, hc 0 _ rfl, by rw [← add_field _ _ 1 (by omega)]; exact hc 1 _ rfl⟩

def rd_L8 (xs : List (List S60)) (i : Int) : (List S60) := xs.getD i.toNat ([] : List S60)
theorem at_L8 {w : World} {A : Option Addr} {n : Nat} {xs : List (List S60)} (h : Kd.C (Kd.slice 60 k60) w A n xs) (i : Int) (h0 : 0 ≤ i) (h1 : i < n) : ∃ ad A0 c0, A = some ad ∧ w.cell? (ad.add i.toNat) = some (.slice A0 (rd_L8 xs i).length c0) ∧ (rd_L8 xs i).length ≤ c0 ∧ k60.C w A0 (rd_L8 xs i).length (rd_L8 xs i) := by
  obtain ⟨ad, c, e, _, hK, hc0⟩ := Kd.C_get h ([] : List S60) i h0 h1
  have hc : ∀ j u, c[j]? = some u → w.cell? (ad.add (i.toNat * 1 + j)) = some u := hc0
  obtain ⟨A0, c0, rfl, l0, g0⟩ := hK
  exact ⟨ad, A0, c0, e, by have hq := hc 0 _ rfl; rwa [Nat.mul_one, Nat.add_zero] at hq, l0, g0⟩

def rd_L9 (xs : List (List S28)) (i : Int) : (List S28) := xs.getD i.toNat ([] : List S28)
theorem at_L9 {w : World} {A : Option Addr} {n : Nat} {xs : List (List S28)} (h : Kd.C (Kd.slice 28 k28) w A n xs) (i : Int) (h0 : 0 ≤ i) (h1 : i < n) : ∃ ad A0 c0, A = some ad ∧ w.cell? (ad.add i.toNat) = some (.slice A0 (rd_L9 xs i).length c0) ∧ (rd_L9 xs i).length ≤ c0 ∧ k28.C w A0 (rd_L9 xs i).length (rd_L9 xs i) := by
  obtain ⟨ad, c, e, _, hK, hc0⟩ := Kd.C_get h ([] : List S28) i h0 h1
  have hc : ∀ j u, c[j]? = some u → w.cell? (ad.add (i.toNat * 1 + j)) = some u := hc0
  obtain ⟨A0, c0, rfl, l0, g0⟩ := hK
  exact ⟨ad, A0, c0, e, by have hq := hc 0 _ rfl; rwa [Nat.mul_one, Nat.add_zero] at hq, l0, g0⟩

/-! ### locumlaw13_walk: function 18 (this session's own) -/
theorem locumlaw13_walk.bel {a W W' : World} (h : Below a.heap.size a W) (hb : Below W.heap.size W W') : Below a.heap.size a W' := below_then h h.size hb
theorem locumlaw13_walk.belR {a W W' : World} {g : Nat} {cs : Array Value} (h : Below a.heap.size a W) (hg : a.heap.size ≤ g) (hw : W' = W.setRow g cs) : Below a.heap.size a W' := by
  subst hw
  exact h.trans ⟨rfl, rfl, rfl, by simp, fun k hk => setRow_other W g k cs (by omega)⟩
theorem locumlaw13_walk.blkR {W W' : World} {g g' : Nat} {o : Obj} {cs : Array Value} (h : W.heap[g']? = some o) (hne : g' ≠ g) (hw : W' = W.setRow g cs) : W'.heap[g']? = some o := by
  subst hw
  exact (setRow_other W g g' cs hne).trans h
theorem locumlaw13_walk.blkS {W W' : World} {g : Nat} {t : TypeId} {old cs : Array Value} (h : W.heap[g]? = some (.cells old t (0, 0))) (hw : W' = W.setRow g cs) : W'.heap[g]? = some (.cells cs t (0, 0)) := by
  subst hw
  exact setRow_heap W g old cs t _ h
section
variable {P : Program} {o : Oper} {a : Act}
theorem locumlaw13_walk.run_load {w : World} (ty : TypeId) (x : Operand) (ho : o.op = .load ty x) (g : Nat) (hx : a.eval x = .pointer (some ⟨g, 0, none⟩))
    (t : TypeId) (cs : Array Value) (fr : Nat × Nat) (d : TypeDesc) (hu : P.underlying ty = some d) (hd : (match d with | .struct _ | .array _ _ => true | _ => false) = true) (hi : (P.info? ty).map (·.size) = some cs.size)
    (hg : w.heap[g]? = some (.cells cs t fr)) : (execOp a.eval o).run P w = .ok (.value (.agg cs)) w := by
  unfold execOp
  simp only [ho, hx, Instr.loadAt, Instr.sureAddr, Sem.run_bind, Sem.run_pure, Result.andThen_ok, run_loadVar_row w g t ty cs fr d hg hu hd hi]
theorem locumlaw13_walk.run_store {w : World} (ty : TypeId) (x y : Operand) (ho : o.op = .store ty x y) (g : Nat) (cells : Array Value) (hx : a.eval x = .pointer (some ⟨g, 0, none⟩)) (hy : a.eval y = .agg cells)
    (t : TypeId) (old : Array Value) (hg : w.heap[g]? = some (.cells old t (0, 0))) (hi : (P.info? ty).map (·.size) = some cells.size) (hold : old.size = cells.size) (h1 : cells.all (·.oneCell') = true) :
    (execOp a.eval o).run P w = .ok .skip (w.setRow g cells) := by
  unfold execOp
  simp only [ho, hx, hy, Instr.storeAt, Instr.sureAddr, Sem.run_bind, Sem.run_pure, Result.andThen_ok, run_storeVar_row w g t ty old cells hg hi hold h1]
theorem locumlaw13_walk.store_step {ops : Array Oper} {Q : Exit → Act → World → Prop} {w : World} {K : Act → World → Prop} (hw : Region.wanted o (yielded ops a.tmps) = true) (hN : o.dst = none) (ty : TypeId) (x y : Operand) (ho : o.op = .store ty x y) (g : Nat) (cells : Array Value) (hx : a.eval x = .pointer (some ⟨g, 0, none⟩)) (hy : a.eval y = .agg cells)
    (t : TypeId) (old : Array Value) (hg : w.heap[g]? = some (.cells old t (0, 0))) (hi : (P.info? ty).map (·.size) = some cells.size) (hold : old.size = cells.size) (h1 : cells.all (·.oneCell') = true) (h : ∀ w1, w1 = w.setRow g cells → K a w1) :
    if Region.wanted o (yielded ops a.tmps) = true then Oper.wp P o a w K Q else K (a.put none undef) w := skip_ hw hN (locumlaw13_walk.run_store ty x y ho g cells hx hy t old hg hi hold h1) (h _ rfl)
end
def locumlaw13_walk.mk (r : Int × Int × Int × Int × Int × Int × Int × Int × Int × Int × List Int × List Int × Bool) : S28 := ⟨r.1, r.2.1, r.2.2.1, r.2.2.2.1, r.2.2.2.2.1, r.2.2.2.2.2.1, r.2.2.2.2.2.2.1, r.2.2.2.2.2.2.2.1, r.2.2.2.2.2.2.2.2.1, r.2.2.2.2.2.2.2.2.2.1, r.2.2.2.2.2.2.2.2.2.2.1, r.2.2.2.2.2.2.2.2.2.2.2.1⟩
def locumlaw13_walk.mkz (r : Int × Int × Int × Int × Int × Int × Int × Int × Int × Int × List Int × List Int) : S28 := ⟨r.1, r.2.1, r.2.2.1, r.2.2.2.1, r.2.2.2.2.1, r.2.2.2.2.2.1, r.2.2.2.2.2.2.1, r.2.2.2.2.2.2.2.1, r.2.2.2.2.2.2.2.2.1, r.2.2.2.2.2.2.2.2.2.1, r.2.2.2.2.2.2.2.2.2.2.1, r.2.2.2.2.2.2.2.2.2.2.2⟩
/-- the plans told, one behind the other -/
def locumlaw13_walk.go (k : Nat) (a0_0 : Int) (a0_1 : Int) (a0_2 : Int) (a0_3 : Int) (a0_4 : Int) (l0_5 : List Int) (a0_6 : Int) (a0_7 : Int) (a0_8 : Int) (a0_9 : Int) (a0_10 : Int) (a0_11 : Int) (a0_12 : Int) (a0_13 : Int) (a0_14 : Int) (a0_15 : Int) (a0_16 : Int) (a0_17 : Int) (a0_18 : Int) (a0_19 : Int) (a0_20 : Int) (a0_21 : Int) (a0_22 : Int) (a0_23 : Int) (a0_24 : Int) (a0_25 : Int) (a0_26 : Int) (a0_27 : Int) (a0_28 : Int) (a0_29 : Int) : List S60 → S28 → List S28 → Option (List S28)
  | [], _, out => some out
  | e :: l, p, out => (policy_Next.f k a0_0 a0_1 a0_2 a0_3 a0_4 l0_5 a0_6 a0_7 a0_8 a0_9 a0_10 a0_11 a0_12 a0_13 a0_14 a0_15 a0_16 a0_17 a0_18 a0_19 a0_20 a0_21 a0_22 a0_23 a0_24 a0_25 a0_26 a0_27 a0_28 a0_29 p.f0 p.f1 p.f2 p.f3 p.f4 p.f5 p.f6 p.f7 p.f8 p.f9 p.f10 p.f11 e.f0 e.f1).bind fun r => if r.2.2.2.2.2.2.2.2.2.2.2.2 = true then locumlaw13_walk.go k a0_0 a0_1 a0_2 a0_3 a0_4 l0_5 a0_6 a0_7 a0_8 a0_9 a0_10 a0_11 a0_12 a0_13 a0_14 a0_15 a0_16 a0_17 a0_18 a0_19 a0_20 a0_21 a0_22 a0_23 a0_24 a0_25 a0_26 a0_27 a0_28 a0_29 l (locumlaw13_walk.mk r) (out ++ [locumlaw13_walk.mk r]) else locumlaw13_walk.go k a0_0 a0_1 a0_2 a0_3 a0_4 l0_5 a0_6 a0_7 a0_8 a0_9 a0_10 a0_11 a0_12 a0_13 a0_14 a0_15 a0_16 a0_17 a0_18 a0_19 a0_20 a0_21 a0_22 a0_23 a0_24 a0_25 a0_26 a0_27 a0_28 a0_29 l p out
def locumlaw13_walk.f (k : Nat) (a0_0 : Int) (a0_1 : Int) (a0_2 : Int) (a0_3 : Int) (a0_4 : Int) (l0_5 : List Int) (a0_6 : Int) (a0_7 : Int) (a0_8 : Int) (a0_9 : Int) (a0_10 : Int) (a0_11 : Int) (a0_12 : Int) (a0_13 : Int) (a0_14 : Int) (a0_15 : Int) (a0_16 : Int) (a0_17 : Int) (a0_18 : Int) (a0_19 : Int) (a0_20 : Int) (a0_21 : Int) (a0_22 : Int) (a0_23 : Int) (a0_24 : Int) (a0_25 : Int) (a0_26 : Int) (a0_27 : Int) (a0_28 : Int) (a0_29 : Int) (l1 : List S60) : Option (List S28) := if l1.length ≤ 1000 then (policy_Zero.f a0_0 a0_1 a0_2 a0_3 a0_4 l0_5 a0_6 a0_7 a0_8 a0_9 a0_10 a0_11 a0_12 a0_13 a0_14 a0_15 a0_16 a0_17 a0_18 a0_19 a0_20 a0_21 a0_22 a0_23 a0_24 a0_25 a0_26 a0_27 a0_28 a0_29).bind fun z => locumlaw13_walk.go k a0_0 a0_1 a0_2 a0_3 a0_4 l0_5 a0_6 a0_7 a0_8 a0_9 a0_10 a0_11 a0_12 a0_13 a0_14 a0_15 a0_16 a0_17 a0_18 a0_19 a0_20 a0_21 a0_22 a0_23 a0_24 a0_25 a0_26 a0_27 a0_28 a0_29 l1 (locumlaw13_walk.mkz z) [locumlaw13_walk.mkz z] else none
theorem locumlaw13_walk.go_mono (k : Nat) (a0_0 : Int) (a0_1 : Int) (a0_2 : Int) (a0_3 : Int) (a0_4 : Int) (l0_5 : List Int) (a0_6 : Int) (a0_7 : Int) (a0_8 : Int) (a0_9 : Int) (a0_10 : Int) (a0_11 : Int) (a0_12 : Int) (a0_13 : Int) (a0_14 : Int) (a0_15 : Int) (a0_16 : Int) (a0_17 : Int) (a0_18 : Int) (a0_19 : Int) (a0_20 : Int) (a0_21 : Int) (a0_22 : Int) (a0_23 : Int) (a0_24 : Int) (a0_25 : Int) (a0_26 : Int) (a0_27 : Int) (a0_28 : Int) (a0_29 : Int) : ∀ (l : List S60) (p : S28) (out : List S28), LeO (locumlaw13_walk.go k a0_0 a0_1 a0_2 a0_3 a0_4 l0_5 a0_6 a0_7 a0_8 a0_9 a0_10 a0_11 a0_12 a0_13 a0_14 a0_15 a0_16 a0_17 a0_18 a0_19 a0_20 a0_21 a0_22 a0_23 a0_24 a0_25 a0_26 a0_27 a0_28 a0_29 l p out) (locumlaw13_walk.go (k + 1) a0_0 a0_1 a0_2 a0_3 a0_4 l0_5 a0_6 a0_7 a0_8 a0_9 a0_10 a0_11 a0_12 a0_13 a0_14 a0_15 a0_16 a0_17 a0_18 a0_19 a0_20 a0_21 a0_22 a0_23 a0_24 a0_25 a0_26 a0_27 a0_28 a0_29 l p out)
  | [], _, _ => LeO.refl _
  | e :: l, p, out => by
    show LeO (Option.bind _ _) (Option.bind _ _)
    refine LeO.bind (policy_Next.mono _ _ _ _ _ _ _ _ _ _ _ _ _ _ _ _ _ _ _ _ _ _ _ _ _ _ _ _ _ _ _ _ _ _ _ _ _ _ _ _ _ _ _ _ k) (fun r => ?_)
    refine LeO.ite (locumlaw13_walk.go_mono k a0_0 a0_1 a0_2 a0_3 a0_4 l0_5 a0_6 a0_7 a0_8 a0_9 a0_10 a0_11 a0_12 a0_13 a0_14 a0_15 a0_16 a0_17 a0_18 a0_19 a0_20 a0_21 a0_22 a0_23 a0_24 a0_25 a0_26 a0_27 a0_28 a0_29 l _ _) (locumlaw13_walk.go_mono k a0_0 a0_1 a0_2 a0_3 a0_4 l0_5 a0_6 a0_7 a0_8 a0_9 a0_10 a0_11 a0_12 a0_13 a0_14 a0_15 a0_16 a0_17 a0_18 a0_19 a0_20 a0_21 a0_22 a0_23 a0_24 a0_25 a0_26 a0_27 a0_28 a0_29 l _ _)
theorem locumlaw13_walk.mono : ∀ b0 b1 b2 b3 b4 b5 b6 b7 b8 b9 b10 b11 b12 b13 b14 b15 b16 b17 b18 b19 b20 b21 b22 b23 b24 b25 b26 b27 b28 b29 b30 k, LeO (locumlaw13_walk.f k b0 b1 b2 b3 b4 b5 b6 b7 b8 b9 b10 b11 b12 b13 b14 b15 b16 b17 b18 b19 b20 b21 b22 b23 b24 b25 b26 b27 b28 b29 b30) (locumlaw13_walk.f (k + 1) b0 b1 b2 b3 b4 b5 b6 b7 b8 b9 b10 b11 b12 b13 b14 b15 b16 b17 b18 b19 b20 b21 b22 b23 b24 b25 b26 b27 b28 b29 b30) := by
  intro b0 b1 b2 b3 b4 b5 b6 b7 b8 b9 b10 b11 b12 b13 b14 b15 b16 b17 b18 b19 b20 b21 b22 b23 b24 b25 b26 b27 b28 b29 b30 k
  unfold locumlaw13_walk.f
  refine LeO.ite (LeO.bind (LeO.refl _) (fun _ => locumlaw13_walk.go_mono k _ _ _ _ _ _ _ _ _ _ _ _ _ _ _ _ _ _ _ _ _ _ _ _ _ _ _ _ _ _ _ _ _)) (LeO.refl _)
theorem locumlaw13_walk.one {W : World} {b : Nat} {ok : Nat → Prop} {q : S28} {vP vQ : Value} (hP : W.ownsRow b 3 1 vP q.f10.length (q.f10.map (Value.int .i64))) (hp : ∀ k, vP.ownBlock = some k → ok k) (hQ : W.ownsRow b 2 1 vQ q.f11.length (q.f11.map (Value.int .i64))) (hq : ∀ k, vQ.ownBlock = some k → ok k) : Reps (k28.M W b ok) k28.sz [q] [.int .i64 q.f0, .int .i64 q.f1, .int .i64 q.f2, .int .i64 q.f3, .int .i64 q.f4, .int .i64 q.f5, .int .i64 q.f6, .int .i64 q.f7, .int .u64 q.f8, .int .u64 q.f9, vP, vQ] := by
  have h1 := k28_mkM W b ok q (Kd.R_of_own (h1 := fun _ => rfl) hP hp) (Kd.R_of_own (h1 := fun _ => rfl) hQ hq)
  exact Reps.front h1 rfl (Reps.none _ _) rfl
theorem locumlaw13_walk.info : (Tryd.prog.info? 28).map (fun i => (i.zero, i.size, i.bytes)) = some (some (.agg #[.int .i64 0, .int .i64 0, .int .i64 0, .int .i64 0, .int .i64 0, .int .i64 0, .int .i64 0, .int .i64 0, .int .u64 0, .int .u64 0, .slice none 0 0, .slice none 0 0]), k28.sz, 128) := by kernel_rfl
theorem locumlaw13_walk.few {n j m : Nat} (h1 : n ≤ j + 1) (h2 : j < m) (h3 : m ≤ 1000) : (n + 1) * 128 ≤ 140737488355328 := by omega
theorem locumlaw13_walk.rowM {W : World} {b : Nat} {ok : Nat → Prop} {v : Value} {xs : List S28} (h : Kd.R k28 28 W b ok v xs) : ∃ A c, v = .slice A xs.length c ∧ ReadsRow (fun x cs => k28.M W b ok x cs) k28.sz W A xs.length xs := by
  obtain ⟨A, c, he, _, hr⟩ := OwnRow.reads h.2
  exact ⟨A, c, he, hr.imp_ (Below.refl _ _) (fun _ _ hp => k28.M_mono (fun _ hk => hk.1) hp)⟩
theorem locumlaw13_walk.far {W W' : World} {g : Nat} {row : Option Nat} {cs : Array Value} {t : Nat} (h : W.heap[g]? = some (.cells cs t (0, 0))) (hg : W.grownBy W' row) (hn : some g ≠ row) : W'.heap[g]? = some (.cells cs t (0, 0)) := by
  rw [hg.block g (blk_lt h) hn]; exact h
theorem locumlaw13_walk.ownfar {W W' : World} {b n : Nat} {e : TypeId} {v : Value} {ys : List Value} {row : Option Nat} (ho : W.ownsRow b e 1 v n ys) (hg : W.grownBy W' row) (hn : ∀ k, v.ownBlock = some k → some k ≠ row) : W'.ownsRow b e 1 v n ys :=
  own_move ho (fun k hk => hg.block k (own_lt ho k hk) (hn k hk))
theorem locumlaw13_walk.R_row {W W' : World} {b g : Nat} {ok : Nat → Prop} {v : Value} {xs : List S28} {cs : Array Value} (h : Kd.R k28 28 W b ok v xs) (hok : ∀ k, ok k → k ≠ g) (hw : W' = W.setRow g cs) : Kd.R k28 28 W' b ok v xs := by
  subst hw
  exact Kd.R_step h (fun k ho _ => setRow_other W g k cs (hok k ho))
theorem locumlaw13_walk.okq {W : World} {b b' g n : Nat} {e : TypeId} {ok : Nat → Prop} {v u : Value} {xs : List S28} {ys : List Value} {cs : Array Value} (hp : W.heap[g]? = some (.cells cs 28 (0, 0))) (h : Kd.R k28 28 W b ok u xs) (ho : W.ownsRow b' e 1 v n ys) (he : (28 : Nat) ≠ e) : ∀ k, v.ownBlock = some k → k ≠ g ∧ some k ≠ u.ownBlock := by
  intro k hk
  refine ⟨fun e_ => policy_Next.row_ne hp he ho (by rw [hk, e_]), fun e_ => ?_⟩
  obtain ⟨cells, hc⟩ := Kd.R_typed h k e_.symm
  exact policy_Next.row_ne hc he ho hk.symm
set_option maxHeartbeats 40000000 in
set_option maxRecDepth 100000 in
theorem locumlaw13_walk.main (k : Nat) (a0_0 : Int) (a0_1 : Int) (a0_2 : Int) (a0_3 : Int) (a0_4 : Int) (A0_5 : Option Addr) (c0_5 : Nat) (l0_5 : List Int) (a0_6 : Int) (a0_7 : Int) (a0_8 : Int) (a0_9 : Int) (a0_10 : Int) (a0_11 : Int) (a0_12 : Int) (a0_13 : Int) (a0_14 : Int) (a0_15 : Int) (a0_16 : Int) (a0_17 : Int) (a0_18 : Int) (a0_19 : Int) (a0_20 : Int) (a0_21 : Int) (a0_22 : Int) (a0_23 : Int) (a0_24 : Int) (a0_25 : Int) (a0_26 : Int) (a0_27 : Int) (a0_28 : Int) (a0_29 : Int) (A1 : Option Addr) (c1 : Nat) (l1 : List S60) (p : S28) (r : List S28) (w : World) (hG : Glob w) (hr0_5 : Kd.C (Kd.int .i64) w A0_5 l0_5.length l0_5) (hc0_5 : l0_5.length ≤ c0_5) (hr1 : Kd.C k60 w A1 l1.length l1) (hc1 : l1.length ≤ c1) (hl : l1.length ≤ 1000)
    (hz : policy_Zero.f a0_0 a0_1 a0_2 a0_3 a0_4 l0_5 a0_6 a0_7 a0_8 a0_9 a0_10 a0_11 a0_12 a0_13 a0_14 a0_15 a0_16 a0_17 a0_18 a0_19 a0_20 a0_21 a0_22 a0_23 a0_24 a0_25 a0_26 a0_27 a0_28 a0_29 = some (p.f0, p.f1, p.f2, p.f3, p.f4, p.f5, p.f6, p.f7, p.f8, p.f9, p.f10, p.f11)) (h : locumlaw13_walk.go k a0_0 a0_1 a0_2 a0_3 a0_4 l0_5 a0_6 a0_7 a0_8 a0_9 a0_10 a0_11 a0_12 a0_13 a0_14 a0_15 a0_16 a0_17 a0_18 a0_19 a0_20 a0_21 a0_22 a0_23 a0_24 a0_25 a0_26 a0_27 a0_28 a0_29 l1 p [p] = some r) :
    Calls Tryd.prog 18 #[.agg #[.int .i64 a0_0, .int .i64 a0_1, .int .i64 a0_2, .int .i64 a0_3, .int .i64 a0_4, .slice A0_5 l0_5.length c0_5, .int .i64 a0_6, .int .i64 a0_7, .int .i64 a0_8, .int .i64 a0_9, .int .i64 a0_10, .int .i64 a0_11, .int .i64 a0_12, .int .i64 a0_13, .int .i64 a0_14, .int .i64 a0_15, .int .i64 a0_16, .int .i64 a0_17, .int .i64 a0_18, .int .i64 a0_19, .int .i64 a0_20, .int .i64 a0_21, .int .i64 a0_22, .int .i64 a0_23, .int .i64 a0_24, .int .i64 a0_25, .int .i64 a0_26, .int .i64 a0_27, .int .i64 a0_28, .int .i64 a0_29], .slice A1 l1.length c1] w fun e w' => ∃ v0_ : Value, e = .returned (v0_) ∧ Kd.R k28 28 w' w.heap.size (fun _ => True) v0_ r ∧ Below w.heap.size w w' := by
  have HG := Aside0.mk hG
  have HR5 := Aside0.mk hr0_5
  have HC5 := Aside0.mk hc0_5
  have HR1 := Aside0.mk hr1
  have hZ := Aside0.mk hz
  have HH := Aside0.mk h
  have Bw := Aside0.mk (Below.refl w.heap.size w)
  clear hG hr0_5 hc0_5 hr1 hz h
  go_enter Tryd.func18, Tryd.ntmps18
  go_wp2_with (first | ((with_reducible refine gate_dst (N := 2) rfl ?_); refine box_event ?hg (N := 2) ?hd (cs := #[.int .i64 a0_0, .int .i64 a0_1, .int .i64 a0_2, .int .i64 a0_3, .int .i64 a0_4, .slice A0_5 l0_5.length c0_5, .int .i64 a0_6, .int .i64 a0_7, .int .i64 a0_8, .int .i64 a0_9, .int .i64 a0_10, .int .i64 a0_11, .int .i64 a0_12, .int .i64 a0_13, .int .i64 a0_14, .int .i64 a0_15, .int .i64 a0_16, .int .i64 a0_17, .int .i64 a0_18, .int .i64 a0_19, .int .i64 a0_20, .int .i64 a0_21, .int .i64 a0_22, .int .i64 a0_23, .int .i64 a0_24, .int .i64 a0_25, .int .i64 a0_26, .int .i64 a0_27, .int .i64 a0_28, .int .i64 a0_29]) (t := 24) ?hr ?_; (case hd => rfl); (case hg => rfl); (case hr => as_aux_lemma => kernel_rfl); intro g1 hg Wa0 hbox hb; have nk_ := Aside0.mk hbox; have Sw_c := Aside0.mk (show _ ≤ g1 by rw [hg]; exact Bw.out.size); have n0_ := Aside0.mk (locumlaw13_walk.bel Bw.out hb); clear Bw; have Bw := n0_; clear n0_; have Kc := nk_; clear nk_ hg hbox hb) | ((with_reducible refine gate_dst (N := 10) rfl ?_); refine wpList_load_row rfl 24 (.tmp 2) rfl g1 rfl 24 #[.int .i64 a0_0, .int .i64 a0_1, .int .i64 a0_2, .int .i64 a0_3, .int .i64 a0_4, .slice A0_5 l0_5.length c0_5, .int .i64 a0_6, .int .i64 a0_7, .int .i64 a0_8, .int .i64 a0_9, .int .i64 a0_10, .int .i64 a0_11, .int .i64 a0_12, .int .i64 a0_13, .int .i64 a0_14, .int .i64 a0_15, .int .i64 a0_16, .int .i64 a0_17, .int .i64 a0_18, .int .i64 a0_19, .int .i64 a0_20, .int .i64 a0_21, .int .i64 a0_22, .int .i64 a0_23, .int .i64 a0_24, .int .i64 a0_25, .int .i64 a0_26, .int .i64 a0_27, .int .i64 a0_28, .int .i64 a0_29] (0, 0) _ Kc.out Tryd.underlying24 rfl (by as_aux_lemma => kernel_rfl) ?_) | ((with_reducible refine gate_callee (f := 16) rfl ?_); refine goesL_ (some 11) rfl rfl Tryd.func16 (by kernel_rfl) rfl #[.agg #[.int .i64 a0_0, .int .i64 a0_1, .int .i64 a0_2, .int .i64 a0_3, .int .i64 a0_4, .slice A0_5 l0_5.length c0_5, .int .i64 a0_6, .int .i64 a0_7, .int .i64 a0_8, .int .i64 a0_9, .int .i64 a0_10, .int .i64 a0_11, .int .i64 a0_12, .int .i64 a0_13, .int .i64 a0_14, .int .i64 a0_15, .int .i64 a0_16, .int .i64 a0_17, .int .i64 a0_18, .int .i64 a0_19, .int .i64 a0_20, .int .i64 a0_21, .int .i64 a0_22, .int .i64 a0_23, .int .i64 a0_24, .int .i64 a0_25, .int .i64 a0_26, .int .i64 a0_27, .int .i64 a0_28, .int .i64 a0_29]] rfl (by (try simp only [List.map_toArray, List.map_cons, List.map_nil]); first | done | rfl) ?_; (with_reducible refine (policy_Zero.calls a0_0 a0_1 a0_2 a0_3 a0_4 _ _ l0_5 a0_6 a0_7 a0_8 a0_9 a0_10 a0_11 a0_12 a0_13 a0_14 a0_15 a0_16 a0_17 a0_18 a0_19 a0_20 a0_21 a0_22 a0_23 a0_24 a0_25 a0_26 a0_27 a0_28 a0_29 p.f0 p.f1 p.f2 p.f3 p.f4 p.f5 p.f6 p.f7 p.f8 p.f9 p.f10 p.f11 _ (Kd.C_below HR5.out Bw.out) HC5.out hZ.out).mono ?_); rintro e Wc1 ⟨v10, v11, rfl, hv10, hv11, hb⟩; refine ⟨_, rfl, ?_⟩; have OPl := Aside0.mk (policy_fade.own_mono (base' := w.heap.size) (Kd.own_of_R hv10) Bw.out.size); have OQl := Aside0.mk (policy_fade.own_mono (base' := w.heap.size) (Kd.own_of_R hv11) Bw.out.size); obtain ⟨APl, cPl, rfl⟩ := policy_fade.form OPl.out; obtain ⟨AQl, cQl, rfl⟩ := policy_fade.form OQl.out; clear hv10 hv11; have n0_ := Aside0.mk (blk_below Kc.out hb); have n1_ := Aside0.mk (locumlaw13_walk.bel Bw.out hb); clear Kc Bw; have Kc := n0_; have Bw := n1_; clear n0_ n1_; skip; clear hb) | ((with_reducible refine gate_dst (N := 5) rfl ?_); refine box_event ?hg (N := 5) ?hd (cs := #[.int .i64 0, .int .i64 0, .int .i64 0, .int .i64 0, .int .i64 0, .int .i64 0, .int .i64 0, .int .i64 0, .int .u64 0, .int .u64 0, .slice none 0 0, .slice none 0 0]) (t := 28) ?hr ?_; (case hd => rfl); (case hg => rfl); (case hr => as_aux_lemma => kernel_rfl); intro g5 hg Wa2 hbox hb; have nk_ := Aside0.mk hbox; have Sw_p := Aside0.mk (show _ ≤ g5 by rw [hg]; exact Bw.out.size); have Lc_p := Aside0.mk (show g1 < g5 by rw [hg]; exact blk_lt Kc.out); have n0_ := Aside0.mk (blk_below Kc.out hb); have n1_ := Aside0.mk (locumlaw13_walk.bel Bw.out hb); have n2_ := Aside0.mk (policy_Next.own_below OPl.out hb); have n3_ := Aside0.mk (policy_Next.own_below OQl.out hb); clear Kc Bw OPl OQl; have Kc := n0_; have Bw := n1_; have OPl := n2_; have OQl := n3_; clear n0_ n1_ n2_ n3_; have Kp := nk_; clear nk_ hg hbox hb) | ((with_reducible refine gate_store (t := 28) (p := 5) rfl ?_); refine store_row_event rfl 28 (.tmp 5) _ rfl g5 #[.int .i64 p.f0, .int .i64 p.f1, .int .i64 p.f2, .int .i64 p.f3, .int .i64 p.f4, .int .i64 p.f5, .int .i64 p.f6, .int .i64 p.f7, .int .u64 p.f8, .int .u64 p.f9, .slice APl p.f10.length cPl, .slice AQl p.f11.length cQl] rfl rfl 28 #[.int .i64 0, .int .i64 0, .int .i64 0, .int .i64 0, .int .i64 0, .int .i64 0, .int .i64 0, .int .i64 0, .int .u64 0, .int .u64 0, .slice none 0 0, .slice none 0 0] Kp.out (by as_aux_lemma => kernel_rfl) rfl (by as_aux_lemma => kernel_rfl) ?_; intro Ws3 hw; have n0_ := Aside0.mk (locumlaw13_walk.blkR Kc.out (Nat.ne_of_lt Lc_p.out) hw); have n1_ := Aside0.mk (locumlaw13_walk.blkS Kp.out hw); have n2_ := Aside0.mk (locumlaw13_walk.belR Bw.out Sw_p.out hw); have n3_ := Aside0.mk (policy_Next.own_row OPl.out (policy_Next.row_ne Kp.out (by decide) OPl.out) hw); have n4_ := Aside0.mk (policy_Next.own_row OQl.out (policy_Next.row_ne Kp.out (by decide) OQl.out) hw); clear Kc Kp Bw OPl OQl; have Kc := n0_; have Kp := n1_; have Bw := n2_; have OPl := n3_; have OQl := n4_; clear n0_ n1_ n2_ n3_ n4_; clear hw) | ((with_reducible refine gate_dst (N := 12) rfl ?_); refine wpList_load_row rfl 28 (.tmp 5) rfl g5 rfl 28 #[.int .i64 p.f0, .int .i64 p.f1, .int .i64 p.f2, .int .i64 p.f3, .int .i64 p.f4, .int .i64 p.f5, .int .i64 p.f6, .int .i64 p.f7, .int .u64 p.f8, .int .u64 p.f9, .slice APl p.f10.length cPl, .slice AQl p.f11.length cQl] (0, 0) _ Kp.out Tryd.underlying28 rfl (by as_aux_lemma => kernel_rfl) ?_) | ((with_reducible refine gate_dst (N := 13) rfl ?_); refine Kd.R_lit k28 (w0 := w) w.heap.size 28 rfl (N := 13) rfl (xs := [p]) (inner := [.int .i64 p.f0, .int .i64 p.f1, .int .i64 p.f2, .int .i64 p.f3, .int .i64 p.f4, .int .i64 p.f5, .int .i64 p.f6, .int .i64 p.f7, .int .u64 p.f8, .int .u64 p.f9, .slice APl p.f10.length cPl, .slice AQl p.f11.length cQl]) (ok := (fun k_ => k_ ≠ g5)) (okp := (fun k_ => k_ ≠ g5)) ?hrun (locumlaw13_walk.one OPl.out (fun k_ hk_ e_ => policy_Next.row_ne Kp.out (by decide) OPl.out (by rw [e_] at hk_; exact hk_.symm)) OQl.out (fun k_ hk_ e_ => policy_Next.row_ne Kp.out (by decide) OQl.out (by rw [e_] at hk_; exact hk_.symm))) (fun _ h_ => h_) (Nat.ne_of_gt (blk_lt Kp.out)) Bw.out Bw.out.size (by simp) ?_; (case hrun => first | (go_simp; done) | (go_simp; rfl)); intro v1 Wl hv1 hbw hgr hbk; have hb := policy_Next.below_grown hgr; have n0_ := Aside0.mk (blk_below Kc.out hb); have n1_ := Aside0.mk (blk_below Kp.out hb); have n2_ := Aside0.mk (locumlaw13_walk.bel Bw.out hb); have n3_ := Aside0.mk (policy_Next.own_below OPl.out hb); have n4_ := Aside0.mk (policy_Next.own_below OQl.out hb); clear Kc Kp Bw OPl OQl; have Kc := n0_; have Kp := n1_; have Bw := n2_; have OPl := n3_; have OQl := n4_; clear n0_ n1_ n2_ n3_ n4_; have HO := Aside0.mk hv1; clear hv1 hbw hgr hbk hb))
  have Lc_5 := Lc_p
  have S5 := Sw_p
  have S1 := Sw_c
  clear Lc_p Sw_p Sw_c hZ
  go_loopg [6, 7] l1.length (fun gk v i wr => ∃ (j : Nat) (p : S28) (xs : List S28) (APl AQl : Option Addr) (cPl cQl : Nat), j + gk = l1.length ∧ i = .int .i64 j ∧ Aside0 (locumlaw13_walk.go k a0_0 a0_1 a0_2 a0_3 a0_4 l0_5 a0_6 a0_7 a0_8 a0_9 a0_10 a0_11 a0_12 a0_13 a0_14 a0_15 a0_16 a0_17 a0_18 a0_19 a0_20 a0_21 a0_22 a0_23 a0_24 a0_25 a0_26 a0_27 a0_28 a0_29 (l1.drop j) p xs = some r) ∧ Aside0 (xs.length ≤ j + 1) ∧ Aside0 (wr.heap[g1]? = some (.cells #[.int .i64 a0_0, .int .i64 a0_1, .int .i64 a0_2, .int .i64 a0_3, .int .i64 a0_4, .slice A0_5 l0_5.length c0_5, .int .i64 a0_6, .int .i64 a0_7, .int .i64 a0_8, .int .i64 a0_9, .int .i64 a0_10, .int .i64 a0_11, .int .i64 a0_12, .int .i64 a0_13, .int .i64 a0_14, .int .i64 a0_15, .int .i64 a0_16, .int .i64 a0_17, .int .i64 a0_18, .int .i64 a0_19, .int .i64 a0_20, .int .i64 a0_21, .int .i64 a0_22, .int .i64 a0_23, .int .i64 a0_24, .int .i64 a0_25, .int .i64 a0_26, .int .i64 a0_27, .int .i64 a0_28, .int .i64 a0_29] 24 (0, 0))) ∧ Aside0 (wr.heap[g5]? = some (.cells #[.int .i64 p.f0, .int .i64 p.f1, .int .i64 p.f2, .int .i64 p.f3, .int .i64 p.f4, .int .i64 p.f5, .int .i64 p.f6, .int .i64 p.f7, .int .u64 p.f8, .int .u64 p.f9, .slice APl p.f10.length cPl, .slice AQl p.f11.length cQl] 28 (0, 0))) ∧ Aside0 (Below w.heap.size w wr) ∧ Aside0 (World.ownsRow wr w.heap.size 3 1 (.slice APl p.f10.length cPl) p.f10.length (p.f10.map (Value.int .i64))) ∧ Aside0 (World.ownsRow wr w.heap.size 2 1 (.slice AQl p.f11.length cQl) p.f11.length (p.f11.map (Value.int .i64))) ∧ Aside0 (Kd.R k28 28 wr w.heap.size (fun k_ => k_ ≠ g5) v xs))
  case atStart => exact ⟨0, p, [p], APl, AQl, cPl, cQl, by omega, rfl, ⟨by rw [List.drop_zero]; exact HH.out⟩, ⟨by simp⟩, Kc, Kp, Bw, OPl, OQl, HO⟩
  case round =>
    clear HH Kc Kp Bw OPl OQl HO
    skip
    obtain ⟨j, p, xs, APl, AQl, cPl, cQl, hk, rfl, HH, HL, Kc, Kp, Bw, OPl, OQl, HO⟩ := hrel
    cases gk with
    | zero =>
      have hkl : ¬ j < l1.length := by omega
      have H := HH.out
      rw [List.drop_of_length_le (by omega)] at H
      simp only [locumlaw13_walk.go] at H
      obtain rfl : xs = r := Option.some.inj H
      go_wp2
      go_ret
      exact ⟨_, rfl, Kd.R_mono HO.out (fun _ _ => trivial), Bw.out⟩
    | succ gk =>
      have hkl : j < l1.length := by omega
      have H := HH.out
      rw [List.drop_eq_getElem_cons hkl] at H
      simp only [locumlaw13_walk.go] at H
      obtain ⟨rr, hN, H⟩ := Option.bind_eq_some_iff.mp H
      obtain ⟨ev, hev⟩ : ∃ e_ : S60, l1[j] = e_ := ⟨_, rfl⟩
      rw [hev] at hN
      have hrd : rd_T60 l1 (j : Int) = ev := by rw [← hev]; unfold rd_T60; simp [List.getD, hkl]
      obtain ⟨q0, q1, q2, q3, q4, q5, q6, q7, q8, q9, q10, q11, b⟩ := rr
      obtain ⟨q, hq⟩ : ∃ q_ : S28, q_ = ⟨q0, q1, q2, q3, q4, q5, q6, q7, q8, q9, q10, q11⟩ := ⟨_, rfl⟩
      have HN := Aside0.mk (show policy_Next.f k a0_0 a0_1 a0_2 a0_3 a0_4 l0_5 a0_6 a0_7 a0_8 a0_9 a0_10 a0_11 a0_12 a0_13 a0_14 a0_15 a0_16 a0_17 a0_18 a0_19 a0_20 a0_21 a0_22 a0_23 a0_24 a0_25 a0_26 a0_27 a0_28 a0_29 p.f0 p.f1 p.f2 p.f3 p.f4 p.f5 p.f6 p.f7 p.f8 p.f9 p.f10 p.f11 ev.f0 ev.f1 = some (q.f0, q.f1, q.f2, q.f3, q.f4, q.f5, q.f6, q.f7, q.f8, q.f9, q.f10, q.f11, b) by rw [hq]; exact hN)
      have HG2 := Aside0.mk (show (if b = true then locumlaw13_walk.go k a0_0 a0_1 a0_2 a0_3 a0_4 l0_5 a0_6 a0_7 a0_8 a0_9 a0_10 a0_11 a0_12 a0_13 a0_14 a0_15 a0_16 a0_17 a0_18 a0_19 a0_20 a0_21 a0_22 a0_23 a0_24 a0_25 a0_26 a0_27 a0_28 a0_29 (l1.drop (j + 1)) q (xs ++ [q]) else locumlaw13_walk.go k a0_0 a0_1 a0_2 a0_3 a0_4 l0_5 a0_6 a0_7 a0_8 a0_9 a0_10 a0_11 a0_12 a0_13 a0_14 a0_15 a0_16 a0_17 a0_18 a0_19 a0_20 a0_21 a0_22 a0_23 a0_24 a0_25 a0_26 a0_27 a0_28 a0_29 (l1.drop (j + 1)) p xs) = some r by rw [hq]; exact H)
      clear hN H hq HH
      obtain ⟨ad, e_, hx0, hx1⟩ := at_T60 HR1.out (j : Int) (by omega) (by omega)
      cases e_
      rw [Int.toNat_natCast] at hx0 hx1
      rw [hrd] at hx0 hx1
      have HX0 := Aside0.mk hx0
      have HX1 := Aside0.mk hx1
      clear hx0 hx1 hrd hev
      go_upto_region 6 with (fail)
      go_cut [8, 9] (fun v8 v9 wc => ∃ (g8 : Nat) (APq AQq : Option Addr) (cPq cQq : Nat), v8 = .pointer (some ⟨g8, 0, none⟩) ∧ v9 = .bool b ∧ Aside0 (g5 < g8) ∧ Aside0 (g1 < g8) ∧ Aside0 (wc.heap[g8]? = some (.cells #[.int .i64 q.f0, .int .i64 q.f1, .int .i64 q.f2, .int .i64 q.f3, .int .i64 q.f4, .int .i64 q.f5, .int .i64 q.f6, .int .i64 q.f7, .int .u64 q.f8, .int .u64 q.f9, .slice APq q.f10.length cPq, .slice AQq q.f11.length cQq] 28 (0, 0))) ∧ Aside0 (World.ownsRow wc w.heap.size 3 1 (.slice APq q.f10.length cPq) q.f10.length (q.f10.map (Value.int .i64))) ∧ Aside0 (World.ownsRow wc w.heap.size 2 1 (.slice AQq q.f11.length cQq) q.f11.length (q.f11.map (Value.int .i64))) ∧ Aside0 (wc.heap[g1]? = some (.cells #[.int .i64 a0_0, .int .i64 a0_1, .int .i64 a0_2, .int .i64 a0_3, .int .i64 a0_4, .slice A0_5 l0_5.length c0_5, .int .i64 a0_6, .int .i64 a0_7, .int .i64 a0_8, .int .i64 a0_9, .int .i64 a0_10, .int .i64 a0_11, .int .i64 a0_12, .int .i64 a0_13, .int .i64 a0_14, .int .i64 a0_15, .int .i64 a0_16, .int .i64 a0_17, .int .i64 a0_18, .int .i64 a0_19, .int .i64 a0_20, .int .i64 a0_21, .int .i64 a0_22, .int .i64 a0_23, .int .i64 a0_24, .int .i64 a0_25, .int .i64 a0_26, .int .i64 a0_27, .int .i64 a0_28, .int .i64 a0_29] 24 (0, 0))) ∧ Aside0 (wc.heap[g5]? = some (.cells #[.int .i64 p.f0, .int .i64 p.f1, .int .i64 p.f2, .int .i64 p.f3, .int .i64 p.f4, .int .i64 p.f5, .int .i64 p.f6, .int .i64 p.f7, .int .u64 p.f8, .int .u64 p.f9, .slice APl p.f10.length cPl, .slice AQl p.f11.length cQl] 28 (0, 0))) ∧ Aside0 (Below w.heap.size w wc) ∧ Aside0 (World.ownsRow wc w.heap.size 3 1 (.slice APl p.f10.length cPl) p.f10.length (p.f10.map (Value.int .i64))) ∧ Aside0 (World.ownsRow wc w.heap.size 2 1 (.slice AQl p.f11.length cQl) p.f11.length (p.f11.map (Value.int .i64))) ∧ Aside0 (Kd.R k28 28 wc w.heap.size (fun k_ => k_ ≠ g5) u6 xs))
      case first =>
        try go_wp2
        refine start_ (n := 19) (ds := []) (S := fun w' => w'.heap[g1]? = some (.cells #[.int .i64 a0_0, .int .i64 a0_1, .int .i64 a0_2, .int .i64 a0_3, .int .i64 a0_4, .slice A0_5 l0_5.length c0_5, .int .i64 a0_6, .int .i64 a0_7, .int .i64 a0_8, .int .i64 a0_9, .int .i64 a0_10, .int .i64 a0_11, .int .i64 a0_12, .int .i64 a0_13, .int .i64 a0_14, .int .i64 a0_15, .int .i64 a0_16, .int .i64 a0_17, .int .i64 a0_18, .int .i64 a0_19, .int .i64 a0_20, .int .i64 a0_21, .int .i64 a0_22, .int .i64 a0_23, .int .i64 a0_24, .int .i64 a0_25, .int .i64 a0_26, .int .i64 a0_27, .int .i64 a0_28, .int .i64 a0_29] 24 (0, 0)) ∧ w'.heap[g5]? = some (.cells #[.int .i64 p.f0, .int .i64 p.f1, .int .i64 p.f2, .int .i64 p.f3, .int .i64 p.f4, .int .i64 p.f5, .int .i64 p.f6, .int .i64 p.f7, .int .u64 p.f8, .int .u64 p.f9, .slice APl p.f10.length cPl, .slice AQl p.f11.length cQl] 28 (0, 0)) ∧ w'.cell? (ad.add (j * 2)) = some (.int .u64 ev.f0) ∧ w'.cell? ⟨(ad.add (j * 2)).block, (ad.add (j * 2)).off + 1, none⟩ = some (.int .i64 ev.f1)) #[false, false, false, false, false, false, false, false, false, false, false, false, false, false, false, false, false, false, false] (by kernel_rfl) rfl rfl ⟨Kc.out, Kp.out, (Bw.out.cell (World.block_lt_of_cell? w _ HX0.out)).trans HX0.out, (Bw.out.cell (World.block_lt_of_cell? w _ HX1.out)).trans HX1.out⟩ (fun hHeld => ?_)
        have n0_ := Aside0.mk (show wr.drew.heap[g1]? = _ from Kc.out)
        have n1_ := Aside0.mk (show wr.drew.heap[g5]? = _ from Kp.out)
        have n2_ := Aside0.mk (below_drew Bw.out)
        have n3_ := Aside0.mk (show World.ownsRow wr.drew w.heap.size 3 1 (.slice APl p.f10.length cPl) p.f10.length (p.f10.map (Value.int .i64)) from OPl.out)
        have n4_ := Aside0.mk (show World.ownsRow wr.drew w.heap.size 2 1 (.slice AQl p.f11.length cQl) p.f11.length (p.f11.map (Value.int .i64)) from OQl.out)
        have n5_ := Aside0.mk (Kd.R_drew HO.out)
        clear Kc Kp Bw OPl OQl HO
        have Kc := n0_
        have Kp := n1_
        have Bw := n2_
        have OPl := n3_
        have OQl := n4_
        have HO := n5_
        clear n0_ n1_ n2_ n3_ n4_ n5_
        generalize wr.drew = Wd at Kc Kp Bw OPl OQl HO hHeld ⊢
        refine take_ (i := 0) (N := some 21) (v := ?_) (a' := ?_) #[true, false, false, false, false, false, false, false, false, false, false, false, false, false, false, false, false, false, false] rfl rfl (by kernel_rfl) (fun _ _ _ h => h) (Or.inl ⟨by rfl, ?_⟩) hHeld ?_ ?_
        rotate_left
        · rintro w' ⟨S1_, S2_, s3_, s4_⟩
          refine (locumlaw13_walk.run_load 24 _ (by rfl) g1 (by rfl) 24 _ (0, 0) _ Tryd.underlying24 rfl (by as_aux_lemma => kernel_rfl) S1_).trans ?_
          with_reducible rfl
        rotate_left
        · simp only [Act.put, List.setIfInBounds_toArray, List.set_cons_zero, List.set_cons_succ, i64_w, i32_w]
          rfl
        refine take_ (i := 1) (N := some 22) (v := ?_) (a' := ?_) #[true, true, false, false, false, false, false, false, false, false, false, false, false, false, false, false, false, false, false] rfl rfl (by kernel_rfl) (fun _ _ _ h => h) (Or.inl ⟨by rfl, ?_⟩) hHeld ?_ ?_
        rotate_left
        · rintro w' ⟨S1_, S2_, s3_, s4_⟩
          refine (locumlaw13_walk.run_load 28 _ (by rfl) g5 (by rfl) 28 _ (0, 0) _ Tryd.underlying28 rfl (by as_aux_lemma => kernel_rfl) S2_).trans ?_
          with_reducible rfl
        rotate_left
        · simp only [Act.put, List.setIfInBounds_toArray, List.set_cons_zero, List.set_cons_succ, i64_w, i32_w]
          rfl
        refine pure_ (i := 2) (N := some 23) (v := ?_) (a' := ?_) #[true, true, true, false, false, false, false, false, false, false, false, false, false, false, false, false, false, false, false] rfl rfl (by kernel_rfl) (fun _ _ _ h => h) (Or.inl ⟨by rfl, ?_⟩) ?_ ?_
        rotate_left
        · intro w'
          go_simp
          with_reducible rfl
        rotate_left
        · simp only [Act.put, List.setIfInBounds_toArray, List.set_cons_zero, List.set_cons_succ, i64_w, i32_w]
          rfl
        refine pure_ (i := 3) (N := some 24) (v := ?_) (a' := ?_) #[true, true, true, true, false, false, false, false, false, false, false, false, false, false, false, false, false, false, false] rfl rfl (by kernel_rfl) (fun _ _ _ h => h) (Or.inl ⟨by rfl, ?_⟩) ?_ ?_
        rotate_left
        · intro w'
          go_simp
          with_reducible rfl
        rotate_left
        · simp only [Act.put, List.setIfInBounds_toArray, List.set_cons_zero, List.set_cons_succ, i64_w, i32_w]
          rfl
        refine pure_ (i := 4) (N := some 25) (v := ?_) (a' := ?_) #[true, true, true, true, true, false, false, false, false, false, false, false, false, false, false, false, false, false, false] rfl rfl (by kernel_rfl) (fun _ _ _ h => h) (Or.inl ⟨by rfl, ?_⟩) ?_ ?_
        rotate_left
        · intro w'
          go_simp
          with_reducible rfl
        rotate_left
        · simp only [Act.put, List.setIfInBounds_toArray, List.set_cons_zero, List.set_cons_succ, i64_w, i32_w]
          rfl
        refine pure_ (i := 5) (N := some 26) (v := ?_) (a' := ?_) #[true, true, true, true, true, true, false, false, false, false, false, false, false, false, false, false, false, false, false] rfl rfl (by kernel_rfl) (fun _ _ _ h => h) (Or.inl ⟨by rfl, ?_⟩) ?_ ?_
        rotate_left
        · intro w'
          go_simp
          with_reducible rfl
        rotate_left
        · simp only [Act.put, List.setIfInBounds_toArray, List.set_cons_zero, List.set_cons_succ, i64_w, i32_w]
          rfl
        refine take_ (i := 6) (N := some 27) (v := ?_) (a' := ?_) #[true, true, true, true, true, true, true, false, false, false, false, false, false, false, false, false, false, false, false] rfl rfl (by kernel_rfl) (fun _ _ _ h => h) (Or.inl ⟨by rfl, ?_⟩) hHeld ?_ ?_
        rotate_left
        · rintro w' ⟨S1_, S2_, s3_, s4_⟩
          go_simp
          with_reducible rfl
        rotate_left
        · simp only [Act.put, List.setIfInBounds_toArray, List.set_cons_zero, List.set_cons_succ, i64_w, i32_w]
          rfl
        refine pure_ (i := 7) (N := some 28) (v := ?_) (a' := ?_) #[true, true, true, true, true, true, true, true, false, false, false, false, false, false, false, false, false, false, false] rfl rfl (by kernel_rfl) (fun _ _ _ h => h) (Or.inl ⟨by rfl, ?_⟩) ?_ ?_
        rotate_left
        · intro w'
          go_simp
          with_reducible rfl
        rotate_left
        · simp only [Act.put, List.setIfInBounds_toArray, List.set_cons_zero, List.set_cons_succ, i64_w, i32_w]
          rfl
        refine pure_ (i := 8) (N := some 29) (v := ?_) (a' := ?_) #[true, true, true, true, true, true, true, true, true, false, false, false, false, false, false, false, false, false, false] rfl rfl (by kernel_rfl) (fun _ _ _ h => h) (Or.inl ⟨by rfl, ?_⟩) ?_ ?_
        rotate_left
        · intro w'
          go_simp
          with_reducible rfl
        rotate_left
        · simp only [Act.put, List.setIfInBounds_toArray, List.set_cons_zero, List.set_cons_succ, i64_w, i32_w]
          rfl
        refine pure_ (i := 9) (N := some 30) (v := ?_) (a' := ?_) #[true, true, true, true, true, true, true, true, true, true, false, false, false, false, false, false, false, false, false] rfl rfl (by kernel_rfl) (fun _ _ _ h => h) (Or.inl ⟨by rfl, ?_⟩) ?_ ?_
        rotate_left
        · intro w'
          go_simp
          with_reducible rfl
        rotate_left
        · simp only [Act.put, List.setIfInBounds_toArray, List.set_cons_zero, List.set_cons_succ, i64_w, i32_w]
          rfl
        refine pure_ (i := 10) (N := some 31) (v := ?_) (a' := ?_) #[true, true, true, true, true, true, true, true, true, true, true, false, false, false, false, false, false, false, false] rfl rfl (by kernel_rfl) (fun _ _ _ h => h) (Or.inl ⟨by rfl, ?_⟩) ?_ ?_
        rotate_left
        · intro w'
          go_simp
          with_reducible rfl
        rotate_left
        · simp only [Act.put, List.setIfInBounds_toArray, List.set_cons_zero, List.set_cons_succ, i64_w, i32_w]
          rfl
        refine take_ (i := 11) (N := some 32) (v := ?_) (a' := ?_) #[true, true, true, true, true, true, true, true, true, true, true, true, false, false, false, false, false, false, false] rfl rfl (by kernel_rfl) (fun _ _ _ h => h) (Or.inl ⟨by rfl, ?_⟩) hHeld ?_ ?_
        rotate_left
        · rintro w' ⟨S1_, S2_, s3_, s4_⟩
          go_simp
          with_reducible rfl
        rotate_left
        · simp only [Act.put, List.setIfInBounds_toArray, List.set_cons_zero, List.set_cons_succ, i64_w, i32_w]
          rfl
        refine two_ (i := 12) (j := 16) (Ni := some 33) (Nj := some 8) #[true, true, true, true, true, true, true, true, true, true, true, true, true, false, false, false, false, false, false] #[true, true, true, true, true, true, true, true, true, true, true, true, false, false, false, false, true, false, false] rfl rfl rfl rfl (by kernel_rfl) (by decide) (by decide) (fun K hK => ?_) (fun K hK => ?_)
        · skip
          refine goes_ Tryd.func11 (by kernel_rfl) rfl #[.agg #[.int .i64 a0_0, .int .i64 a0_1, .int .i64 a0_2, .int .i64 a0_3, .int .i64 a0_4, .slice A0_5 l0_5.length c0_5, .int .i64 a0_6, .int .i64 a0_7, .int .i64 a0_8, .int .i64 a0_9, .int .i64 a0_10, .int .i64 a0_11, .int .i64 a0_12, .int .i64 a0_13, .int .i64 a0_14, .int .i64 a0_15, .int .i64 a0_16, .int .i64 a0_17, .int .i64 a0_18, .int .i64 a0_19, .int .i64 a0_20, .int .i64 a0_21, .int .i64 a0_22, .int .i64 a0_23, .int .i64 a0_24, .int .i64 a0_25, .int .i64 a0_26, .int .i64 a0_27, .int .i64 a0_28, .int .i64 a0_29], .agg #[.int .i64 p.f0, .int .i64 p.f1, .int .i64 p.f2, .int .i64 p.f3, .int .i64 p.f4, .int .i64 p.f5, .int .i64 p.f6, .int .i64 p.f7, .int .u64 p.f8, .int .u64 p.f9, .slice APl p.f10.length cPl, .slice AQl p.f11.length cQl], .int .u64 ev.f0, .int .i64 ev.f1] (by rfl) rfl rfl (by (try simp only [List.map_toArray, List.map_cons, List.map_nil]); first | done | rfl) ?_
          with_reducible refine (policy_Next.calls k a0_0 a0_1 a0_2 a0_3 a0_4 _ _ l0_5 a0_6 a0_7 a0_8 a0_9 a0_10 a0_11 a0_12 a0_13 a0_14 a0_15 a0_16 a0_17 a0_18 a0_19 a0_20 a0_21 a0_22 a0_23 a0_24 a0_25 a0_26 a0_27 a0_28 a0_29 p.f0 p.f1 p.f2 p.f3 p.f4 p.f5 p.f6 p.f7 p.f8 p.f9 _ _ p.f10 _ _ p.f11 ev.f0 ev.f1 q.f0 q.f1 q.f2 q.f3 q.f4 q.f5 q.f6 q.f7 q.f8 q.f9 q.f10 q.f11 b _ (HG.out.below Bw.out) (Kd.C_below HR5.out Bw.out) HC5.out (Kd.R_reads' (policy_Next.R_own rfl OPl.out)).2.2 (Kd.R_reads' (policy_Next.R_own rfl OPl.out)).2.1 (Kd.R_reads' (policy_Next.R_own rfl OQl.out)).2.2 (Kd.R_reads' (policy_Next.R_own rfl OQl.out)).2.1 HN.out).mono ?_
          rintro e Wc201 ⟨v10, v11, rfl, hv10, hv11, hb⟩
          refine ⟨_, rfl, ?_⟩
          have OPq := Aside0.mk (policy_fade.own_mono (base' := w.heap.size) (Kd.own_of_R hv10) Bw.out.size)
          have OQq := Aside0.mk (policy_fade.own_mono (base' := w.heap.size) (Kd.own_of_R hv11) Bw.out.size)
          obtain ⟨APq, cPq, rfl⟩ := policy_fade.form OPq.out
          obtain ⟨AQq, cQq, rfl⟩ := policy_fade.form OQq.out
          clear hv10 hv11
          have n0_ := Aside0.mk (blk_below Kc.out hb)
          have n1_ := Aside0.mk (blk_below Kp.out hb)
          have n2_ := Aside0.mk (locumlaw13_walk.bel Bw.out hb)
          have n3_ := Aside0.mk (policy_Next.own_below OPl.out hb)
          have n4_ := Aside0.mk (policy_Next.own_below OQl.out hb)
          clear Kc Kp Bw OPl OQl
          have Kc := n0_
          have Kp := n1_
          have Bw := n2_
          have OPl := n3_
          have OQl := n4_
          clear n0_ n1_ n2_ n3_ n4_
          have nr_ := Aside0.mk (Kd.R_below HO.out hb)
          clear HO
          have HO := nr_
          clear nr_
          skip
          clear hb
          refine hK.out _ _ ⟨Kc.out, Kp.out, (Bw.out.cell (World.block_lt_of_cell? w _ HX0.out)).trans HX0.out, (Bw.out.cell (World.block_lt_of_cell? w _ HX1.out)).trans HX1.out⟩ (fun hHeld => ?_)
          clear hK K
          refine norm_ (a' := ?_) ?_ ?_
          rotate_left
          · show Act.put _ (some 33) _ = _
            simp only [Act.put, List.setIfInBounds_toArray, List.set_cons_zero, List.set_cons_succ, i64_w, i32_w]
            rfl
          refine pure_ (i := 13) (N := some 20) (v := ?_) (a' := ?_) #[true, true, true, true, true, true, true, true, true, true, true, true, true, true, false, false, false, false, false] rfl rfl (by kernel_rfl) (fun _ _ _ h => h) (Or.inl ⟨by rfl, ?_⟩) ?_ ?_
          rotate_left
          · intro w'
            go_simp
            with_reducible rfl
          rotate_left
          · simp only [Act.put, List.setIfInBounds_toArray, List.set_cons_zero, List.set_cons_succ, i64_w, i32_w]
            rfl
          refine pure_ (i := 14) (N := some 34) (v := ?_) (a' := ?_) #[true, true, true, true, true, true, true, true, true, true, true, true, true, true, true, false, false, false, false] rfl rfl (by kernel_rfl) (fun _ _ _ h => h) (Or.inl ⟨by rfl, ?_⟩) ?_ ?_
          rotate_left
          · intro w'
            go_simp
            with_reducible rfl
          rotate_left
          · simp only [Act.put, List.setIfInBounds_toArray, List.set_cons_zero, List.set_cons_succ, i64_w, i32_w]
            rfl
          refine pure_ (i := 15) (N := some 35) (v := ?_) (a' := ?_) #[true, true, true, true, true, true, true, true, true, true, true, true, true, true, true, true, false, false, false] rfl rfl (by kernel_rfl) (fun _ _ _ h => h) (Or.inl ⟨by rfl, ?_⟩) ?_ ?_
          rotate_left
          · intro w'
            go_simp
            with_reducible rfl
          rotate_left
          · simp only [Act.put, List.setIfInBounds_toArray, List.set_cons_zero, List.set_cons_succ, i64_w, i32_w]
            rfl
          refine one_ (i := 16) (N := some 8) #[true, true, true, true, true, true, true, true, true, true, true, true, true, true, true, true, true, false, false] rfl rfl (by kernel_rfl) (by decide) (fun K hK => ?_)
          refine box_step ?hg (N := 8) ?hd (cs := #[.int .i64 0, .int .i64 0, .int .i64 0, .int .i64 0, .int .i64 0, .int .i64 0, .int .i64 0, .int .i64 0, .int .u64 0, .int .u64 0, .slice none 0 0, .slice none 0 0]) (t := 28) ?hr ?_; (case hd => rfl); (case hg => rfl); (case hr => first | (go_simp; done) | (go_simp; rfl))
          intro g8 hg Wg202 hbox hb
          have nk_ := Aside0.mk hbox
          have Sw_q := Aside0.mk (show _ ≤ g8 by rw [hg]; exact Bw.out.size)
          have Lc_q := Aside0.mk (show g1 < g8 by rw [hg]; exact blk_lt Kc.out)
          have Lp_q := Aside0.mk (show g5 < g8 by rw [hg]; exact blk_lt Kp.out)
          have nh_ := Aside0.mk (Kd.R_mono (ok' := fun k_ => k_ ≠ g5 ∧ k_ ≠ g8) (Kd.R_bound HO.out) (fun k_ h_ => ⟨h_.1, by have h2_ := h_.2.2.1; omega⟩))
          clear HO
          have HO := nh_
          clear nh_
          have n0_ := Aside0.mk (blk_below Kc.out hb)
          have n1_ := Aside0.mk (blk_below Kp.out hb)
          have n2_ := Aside0.mk (locumlaw13_walk.bel Bw.out hb)
          have n3_ := Aside0.mk (policy_Next.own_below OPl.out hb)
          have n4_ := Aside0.mk (policy_Next.own_below OQl.out hb)
          have n5_ := Aside0.mk (policy_Next.own_below OPq.out hb)
          have n6_ := Aside0.mk (policy_Next.own_below OQq.out hb)
          clear Kc Kp Bw OPl OQl OPq OQq
          have Kc := n0_
          have Kp := n1_
          have Bw := n2_
          have OPl := n3_
          have OQl := n4_
          have OPq := n5_
          have OQq := n6_
          clear n0_ n1_ n2_ n3_ n4_ n5_ n6_
          have nr_ := Aside0.mk (Kd.R_below HO.out hb)
          clear HO
          have HO := nr_
          clear nr_
          have Kq := nk_
          clear nk_ hg hbox hb
          refine hK.out _ _ ⟨Kc.out, Kp.out, (Bw.out.cell (World.block_lt_of_cell? w _ HX0.out)).trans HX0.out, (Bw.out.cell (World.block_lt_of_cell? w _ HX1.out)).trans HX1.out⟩ (fun hHeld => ?_)
          clear hK K
          refine norm_ (a' := ?_) ?_ ?_
          rotate_left
          · show Act.put _ (some 8) _ = _
            simp only [Act.put, List.setIfInBounds_toArray, List.set_cons_zero, List.set_cons_succ, i64_w, i32_w]
            rfl
          refine one_ (i := 17) (N := none) #[true, true, true, true, true, true, true, true, true, true, true, true, true, true, true, true, true, true, false] rfl rfl (by kernel_rfl) (by decide) (fun K hK => ?_)
          refine locumlaw13_walk.store_step (by rfl) rfl 28 (.tmp 8) (.tmp 34) (by rfl) g8 #[.int .i64 q.f0, .int .i64 q.f1, .int .i64 q.f2, .int .i64 q.f3, .int .i64 q.f4, .int .i64 q.f5, .int .i64 q.f6, .int .i64 q.f7, .int .u64 q.f8, .int .u64 q.f9, .slice APq q.f10.length cPq, .slice AQq q.f11.length cQq] (by rfl) (by rfl) 28 #[.int .i64 0, .int .i64 0, .int .i64 0, .int .i64 0, .int .i64 0, .int .i64 0, .int .i64 0, .int .i64 0, .int .u64 0, .int .u64 0, .slice none 0 0, .slice none 0 0] Kq.out (by as_aux_lemma => kernel_rfl) rfl (by as_aux_lemma => kernel_rfl) ?_
          intro Wq203 hw
          have n0_ := Aside0.mk (locumlaw13_walk.blkR Kc.out (Nat.ne_of_lt Lc_q.out) hw)
          have n1_ := Aside0.mk (locumlaw13_walk.blkR Kp.out (Nat.ne_of_lt Lp_q.out) hw)
          have n2_ := Aside0.mk (locumlaw13_walk.blkS Kq.out hw)
          have n3_ := Aside0.mk (locumlaw13_walk.belR Bw.out Sw_q.out hw)
          have n4_ := Aside0.mk (policy_Next.own_row OPl.out (policy_Next.row_ne Kq.out (by decide) OPl.out) hw)
          have n5_ := Aside0.mk (policy_Next.own_row OQl.out (policy_Next.row_ne Kq.out (by decide) OQl.out) hw)
          have n6_ := Aside0.mk (policy_Next.own_row OPq.out (policy_Next.row_ne Kq.out (by decide) OPq.out) hw)
          have n7_ := Aside0.mk (policy_Next.own_row OQq.out (policy_Next.row_ne Kq.out (by decide) OQq.out) hw)
          clear Kc Kp Kq Bw OPl OQl OPq OQq
          have Kc := n0_
          have Kp := n1_
          have Kq := n2_
          have Bw := n3_
          have OPl := n4_
          have OQl := n5_
          have OPq := n6_
          have OQq := n7_
          clear n0_ n1_ n2_ n3_ n4_ n5_ n6_ n7_
          have nr_ := Aside0.mk (locumlaw13_walk.R_row HO.out (fun k_ h_ => by first | exact h_ | exact h_.1 | exact h_.2) hw)
          clear HO
          have HO := nr_
          clear nr_
          clear hw
          refine hK.out _ _ ⟨Kc.out, Kp.out, (Bw.out.cell (World.block_lt_of_cell? w _ HX0.out)).trans HX0.out, (Bw.out.cell (World.block_lt_of_cell? w _ HX1.out)).trans HX1.out⟩ (fun hHeld => ?_)
          clear hK K
          refine pure_ (i := 18) (N := some 9) (v := ?_) (a' := ?_) #[true, true, true, true, true, true, true, true, true, true, true, true, true, true, true, true, true, true, true] rfl rfl (by kernel_rfl) (fun _ _ _ h => h) (Or.inl ⟨by rfl, ?_⟩) ?_ ?_
          rotate_left
          · intro w'
            go_simp
            with_reducible rfl
          rotate_left
          · simp only [Act.put, List.setIfInBounds_toArray, List.set_cons_zero, List.set_cons_succ, i64_w, i32_w]
            rfl
          refine done_ (by kernel_rfl) ?_
          try go_wp2
          go_meet
          case rel => exact ⟨g8, APq, AQq, cPq, cQq, rfl, rfl, Lp_q, Lc_q, Kq, OPq, OQq, Kc, Kp, Bw, OPl, OQl, ⟨Kd.R_mono HO.out (fun _ h_ => h_.1)⟩⟩
        · skip
          refine box_step ?hg (N := 8) ?hd (cs := #[.int .i64 0, .int .i64 0, .int .i64 0, .int .i64 0, .int .i64 0, .int .i64 0, .int .i64 0, .int .i64 0, .int .u64 0, .int .u64 0, .slice none 0 0, .slice none 0 0]) (t := 28) ?hr ?_; (case hd => rfl); (case hg => rfl); (case hr => first | (go_simp; done) | (go_simp; rfl))
          intro g8 hg Wg201 hbox hb
          have nk_ := Aside0.mk hbox
          have Sw_q := Aside0.mk (show _ ≤ g8 by rw [hg]; exact Bw.out.size)
          have Lc_q := Aside0.mk (show g1 < g8 by rw [hg]; exact blk_lt Kc.out)
          have Lp_q := Aside0.mk (show g5 < g8 by rw [hg]; exact blk_lt Kp.out)
          have nh_ := Aside0.mk (Kd.R_mono (ok' := fun k_ => k_ ≠ g5 ∧ k_ ≠ g8) (Kd.R_bound HO.out) (fun k_ h_ => ⟨h_.1, by have h2_ := h_.2.2.1; omega⟩))
          clear HO
          have HO := nh_
          clear nh_
          have n0_ := Aside0.mk (blk_below Kc.out hb)
          have n1_ := Aside0.mk (blk_below Kp.out hb)
          have n2_ := Aside0.mk (locumlaw13_walk.bel Bw.out hb)
          have n3_ := Aside0.mk (policy_Next.own_below OPl.out hb)
          have n4_ := Aside0.mk (policy_Next.own_below OQl.out hb)
          clear Kc Kp Bw OPl OQl
          have Kc := n0_
          have Kp := n1_
          have Bw := n2_
          have OPl := n3_
          have OQl := n4_
          clear n0_ n1_ n2_ n3_ n4_
          have nr_ := Aside0.mk (Kd.R_below HO.out hb)
          clear HO
          have HO := nr_
          clear nr_
          have Kq := nk_
          clear nk_ hg hbox hb
          refine hK.out _ _ ⟨Kc.out, Kp.out, (Bw.out.cell (World.block_lt_of_cell? w _ HX0.out)).trans HX0.out, (Bw.out.cell (World.block_lt_of_cell? w _ HX1.out)).trans HX1.out⟩ (fun hHeld => ?_)
          clear hK K
          refine norm_ (a' := ?_) ?_ ?_
          rotate_left
          · show Act.put _ (some 8) _ = _
            simp only [Act.put, List.setIfInBounds_toArray, List.set_cons_zero, List.set_cons_succ, i64_w, i32_w]
            rfl
          refine one_ (i := 12) (N := some 33) #[true, true, true, true, true, true, true, true, true, true, true, true, true, false, false, false, true, false, false] rfl rfl (by kernel_rfl) (by decide) (fun K hK => ?_)
          refine goes_ Tryd.func11 (by kernel_rfl) rfl #[.agg #[.int .i64 a0_0, .int .i64 a0_1, .int .i64 a0_2, .int .i64 a0_3, .int .i64 a0_4, .slice A0_5 l0_5.length c0_5, .int .i64 a0_6, .int .i64 a0_7, .int .i64 a0_8, .int .i64 a0_9, .int .i64 a0_10, .int .i64 a0_11, .int .i64 a0_12, .int .i64 a0_13, .int .i64 a0_14, .int .i64 a0_15, .int .i64 a0_16, .int .i64 a0_17, .int .i64 a0_18, .int .i64 a0_19, .int .i64 a0_20, .int .i64 a0_21, .int .i64 a0_22, .int .i64 a0_23, .int .i64 a0_24, .int .i64 a0_25, .int .i64 a0_26, .int .i64 a0_27, .int .i64 a0_28, .int .i64 a0_29], .agg #[.int .i64 p.f0, .int .i64 p.f1, .int .i64 p.f2, .int .i64 p.f3, .int .i64 p.f4, .int .i64 p.f5, .int .i64 p.f6, .int .i64 p.f7, .int .u64 p.f8, .int .u64 p.f9, .slice APl p.f10.length cPl, .slice AQl p.f11.length cQl], .int .u64 ev.f0, .int .i64 ev.f1] (by rfl) rfl rfl (by (try simp only [List.map_toArray, List.map_cons, List.map_nil]); first | done | rfl) ?_
          with_reducible refine (policy_Next.calls k a0_0 a0_1 a0_2 a0_3 a0_4 _ _ l0_5 a0_6 a0_7 a0_8 a0_9 a0_10 a0_11 a0_12 a0_13 a0_14 a0_15 a0_16 a0_17 a0_18 a0_19 a0_20 a0_21 a0_22 a0_23 a0_24 a0_25 a0_26 a0_27 a0_28 a0_29 p.f0 p.f1 p.f2 p.f3 p.f4 p.f5 p.f6 p.f7 p.f8 p.f9 _ _ p.f10 _ _ p.f11 ev.f0 ev.f1 q.f0 q.f1 q.f2 q.f3 q.f4 q.f5 q.f6 q.f7 q.f8 q.f9 q.f10 q.f11 b _ (HG.out.below Bw.out) (Kd.C_below HR5.out Bw.out) HC5.out (Kd.R_reads' (policy_Next.R_own rfl OPl.out)).2.2 (Kd.R_reads' (policy_Next.R_own rfl OPl.out)).2.1 (Kd.R_reads' (policy_Next.R_own rfl OQl.out)).2.2 (Kd.R_reads' (policy_Next.R_own rfl OQl.out)).2.1 HN.out).mono ?_
          rintro e Wc202 ⟨v10, v11, rfl, hv10, hv11, hb⟩
          refine ⟨_, rfl, ?_⟩
          have OPq := Aside0.mk (policy_fade.own_mono (base' := w.heap.size) (Kd.own_of_R hv10) Bw.out.size)
          have OQq := Aside0.mk (policy_fade.own_mono (base' := w.heap.size) (Kd.own_of_R hv11) Bw.out.size)
          obtain ⟨APq, cPq, rfl⟩ := policy_fade.form OPq.out
          obtain ⟨AQq, cQq, rfl⟩ := policy_fade.form OQq.out
          clear hv10 hv11
          have n0_ := Aside0.mk (blk_below Kc.out hb)
          have n1_ := Aside0.mk (blk_below Kp.out hb)
          have n2_ := Aside0.mk (blk_below Kq.out hb)
          have n3_ := Aside0.mk (locumlaw13_walk.bel Bw.out hb)
          have n4_ := Aside0.mk (policy_Next.own_below OPl.out hb)
          have n5_ := Aside0.mk (policy_Next.own_below OQl.out hb)
          clear Kc Kp Kq Bw OPl OQl
          have Kc := n0_
          have Kp := n1_
          have Kq := n2_
          have Bw := n3_
          have OPl := n4_
          have OQl := n5_
          clear n0_ n1_ n2_ n3_ n4_ n5_
          have nr_ := Aside0.mk (Kd.R_below HO.out hb)
          clear HO
          have HO := nr_
          clear nr_
          skip
          clear hb
          refine hK.out _ _ ⟨Kc.out, Kp.out, (Bw.out.cell (World.block_lt_of_cell? w _ HX0.out)).trans HX0.out, (Bw.out.cell (World.block_lt_of_cell? w _ HX1.out)).trans HX1.out⟩ (fun hHeld => ?_)
          clear hK K
          refine norm_ (a' := ?_) ?_ ?_
          rotate_left
          · show Act.put _ (some 33) _ = _
            simp only [Act.put, List.setIfInBounds_toArray, List.set_cons_zero, List.set_cons_succ, i64_w, i32_w]
            rfl
          refine pure_ (i := 13) (N := some 20) (v := ?_) (a' := ?_) #[true, true, true, true, true, true, true, true, true, true, true, true, true, true, false, false, true, false, false] rfl rfl (by kernel_rfl) (fun _ _ _ h => h) (Or.inl ⟨by rfl, ?_⟩) ?_ ?_
          rotate_left
          · intro w'
            go_simp
            with_reducible rfl
          rotate_left
          · simp only [Act.put, List.setIfInBounds_toArray, List.set_cons_zero, List.set_cons_succ, i64_w, i32_w]
            rfl
          refine pure_ (i := 14) (N := some 34) (v := ?_) (a' := ?_) #[true, true, true, true, true, true, true, true, true, true, true, true, true, true, true, false, true, false, false] rfl rfl (by kernel_rfl) (fun _ _ _ h => h) (Or.inl ⟨by rfl, ?_⟩) ?_ ?_
          rotate_left
          · intro w'
            go_simp
            with_reducible rfl
          rotate_left
          · simp only [Act.put, List.setIfInBounds_toArray, List.set_cons_zero, List.set_cons_succ, i64_w, i32_w]
            rfl
          refine pure_ (i := 15) (N := some 35) (v := ?_) (a' := ?_) #[true, true, true, true, true, true, true, true, true, true, true, true, true, true, true, true, true, false, false] rfl rfl (by kernel_rfl) (fun _ _ _ h => h) (Or.inl ⟨by rfl, ?_⟩) ?_ ?_
          rotate_left
          · intro w'
            go_simp
            with_reducible rfl
          rotate_left
          · simp only [Act.put, List.setIfInBounds_toArray, List.set_cons_zero, List.set_cons_succ, i64_w, i32_w]
            rfl
          refine one_ (i := 17) (N := none) #[true, true, true, true, true, true, true, true, true, true, true, true, true, true, true, true, true, true, false] rfl rfl (by kernel_rfl) (by decide) (fun K hK => ?_)
          refine locumlaw13_walk.store_step (by rfl) rfl 28 (.tmp 8) (.tmp 34) (by rfl) g8 #[.int .i64 q.f0, .int .i64 q.f1, .int .i64 q.f2, .int .i64 q.f3, .int .i64 q.f4, .int .i64 q.f5, .int .i64 q.f6, .int .i64 q.f7, .int .u64 q.f8, .int .u64 q.f9, .slice APq q.f10.length cPq, .slice AQq q.f11.length cQq] (by rfl) (by rfl) 28 #[.int .i64 0, .int .i64 0, .int .i64 0, .int .i64 0, .int .i64 0, .int .i64 0, .int .i64 0, .int .i64 0, .int .u64 0, .int .u64 0, .slice none 0 0, .slice none 0 0] Kq.out (by as_aux_lemma => kernel_rfl) rfl (by as_aux_lemma => kernel_rfl) ?_
          intro Wq203 hw
          have n0_ := Aside0.mk (locumlaw13_walk.blkR Kc.out (Nat.ne_of_lt Lc_q.out) hw)
          have n1_ := Aside0.mk (locumlaw13_walk.blkR Kp.out (Nat.ne_of_lt Lp_q.out) hw)
          have n2_ := Aside0.mk (locumlaw13_walk.blkS Kq.out hw)
          have n3_ := Aside0.mk (locumlaw13_walk.belR Bw.out Sw_q.out hw)
          have n4_ := Aside0.mk (policy_Next.own_row OPl.out (policy_Next.row_ne Kq.out (by decide) OPl.out) hw)
          have n5_ := Aside0.mk (policy_Next.own_row OQl.out (policy_Next.row_ne Kq.out (by decide) OQl.out) hw)
          have n6_ := Aside0.mk (policy_Next.own_row OPq.out (policy_Next.row_ne Kq.out (by decide) OPq.out) hw)
          have n7_ := Aside0.mk (policy_Next.own_row OQq.out (policy_Next.row_ne Kq.out (by decide) OQq.out) hw)
          clear Kc Kp Kq Bw OPl OQl OPq OQq
          have Kc := n0_
          have Kp := n1_
          have Kq := n2_
          have Bw := n3_
          have OPl := n4_
          have OQl := n5_
          have OPq := n6_
          have OQq := n7_
          clear n0_ n1_ n2_ n3_ n4_ n5_ n6_ n7_
          have nr_ := Aside0.mk (locumlaw13_walk.R_row HO.out (fun k_ h_ => by first | exact h_ | exact h_.1 | exact h_.2) hw)
          clear HO
          have HO := nr_
          clear nr_
          clear hw
          refine hK.out _ _ ⟨Kc.out, Kp.out, (Bw.out.cell (World.block_lt_of_cell? w _ HX0.out)).trans HX0.out, (Bw.out.cell (World.block_lt_of_cell? w _ HX1.out)).trans HX1.out⟩ (fun hHeld => ?_)
          clear hK K
          refine pure_ (i := 18) (N := some 9) (v := ?_) (a' := ?_) #[true, true, true, true, true, true, true, true, true, true, true, true, true, true, true, true, true, true, true] rfl rfl (by kernel_rfl) (fun _ _ _ h => h) (Or.inl ⟨by rfl, ?_⟩) ?_ ?_
          rotate_left
          · intro w'
            go_simp
            with_reducible rfl
          rotate_left
          · simp only [Act.put, List.setIfInBounds_toArray, List.set_cons_zero, List.set_cons_succ, i64_w, i32_w]
            rfl
          refine done_ (by kernel_rfl) ?_
          try go_wp2
          go_meet
          case rel => exact ⟨g8, APq, AQq, cPq, cQq, rfl, rfl, Lp_q, Lc_q, Kq, OPq, OQq, Kc, Kp, Bw, OPl, OQl, ⟨Kd.R_mono HO.out (fun _ h_ => h_.1)⟩⟩
      case rest =>
        clear HN Kc Kp Bw OPl OQl HO HX0 HX1
        obtain ⟨g8, APq, AQq, cPq, cQq, rfl, rfl, Lp_q, Lc_q, Kq, OPq, OQq, Kc, Kp, Bw, OPl, OQl, HO⟩ := hcut
        have HX := HG2.out
        cases b with
        | false =>
          rw [if_neg (by decide)] at HX
          go_wp2
          go_roundg gk
          case measure => omega
          case rel => exact ⟨j + 1, p, xs, APl, AQl, cPl, cQl, by omega, by go_num, ⟨HX⟩, ⟨by have h_ := HL.out; omega⟩, Kc, Kp, Bw, OPl, OQl, HO⟩
        | true =>
          rw [if_pos rfl] at HX
          have Lc_p := Lc_5
          have Sw_p := S5
          have hll := HL.out
          go_wp2_with (first | ((with_reducible refine gate_dst (N := 37) rfl ?_); refine wpList_load_row rfl 28 (.tmp 8) rfl g8 rfl 28 #[.int .i64 q.f0, .int .i64 q.f1, .int .i64 q.f2, .int .i64 q.f3, .int .i64 q.f4, .int .i64 q.f5, .int .i64 q.f6, .int .i64 q.f7, .int .u64 q.f8, .int .u64 q.f9, .slice APq q.f10.length cPq, .slice AQq q.f11.length cQq] (0, 0) _ Kq.out Tryd.underlying28 rfl (by as_aux_lemma => kernel_rfl) ?_) | ((with_reducible refine gate_store (t := 28) (p := 5) rfl ?_); refine store_row_event rfl 28 (.tmp 5) _ rfl g5 #[.int .i64 q.f0, .int .i64 q.f1, .int .i64 q.f2, .int .i64 q.f3, .int .i64 q.f4, .int .i64 q.f5, .int .i64 q.f6, .int .i64 q.f7, .int .u64 q.f8, .int .u64 q.f9, .slice APq q.f10.length cPq, .slice AQq q.f11.length cQq] rfl rfl 28 #[.int .i64 p.f0, .int .i64 p.f1, .int .i64 p.f2, .int .i64 p.f3, .int .i64 p.f4, .int .i64 p.f5, .int .i64 p.f6, .int .i64 p.f7, .int .u64 p.f8, .int .u64 p.f9, .slice APl p.f10.length cPl, .slice AQl p.f11.length cQl] Kp.out (by as_aux_lemma => kernel_rfl) rfl (by as_aux_lemma => kernel_rfl) ?_; intro Ws300 hw; have n0_ := Aside0.mk (locumlaw13_walk.blkR Kc.out (Nat.ne_of_lt Lc_p.out) hw); have n1_ := Aside0.mk (locumlaw13_walk.blkS Kp.out hw); have n2_ := Aside0.mk (locumlaw13_walk.blkR Kq.out (Nat.ne_of_gt Lp_q.out) hw); have n3_ := Aside0.mk (locumlaw13_walk.belR Bw.out Sw_p.out hw); have n4_ := Aside0.mk (policy_Next.own_row OPl.out (policy_Next.row_ne Kp.out (by decide) OPl.out) hw); have n5_ := Aside0.mk (policy_Next.own_row OQl.out (policy_Next.row_ne Kp.out (by decide) OQl.out) hw); have n6_ := Aside0.mk (policy_Next.own_row OPq.out (policy_Next.row_ne Kp.out (by decide) OPq.out) hw); have n7_ := Aside0.mk (policy_Next.own_row OQq.out (policy_Next.row_ne Kp.out (by decide) OQq.out) hw); clear Kc Kp Kq Bw OPl OQl OPq OQq; have Kc := n0_; have Kp := n1_; have Kq := n2_; have Bw := n3_; have OPl := n4_; have OQl := n5_; have OPq := n6_; have OQq := n7_; clear n0_ n1_ n2_ n3_ n4_ n5_ n6_ n7_; have nr_ := Aside0.mk (locumlaw13_walk.R_row HO.out (fun k_ h_ => by first | exact h_ | exact h_.1 | exact h_.2) hw); clear HO; have HO := nr_; clear nr_; clear hw) | ((with_reducible refine gate_dst (N := 39) rfl ?_); refine wpList_load_row rfl 28 (.tmp 8) rfl g8 rfl 28 #[.int .i64 q.f0, .int .i64 q.f1, .int .i64 q.f2, .int .i64 q.f3, .int .i64 q.f4, .int .i64 q.f5, .int .i64 q.f6, .int .i64 q.f7, .int .u64 q.f8, .int .u64 q.f9, .slice APq q.f10.length cPq, .slice AQq q.f11.length cQq] (0, 0) _ Kq.out Tryd.underlying28 rfl (by as_aux_lemma => kernel_rfl) ?_) | ((with_reducible refine gate_dst (N := 40) rfl ?_); refine Kd.R_lit k28 (w0 := w) w.heap.size 28 rfl (N := 40) rfl (xs := [q]) (inner := [.int .i64 q.f0, .int .i64 q.f1, .int .i64 q.f2, .int .i64 q.f3, .int .i64 q.f4, .int .i64 q.f5, .int .i64 q.f6, .int .i64 q.f7, .int .u64 q.f8, .int .u64 q.f9, .slice APq q.f10.length cPq, .slice AQq q.f11.length cQq]) (ok := fun k_ => k_ ≠ g5 ∧ some k_ ≠ (u6 : Value).ownBlock) (okp := fun k_ => k_ ≠ g5 ∧ some k_ ≠ (u6 : Value).ownBlock) ?hrun (locumlaw13_walk.one OPq.out (locumlaw13_walk.okq Kp.out HO.out OPq.out (by decide)) OQq.out (locumlaw13_walk.okq Kp.out HO.out OQq.out (by decide))) (fun _ h_ => h_) ⟨Nat.ne_of_gt (blk_lt Kp.out), fun e_ => Nat.lt_irrefl _ (Kd.R_lt HO.out _ e_.symm)⟩ Bw.out Bw.out.size (by simp) ?_; (case hrun => first | (go_simp; done) | (go_simp; rfl)); intro v1 Wl hv1 hbw hgr hbk; have hb := policy_Next.below_grown hgr; have n0_ := Aside0.mk (blk_below Kc.out hb); have n1_ := Aside0.mk (blk_below Kp.out hb); have n2_ := Aside0.mk (blk_below Kq.out hb); have n3_ := Aside0.mk (locumlaw13_walk.bel Bw.out hb); have n4_ := Aside0.mk (policy_Next.own_below OPl.out hb); have n5_ := Aside0.mk (policy_Next.own_below OQl.out hb); have n6_ := Aside0.mk (policy_Next.own_below OPq.out hb); have n7_ := Aside0.mk (policy_Next.own_below OQq.out hb); clear Kc Kp Kq Bw OPl OQl OPq OQq; have Kc := n0_; have Kp := n1_; have Kq := n2_; have Bw := n3_; have OPl := n4_; have OQl := n5_; have OPq := n6_; have OQq := n7_; clear n0_ n1_ n2_ n3_ n4_ n5_ n6_ n7_; have nr_ := Aside0.mk (Kd.R_below HO.out hb); clear HO; have HO := nr_; clear nr_; have HV := Aside0.mk hv1; clear hv1 hbw hgr hbk hb; obtain ⟨A1v, c1v, e1v, hr1v⟩ := locumlaw13_walk.rowM HV.out; subst e1v; have HRV := Aside0.mk hr1v; clear hr1v) | ((with_reducible refine gate_builtin (b := .append) (xs := #[.tmp 38, .tmp 40]) rfl ?_); at_builtin; refine Kd.R_append_rows k28 (w0 := w) w.heap.size rfl (.tmp 38) (.tmp 40) 37 28 (.agg #[.int .i64 0, .int .i64 0, .int .i64 0, .int .i64 0, .int .i64 0, .int .i64 0, .int .i64 0, .int .i64 0, .int .u64 0, .int .u64 0, .slice none 0 0, .slice none 0 0]) 128 rfl Tryd.underlying37 locumlaw13_walk.info rfl (by decide) (by omega) u6 xs [q] A1v _ c1v (fun k_ => k_ ≠ g5) (fun k_ => k_ ≠ g5 ∧ some k_ ≠ (u6 : Value).ownBlock) rfl rfl HO.out HRV.out (fun _ _ h_ => h_) (fun _ h_ => h_) (fun k_ h_ => Nat.ne_of_gt (Nat.lt_of_lt_of_le (blk_lt Kp.out) h_)) Bw.out Bw.out.size (locumlaw13_walk.few hll hkl hl) ?_; intro v2 W2 hv2 hbw hgr hbk; have n0_ := Aside0.mk (locumlaw13_walk.far Kc.out hgr (Kd.R_ne HO.out Kc.out (by decide))); have n1_ := Aside0.mk (locumlaw13_walk.far Kp.out hgr (fun e_ => HO.out.1 _ e_.symm rfl)); have n2_ := Aside0.mk hbw; have n3_ := Aside0.mk (locumlaw13_walk.ownfar OPq.out hgr (fun k_ h_ => (locumlaw13_walk.okq Kp.out HO.out OPq.out (by decide) k_ h_).2)); have n4_ := Aside0.mk (locumlaw13_walk.ownfar OQq.out hgr (fun k_ h_ => (locumlaw13_walk.okq Kp.out HO.out OQq.out (by decide) k_ h_).2)); clear Kc Kp Kq Bw OPl OQl OPq OQq HO HV HRV; have Kc := n0_; have Kp := n1_; have Bw := n2_; have OPq := n3_; have OQq := n4_; have HO := Aside0.mk hv2; clear n0_ n1_ n2_ n3_ n4_ hv2 hbw hgr hbk))
          go_roundg gk
          case measure => omega
          case rel => exact ⟨j + 1, q, xs ++ [q], APq, AQq, cPq, cQq, by omega, by go_num, ⟨HX⟩, ⟨by rw [List.length_append]; have h_ := HL.out; simp only [List.length_cons, List.length_nil]; omega⟩, Kc, Kp, Bw, OPq, OQq, HO⟩
theorem locumlaw13_walk.calls (k : Nat) (a0_0 : Int) (a0_1 : Int) (a0_2 : Int) (a0_3 : Int) (a0_4 : Int) (A0_5 : Option Addr) (c0_5 : Nat) (l0_5 : List Int) (a0_6 : Int) (a0_7 : Int) (a0_8 : Int) (a0_9 : Int) (a0_10 : Int) (a0_11 : Int) (a0_12 : Int) (a0_13 : Int) (a0_14 : Int) (a0_15 : Int) (a0_16 : Int) (a0_17 : Int) (a0_18 : Int) (a0_19 : Int) (a0_20 : Int) (a0_21 : Int) (a0_22 : Int) (a0_23 : Int) (a0_24 : Int) (a0_25 : Int) (a0_26 : Int) (a0_27 : Int) (a0_28 : Int) (a0_29 : Int) (A1 : Option Addr) (c1 : Nat) (l1 : List S60) (r : List S28) (w : World) (hG : Glob w) (hr0_5 : Kd.C (Kd.int .i64) w A0_5 l0_5.length l0_5) (hc0_5 : l0_5.length ≤ c0_5) (hr1 : Kd.C k60 w A1 l1.length l1) (hc1 : l1.length ≤ c1) (h : locumlaw13_walk.f k a0_0 a0_1 a0_2 a0_3 a0_4 l0_5 a0_6 a0_7 a0_8 a0_9 a0_10 a0_11 a0_12 a0_13 a0_14 a0_15 a0_16 a0_17 a0_18 a0_19 a0_20 a0_21 a0_22 a0_23 a0_24 a0_25 a0_26 a0_27 a0_28 a0_29 l1 = some r) :
    Calls Tryd.prog 18 #[.agg #[.int .i64 a0_0, .int .i64 a0_1, .int .i64 a0_2, .int .i64 a0_3, .int .i64 a0_4, .slice A0_5 l0_5.length c0_5, .int .i64 a0_6, .int .i64 a0_7, .int .i64 a0_8, .int .i64 a0_9, .int .i64 a0_10, .int .i64 a0_11, .int .i64 a0_12, .int .i64 a0_13, .int .i64 a0_14, .int .i64 a0_15, .int .i64 a0_16, .int .i64 a0_17, .int .i64 a0_18, .int .i64 a0_19, .int .i64 a0_20, .int .i64 a0_21, .int .i64 a0_22, .int .i64 a0_23, .int .i64 a0_24, .int .i64 a0_25, .int .i64 a0_26, .int .i64 a0_27, .int .i64 a0_28, .int .i64 a0_29], .slice A1 l1.length c1] w fun e w' => ∃ v0_ : Value, e = .returned (v0_) ∧ Kd.R k28 28 w' w.heap.size (fun _ => True) v0_ r ∧ Below w.heap.size w w' := by
  unfold locumlaw13_walk.f at h
  by_cases hl : l1.length ≤ 1000
  · rw [if_pos hl] at h
    obtain ⟨z, hz, h⟩ := Option.bind_eq_some_iff.mp h
    exact locumlaw13_walk.main k a0_0 a0_1 a0_2 a0_3 a0_4 _ _ l0_5 a0_6 a0_7 a0_8 a0_9 a0_10 a0_11 a0_12 a0_13 a0_14 a0_15 a0_16 a0_17 a0_18 a0_19 a0_20 a0_21 a0_22 a0_23 a0_24 a0_25 a0_26 a0_27 a0_28 a0_29 A1 c1 l1 (locumlaw13_walk.mkz z) r w hG hr0_5 hc0_5 hr1 hc1 hl hz h
  · rw [if_neg hl] at h
    cases h

end Go.Proofs.YtcbhenmhagnmpaaDoor.R
