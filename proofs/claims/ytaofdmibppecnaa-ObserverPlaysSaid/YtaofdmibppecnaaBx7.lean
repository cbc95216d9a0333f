-- Laid by a program of this session.
import Derived.Test.YtaofdmibppecnaaBx0
import Derived.Test.YtaofdmibppecnaaBx1
import Derived.Test.YtaofdmibppecnaaBx3
import Derived.Test.YtaofdmibppecnaaBx4
import Derived.Test.YtaofdmibppecnaaBx6
namespace Go.Proofs.Ytaofdmibppecnaa.B
open Go.RowKit Go.Proofs.YtaofdmibppecnaaW.PrintWords Go.Proofs.YtaofdmibppecnaaW.PrintLast Go.Proofs.YtaofdmibppecnaaW.PrintMore
attribute [local go_sem] max2_int min2_int max_two min_two max_three min_three max_four min_four
set_option linter.unusedVariables false
set_option linter.unusedSimpArgs false
-- own making
section
variable {P : Program} {ops : Array Oper} {rest : List Oper} {o : Oper} {a : Act} {Q : Exit → Act → World → Prop}
/-- A struct that is the head of another one is read out of its block. -/
theorem obs.run_load_part {w : World} (ty : TypeId) (x : Operand) (ho : o.op = .load ty x) (g : Nat) (hx : a.eval x = .pointer (some ⟨g, 0, none⟩)) (t : TypeId) (cs ex : Array Value) (fr : Nat × Nat) (d : TypeDesc) (hu : P.underlying ty = some d) (hd : (match d with | .struct _ | .array _ _ => true | _ => false) = true) (hi : (P.info? ty).map (·.size) = some cs.size)
    (hg : w.heap[g]? = some (.cells (cs ++ ex) t fr)) : (execOp a.eval o).run P w = .ok (.value (.agg cs)) w := by
  have hl : (loadCells ⟨g, 0, none⟩ cs.toList.length).run P w = .ok cs.toList.toArray w :=
    run_loadCells_list (P := P) w ⟨g, 0, none⟩ cs.toList (fun j v hv => by
      have hadd : (⟨g, 0, none⟩ : Addr).add j = ⟨g, j, none⟩ := by unfold Addr.add; split <;> simp_all
      rw [hadd, cell_of_row w g j (cs ++ ex) t fr hg]
      have hj : j < cs.size := by
        have := (List.getElem?_eq_some_iff.1 hv).1
        simpa using this
      rw [Array.getElem?_append_left hj]
      simpa using hv)
  have hv : (loadVar ty ⟨g, 0, none⟩).run P w = .ok (.agg cs) w := by
    cases hq : P.info? ty with
    | none => simp [hq] at hi
    | some i =>
      have hs : i.size = cs.size := by simpa [hq] using hi
      have hagg : (isAgg ty).run P w = .ok true w := by
        unfold isAgg
        rw [Sem.run_bind, run_underlying hu w]
        cases d <;> simp_all
      simp only [Array.length_toList, Array.toArray_toList] at hl
      simp [loadVar, Sem.run_bind, hagg, sizeOf, typeInfo, hq, hs, hl]
  unfold execOp
  simp only [ho, hx, Instr.loadAt, Instr.sureAddr, Sem.run_bind, Sem.run_pure, Result.andThen_ok, hv]
theorem obs.load_part {w : World} (hgd : o.guard = none) (ty : TypeId) (x : Operand) (ho : o.op = .load ty x) (g : Nat) (hx : a.eval x = .pointer (some ⟨g, 0, none⟩)) (t : TypeId) (cs ex : Array Value) (fr : Nat × Nat) (d : TypeDesc) (hg : w.heap[g]? = some (.cells (cs ++ ex) t fr)) (hu : P.underlying ty = some d) (hd : (match d with | .struct _ | .array _ _ => true | _ => false) = true) (hi : (P.info? ty).map (·.size) = some cs.size)
    (h : wpList P ops Q rest (a.put o.dst (.agg cs)) w) : wpList P ops Q (o :: rest) a w := by
  refine Kd.event_run (v := .agg cs) (w1 := w) hgd ?_ h
  rw [obs.run_load_part ty x ho g hx t cs ex fr d hu hd hi hg]
/-- An element of a row of structs is written, in a drawn region. -/
theorem obs.store_step {α : Type} (d : Kd α) {K : Act → World → Prop} {W w0 : World} (base : Nat) (hw : Region.wanted o (yielded ops a.tmps) = true) (hN : o.dst = none) (t : TypeId) (p x : Operand) (ho : o.op = .store t p x) (e : TypeId) {g n cap o' : Nat} (i : Int) (j : Nat) (xs : List α) (x' : α) (u : Value) (seg c : List Value) (ok okp : Nat → Prop)
    (haddr : a.eval p = .pointer (some ⟨g, o', none⟩)) (hoff : o' = i.toNat * d.sz + j) (hx : a.eval x = u) (hu : u.cells.toList = seg) (ht : (P.info? t).map (·.size) = some seg.length) (h1 : ∀ q ∈ seg, q.oneCell' = true)
    (HO : d.R e W base ok (.slice (some ⟨g, 0, none⟩) n cap) xs) (h0 : 0 ≤ i) (hi : i < n) (hcl : c.length = d.sz) (hcc : ∀ j u, c[j]? = some u → W.cell? ⟨g, i.toNat * d.sz + j, none⟩ = some u)
    (hj : j + seg.length ≤ d.sz) (hM : d.M W base okp x' (c.take j ++ seg ++ c.drop (j + seg.length))) (hokp : ∀ k, okp k → ok k ∧ k ≠ g) (HB : Below base w0 W)
    (h : ∀ w1, d.R e w1 base ok (.slice (some ⟨g, 0, none⟩) n cap) (xs.set i.toNat x') → Below base w0 w1 → W.grownBy w1 (some g) → K a w1) : if Region.wanted o (yielded ops a.tmps) = true then Oper.wp P o a W K Q else K (a.put none undef) W := by
  subst hoff
  obtain ⟨hrow, hg⟩ := Kd.R_seg HO i h0 hi hcl hcc hj hM hokp
  have hbg : base ≤ g := Kd.R_base HO g (by simp [Value.ownBlock])
  have hnx : n = xs.length := (Kd.R_reads' HO).1
  obtain ⟨_, inner, hown, hr⟩ := HO
  have hil : i.toNat < n := by omega
  have hB : Below base w0 (W.setCells g (i.toNat * d.sz + j) seg) := HB.trans ⟨hg.os, hg.tape, hg.output, hg.size, fun k hk => by
    have hlt : k < W.heap.size ∨ W.heap.size ≤ k := Nat.lt_or_ge _ _
    rcases hlt with hlt | hge
    · exact hg.block k hlt (fun he => by injection he with he; omega)
    · exact setCells_far seg _ k (by omega)⟩
  have hrun : (Instr.storeAt t (.pointer (some ⟨g, i.toNat * d.sz + j, none⟩)) u).run P W = .ok () (W.setCells g (i.toNat * d.sz + j) seg) := by
    rcases hown.2 with ⟨hv, _⟩ | ⟨g', cap', cur, hv, hb, hh, hnc, hcm, hcs, _⟩
    · cases hv
    injection hv with ha _ hc
    injection ha with ha
    injection ha with hg'
    subst hg'; subst hc
    refine run_store_run t u seg hh hu ht ?_ h1
    have h2 : i.toNat * d.sz + d.sz ≤ n * d.sz := by rw [← Nat.succ_mul]; exact Nat.mul_le_mul_right _ hil
    have h3 : n * d.sz ≤ cap * d.sz := Nat.mul_le_mul_right _ (by omega)
    omega
  refine skip_ hw hN (w1 := W.setCells g (i.toNat * d.sz + j) seg) ?_ (h _ hrow hB hg)
  unfold execOp
  simp only [ho, haddr, hx, Sem.run_bind, Sem.run_pure, Result.andThen_ok, hrun]
end
/-- The probes' row and the row of what is sent are two. -/
theorem obs.far {W W' : World} {b b' : Nat} {ok ok' : Nat → Prop} {v u : Value} {xs : List S63} {ys : List S37} (h : Kd.R k63 63 W b ok v xs) (ho : Kd.R k37 37 W b' ok' u ys) (hg : W.grownBy W' u.ownBlock) : Kd.R k63 63 W' b ok v xs := by
  refine Kd.R_mono (Kd.R_step (Kd.R_bound h) (fun k hk hlt => hg.block k hlt (fun he => ?_))) (fun k hk => hk.1)
  obtain ⟨_, _, _, q, hq, cells, hc⟩ := hk
  have h63 : q = 63 := by
    have : ∀ q ∈ 63 :: k63.E, q = 63 := by decide
    exact this q hq
  subst h63
  exact Kd.R_ne ho hc (by decide) he
theorem obs.near {W W' : World} {b m gp : Nat} {v : Value} {ys : List S37} (h : Kd.R k37 37 W b (fun k => m ≤ k) v ys) (hlt : gp < m) (hg : W.grownBy W' (some gp)) : Kd.R k37 37 W' b (fun k => m ≤ k) v ys :=
  Kd.R_step h (fun k hk hl => hg.block k hl (fun he => by injection he with he; omega))
theorem obs.keep_app {w W W' : World} {g : Nat} {row : Option Nat} {u : Value} (h : KeepBut w W g row) (ho : ∀ k, u.ownBlock = some k → w.heap.size ≤ k) (hg : W.grownBy W' u.ownBlock) : KeepBut w W' g row :=
  ⟨Nat.le_trans h.1 hg.size, fun i hi hn hr => (hg.block i (Nat.lt_of_lt_of_le hi h.1) (fun he => by have := ho i he.symm; omega)).trans (h.2 i hi hn hr)⟩
theorem obs.keep_below {w W W' : World} {g : Nat} {row : Option Nat} (h : KeepBut w W g row) (hb : Below W.heap.size W W') : KeepBut w W' g row := h.trans (KeepBut.of_below hb g row) (.inl rfl)
theorem obs.keep_row {w W W' : World} {g : Nat} {row : Option Nat} (h : KeepBut w W g row) (hg : W.grownBy W' row) : KeepBut w W' g row := h.trans (KeepBut.of_grown hg g) (.inl rfl)
def obs.D (a0_0 a0_1 a0_2 a0_3 a0_4 : Int) (l0_5 : List Int) (a0_6 a0_7 a0_8 a0_9 a0_10 a0_11 a0_12 a0_13 a0_14 a0_15 a0_16 a0_17 a0_18 a0_19 a0_20 a0_21 a0_22 a0_23 a0_24 a0_25 a0_26 a0_27 a0_28 a0_29 i : Int) : Int := wrap64 (wrap64 ((wrap64 (2 * a0_0)) + 1) + i)
def obs.T (a0_0 a0_1 a0_2 a0_3 a0_4 : Int) (l0_5 : List Int) (a0_6 a0_7 a0_8 a0_9 a0_10 a0_11 a0_12 a0_13 a0_14 a0_15 a0_16 a0_17 a0_18 a0_19 a0_20 a0_21 a0_22 a0_23 a0_24 a0_25 a0_26 a0_27 a0_28 a0_29 i : Int) : Int := wrap64 (obs.D a0_0 a0_1 a0_2 a0_3 a0_4 l0_5 a0_6 a0_7 a0_8 a0_9 a0_10 a0_11 a0_12 a0_13 a0_14 a0_15 a0_16 a0_17 a0_18 a0_19 a0_20 a0_21 a0_22 a0_23 a0_24 a0_25 a0_26 a0_27 a0_28 a0_29 a0_1 + i)
def obs.Ro (a0_0 a0_1 a0_2 a0_3 a0_4 : Int) (l0_5 : List Int) (a0_6 a0_7 a0_8 a0_9 a0_10 a0_11 a0_12 a0_13 a0_14 a0_15 a0_16 a0_17 a0_18 a0_19 a0_20 a0_21 a0_22 a0_23 a0_24 a0_25 a0_26 a0_27 a0_28 a0_29 i : Int) : Int := wrap64 (obs.T a0_0 a0_1 a0_2 a0_3 a0_4 l0_5 a0_6 a0_7 a0_8 a0_9 a0_10 a0_11 a0_12 a0_13 a0_14 a0_15 a0_16 a0_17 a0_18 a0_19 a0_20 a0_21 a0_22 a0_23 a0_24 a0_25 a0_26 a0_27 a0_28 a0_29 a0_2 + i)
def obs.O (a0_0 a0_1 a0_2 a0_3 a0_4 : Int) (l0_5 : List Int) (a0_6 a0_7 a0_8 a0_9 a0_10 a0_11 a0_12 a0_13 a0_14 a0_15 a0_16 a0_17 a0_18 a0_19 a0_20 a0_21 a0_22 a0_23 a0_24 a0_25 a0_26 a0_27 a0_28 a0_29 i : Int) : Int := wrap64 (obs.Ro a0_0 a0_1 a0_2 a0_3 a0_4 l0_5 a0_6 a0_7 a0_8 a0_9 a0_10 a0_11 a0_12 a0_13 a0_14 a0_15 a0_16 a0_17 a0_18 a0_19 a0_20 a0_21 a0_22 a0_23 a0_24 a0_25 a0_26 a0_27 a0_28 a0_29 a0_3 + i)
theorem obs.D_f (a0_0 a0_1 a0_2 a0_3 a0_4 : Int) (l0_5 : List Int) (a0_6 a0_7 a0_8 a0_9 a0_10 a0_11 a0_12 a0_13 a0_14 a0_15 a0_16 a0_17 a0_18 a0_19 a0_20 a0_21 a0_22 a0_23 a0_24 a0_25 a0_26 a0_27 a0_28 a0_29 i : Int) : api_DeciderNode.f a0_0 a0_1 a0_2 a0_3 a0_4 l0_5 a0_6 a0_7 a0_8 a0_9 a0_10 a0_11 a0_12 a0_13 a0_14 a0_15 a0_16 a0_17 a0_18 a0_19 a0_20 a0_21 a0_22 a0_23 a0_24 a0_25 a0_26 a0_27 a0_28 a0_29 i = some (obs.D a0_0 a0_1 a0_2 a0_3 a0_4 l0_5 a0_6 a0_7 a0_8 a0_9 a0_10 a0_11 a0_12 a0_13 a0_14 a0_15 a0_16 a0_17 a0_18 a0_19 a0_20 a0_21 a0_22 a0_23 a0_24 a0_25 a0_26 a0_27 a0_28 a0_29 i) := rfl
theorem obs.T_f (a0_0 a0_1 a0_2 a0_3 a0_4 : Int) (l0_5 : List Int) (a0_6 a0_7 a0_8 a0_9 a0_10 a0_11 a0_12 a0_13 a0_14 a0_15 a0_16 a0_17 a0_18 a0_19 a0_20 a0_21 a0_22 a0_23 a0_24 a0_25 a0_26 a0_27 a0_28 a0_29 i : Int) : api_TargetNode.f a0_0 a0_1 a0_2 a0_3 a0_4 l0_5 a0_6 a0_7 a0_8 a0_9 a0_10 a0_11 a0_12 a0_13 a0_14 a0_15 a0_16 a0_17 a0_18 a0_19 a0_20 a0_21 a0_22 a0_23 a0_24 a0_25 a0_26 a0_27 a0_28 a0_29 i = some (obs.T a0_0 a0_1 a0_2 a0_3 a0_4 l0_5 a0_6 a0_7 a0_8 a0_9 a0_10 a0_11 a0_12 a0_13 a0_14 a0_15 a0_16 a0_17 a0_18 a0_19 a0_20 a0_21 a0_22 a0_23 a0_24 a0_25 a0_26 a0_27 a0_28 a0_29 i) := rfl
theorem obs.O_f (a0_0 a0_1 a0_2 a0_3 a0_4 : Int) (l0_5 : List Int) (a0_6 a0_7 a0_8 a0_9 a0_10 a0_11 a0_12 a0_13 a0_14 a0_15 a0_16 a0_17 a0_18 a0_19 a0_20 a0_21 a0_22 a0_23 a0_24 a0_25 a0_26 a0_27 a0_28 a0_29 i : Int) : api_ObserverNode.f a0_0 a0_1 a0_2 a0_3 a0_4 l0_5 a0_6 a0_7 a0_8 a0_9 a0_10 a0_11 a0_12 a0_13 a0_14 a0_15 a0_16 a0_17 a0_18 a0_19 a0_20 a0_21 a0_22 a0_23 a0_24 a0_25 a0_26 a0_27 a0_28 a0_29 i = some (obs.O a0_0 a0_1 a0_2 a0_3 a0_4 l0_5 a0_6 a0_7 a0_8 a0_9 a0_10 a0_11 a0_12 a0_13 a0_14 a0_15 a0_16 a0_17 a0_18 a0_19 a0_20 a0_21 a0_22 a0_23 a0_24 a0_25 a0_26 a0_27 a0_28 a0_29 i) := rfl
/-- a probe, and a vote -/
def obs.probe (from_ to_ now : Int) : S37 := ⟨1, from_, to_, 0, 0, 0, now, 0, 0, 0, false, z35, [], [], []⟩
def obs.vote (from_ to_ now up : Int) : S37 := ⟨3, from_, to_, 0, 0, 0, 0, now, up, 0, false, z35, [], [], []⟩
/-- what is asked: m targets from x on -/
def observer_Tick.go (k : Nat) (a0_0 a0_1 a0_2 a0_3 a0_4 : Int) (l0_5 : List Int) (a0_6 a0_7 a0_8 a0_9 a0_10 a0_11 a0_12 a0_13 a0_14 a0_15 a0_16 a0_17 a0_18 a0_19 a0_20 a0_21 a0_22 a0_23 a0_24 a0_25 a0_26 a0_27 a0_28 a0_29 ix now : Int) : Nat → Int → List S63 → List S37 → Option (List S63 × List S37)
  | 0, _, ps, out => some (ps, out)
  | m + 1, x, ps, out => (probe_Tick.f k (rd_T63 ps x).f0 (rd_T63 ps x).f1 (rd_T63 ps x).f2 (rd_T63 ps x).f3 (rd_T63 ps x).f4.f0 (rd_T63 ps x).f4.f1 a0_0 a0_1 a0_2 a0_3 a0_4 l0_5 a0_6 a0_7 a0_8 a0_9 a0_10 a0_11 a0_12 a0_13 a0_14 a0_15 a0_16 a0_17 a0_18 a0_19 a0_20 a0_21 a0_22 a0_23 a0_24 a0_25 a0_26 a0_27 a0_28 a0_29 now now).bind fun r => observer_Tick.go k a0_0 a0_1 a0_2 a0_3 a0_4 l0_5 a0_6 a0_7 a0_8 a0_9 a0_10 a0_11 a0_12 a0_13 a0_14 a0_15 a0_16 a0_17 a0_18 a0_19 a0_20 a0_21 a0_22 a0_23 a0_24 a0_25 a0_26 a0_27 a0_28 a0_29 ix now m (x + 1) (ps.set x.toNat ⟨r.1, r.2.1, r.2.2.1, r.2.2.2.1, ⟨r.2.2.2.2.1, r.2.2.2.2.2.1⟩⟩) (if r.2.2.2.2.2.2 = true then out ++ [obs.probe (obs.O a0_0 a0_1 a0_2 a0_3 a0_4 l0_5 a0_6 a0_7 a0_8 a0_9 a0_10 a0_11 a0_12 a0_13 a0_14 a0_15 a0_16 a0_17 a0_18 a0_19 a0_20 a0_21 a0_22 a0_23 a0_24 a0_25 a0_26 a0_27 a0_28 a0_29 ix) (obs.T a0_0 a0_1 a0_2 a0_3 a0_4 l0_5 a0_6 a0_7 a0_8 a0_9 a0_10 a0_11 a0_12 a0_13 a0_14 a0_15 a0_16 a0_17 a0_18 a0_19 a0_20 a0_21 a0_22 a0_23 a0_24 a0_25 a0_26 a0_27 a0_28 a0_29 x) now] else out)
/-- the votes: to m deciders from x on -/
def observer_Tick.votes (a0_0 a0_1 a0_2 a0_3 a0_4 : Int) (l0_5 : List Int) (a0_6 a0_7 a0_8 a0_9 a0_10 a0_11 a0_12 a0_13 a0_14 a0_15 a0_16 a0_17 a0_18 a0_19 a0_20 a0_21 a0_22 a0_23 a0_24 a0_25 a0_26 a0_27 a0_28 a0_29 ix now up : Int) : Nat → Int → List S37
  | 0, _ => []
  | m + 1, x => obs.vote (obs.O a0_0 a0_1 a0_2 a0_3 a0_4 l0_5 a0_6 a0_7 a0_8 a0_9 a0_10 a0_11 a0_12 a0_13 a0_14 a0_15 a0_16 a0_17 a0_18 a0_19 a0_20 a0_21 a0_22 a0_23 a0_24 a0_25 a0_26 a0_27 a0_28 a0_29 ix) (obs.D a0_0 a0_1 a0_2 a0_3 a0_4 l0_5 a0_6 a0_7 a0_8 a0_9 a0_10 a0_11 a0_12 a0_13 a0_14 a0_15 a0_16 a0_17 a0_18 a0_19 a0_20 a0_21 a0_22 a0_23 a0_24 a0_25 a0_26 a0_27 a0_28 a0_29 x) now up :: observer_Tick.votes a0_0 a0_1 a0_2 a0_3 a0_4 l0_5 a0_6 a0_7 a0_8 a0_9 a0_10 a0_11 a0_12 a0_13 a0_14 a0_15 a0_16 a0_17 a0_18 a0_19 a0_20 a0_21 a0_22 a0_23 a0_24 a0_25 a0_26 a0_27 a0_28 a0_29 ix now up m (x + 1)
def observer_Tick.f (k : Nat) (a0_0 a0_1 a0_2 a0_3 a0_4 : Int) (l0_5 : List Int) (a0_6 a0_7 a0_8 a0_9 a0_10 a0_11 a0_12 a0_13 a0_14 a0_15 a0_16 a0_17 a0_18 a0_19 a0_20 a0_21 a0_22 a0_23 a0_24 a0_25 a0_26 a0_27 a0_28 a0_29 ix : Int) (ps : List S63) (nx now : Int) : Option (List S63 × Int × List S37) :=
  if 0 ≤ now ∧ now ≤ 1099511627776 then (observer_Tick.go k a0_0 a0_1 a0_2 a0_3 a0_4 l0_5 a0_6 a0_7 a0_8 a0_9 a0_10 a0_11 a0_12 a0_13 a0_14 a0_15 a0_16 a0_17 a0_18 a0_19 a0_20 a0_21 a0_22 a0_23 a0_24 a0_25 a0_26 a0_27 a0_28 a0_29 ix now a0_2.toNat 0 ps []).bind fun r => if now < nx then some (r.1, nx, r.2) else some (r.1, wrap64 (now + a0_6), r.2 ++ observer_Tick.votes a0_0 a0_1 a0_2 a0_3 a0_4 l0_5 a0_6 a0_7 a0_8 a0_9 a0_10 a0_11 a0_12 a0_13 a0_14 a0_15 a0_16 a0_17 a0_18 a0_19 a0_20 a0_21 a0_22 a0_23 a0_24 a0_25 a0_26 a0_27 a0_28 a0_29 ix now (observer_Up.v r.1) a0_1.toNat 0) else some (ps, nx, [])
section
variable {P : Program} {o : Oper} {a : Act}
theorem observer_Tick.run_load {w : World} (ty : TypeId) (x : Operand) (ho : o.op = .load ty x) (g : Nat) (hx : a.eval x = .pointer (some ⟨g, 0, none⟩))
    (t : TypeId) (cs : Array Value) (fr : Nat × Nat) (d : TypeDesc) (hu : P.underlying ty = some d) (hd : (match d with | .struct _ | .array _ _ => true | _ => false) = true) (hi : (P.info? ty).map (·.size) = some cs.size)
    (hg : w.heap[g]? = some (.cells cs t fr)) : (execOp a.eval o).run P w = .ok (.value (.agg cs)) w := by
  unfold execOp
  simp only [ho, hx, Instr.loadAt, Instr.sureAddr, Sem.run_bind, Sem.run_pure, Result.andThen_ok, run_loadVar_row w g t ty cs fr d hg hu hd hi]
theorem observer_Tick.run_store {w : World} (ty : TypeId) (x y : Operand) (ho : o.op = .store ty x y) (g : Nat) (cells : Array Value) (hx : a.eval x = .pointer (some ⟨g, 0, none⟩)) (hy : a.eval y = .agg cells)
    (t : TypeId) (old : Array Value) (hg : w.heap[g]? = some (.cells old t (0, 0))) (hi : (P.info? ty).map (·.size) = some cells.size) (hold : old.size = cells.size) (h1 : cells.all (·.oneCell') = true) :
    (execOp a.eval o).run P w = .ok .skip (w.setRow g cells) := by
  unfold execOp
  simp only [ho, hx, hy, Instr.storeAt, Instr.sureAddr, Sem.run_bind, Sem.run_pure, Result.andThen_ok, run_storeVar_row w g t ty old cells hg hi hold h1]
theorem observer_Tick.store_step {ops : Array Oper} {Q : Exit → Act → World → Prop} {w : World} {K : Act → World → Prop} (hw : Region.wanted o (yielded ops a.tmps) = true) (hN : o.dst = none) (ty : TypeId) (x y : Operand) (ho : o.op = .store ty x y) (g : Nat) (cells : Array Value) (hx : a.eval x = .pointer (some ⟨g, 0, none⟩)) (hy : a.eval y = .agg cells)
    (t : TypeId) (old : Array Value) (hg : w.heap[g]? = some (.cells old t (0, 0))) (hi : (P.info? ty).map (·.size) = some cells.size) (hold : old.size = cells.size) (h1 : cells.all (·.oneCell') = true) (h : ∀ w1, w1 = w.setRow g cells → K a w1) :
    if Region.wanted o (yielded ops a.tmps) = true then Oper.wp P o a w K Q else K (a.put none undef) w := skip_ hw hN (observer_Tick.run_store ty x y ho g cells hx hy t old hg hi hold h1) (h _ rfl)
end
theorem observer_Tick.bel {a W W' : World} (h : Below a.heap.size a W) (hb : Below W.heap.size W W') : Below a.heap.size a W' := below_then h h.size hb
theorem observer_Tick.belR {a W W' : World} {g : Nat} {cs : Array Value} (h : Below a.heap.size a W) (hg : a.heap.size ≤ g) (hw : W' = W.setRow g cs) : Below a.heap.size a W' := by
  subst hw
  exact h.trans ⟨rfl, rfl, rfl, by simp, fun k hk => setRow_other W g k cs (by omega)⟩
theorem observer_Tick.blkR {W W' : World} {g g' : Nat} {o : Obj} {cs : Array Value} (h : W.heap[g']? = some o) (hne : g' ≠ g) (hw : W' = W.setRow g cs) : W'.heap[g']? = some o := by
  subst hw
  exact (setRow_other W g g' cs hne).trans h
theorem observer_Tick.blkS {W W' : World} {g : Nat} {t : TypeId} {old cs : Array Value} (h : W.heap[g]? = some (.cells old t (0, 0))) (hw : W' = W.setRow g cs) : W'.heap[g]? = some (.cells cs t (0, 0)) := by
  subst hw
  exact setRow_heap W g old cs t _ h
theorem observer_Tick.info37 : (Try.prog.info? 37).map (fun i => (i.zero, i.size, i.bytes)) = some (some (.agg #[.int .i64 0, .int .i64 0, .int .i64 0, .int .i64 0, .int .i64 0, .int .i64 0, .int .i64 0, .int .i64 0, .int .u64 0, .int .i64 0, .bool false, .int .i64 0, .int .i64 0, .int .i64 0, .int .i64 0, .int .i64 0, .int .i64 0, .int .i64 0, .int .i64 0, .int .u64 0, .int .u64 0, .slice none 0 0, .slice none 0 0, .slice none 0 0, .slice none 0 0, .slice none 0 0]), k37.sz, 288) := by kernel_rfl
set_option maxHeartbeats 40000000 in
set_option maxRecDepth 100000 in
theorem observer_Tick.off (a0_0 a0_1 a0_2 a0_3 a0_4 : Int) (A0_5 : Option Addr) (c0_5 : Nat) (l0_5 : List Int) (a0_6 a0_7 a0_8 a0_9 a0_10 a0_11 a0_12 a0_13 a0_14 a0_15 a0_16 a0_17 a0_18 a0_19 a0_20 a0_21 a0_22 a0_23 a0_24 a0_25 a0_26 a0_27 a0_28 a0_29 ix : Int) (c n gp : Nat) (ps0 : List S63) (nx now : Int) (g : Nat) (w0 w : World) (hK : w.heap[g]? = some (.cells #[.int .i64 a0_0, .int .i64 a0_1, .int .i64 a0_2, .int .i64 a0_3, .int .i64 a0_4, .slice A0_5 l0_5.length c0_5, .int .i64 a0_6, .int .i64 a0_7, .int .i64 a0_8, .int .i64 a0_9, .int .i64 a0_10, .int .i64 a0_11, .int .i64 a0_12, .int .i64 a0_13, .int .i64 a0_14, .int .i64 a0_15, .int .i64 a0_16, .int .i64 a0_17, .int .i64 a0_18, .int .i64 a0_19, .int .i64 a0_20, .int .i64 a0_21, .int .i64 a0_22, .int .i64 a0_23, .int .i64 a0_24, .int .i64 a0_25, .int .i64 a0_26, .int .i64 a0_27, .int .i64 a0_28, .int .i64 a0_29, .int .i64 ix, .slice (some ⟨gp, 0, none⟩) n c, .int .i64 nx] 57 (0, 0))) (hR : Kd.R k63 63 w w0.heap.size (fun _ => True) (.slice (some ⟨gp, 0, none⟩) n c) ps0) (hg : w0.heap.size ≤ g) (hB : Below w0.heap.size w0 w) (hr0_5 : Kd.C (Kd.int .i64) w0 A0_5 l0_5.length l0_5) (hc0_5 : l0_5.length ≤ c0_5) (hcf : (a0_2 = (n : Int) ∧ n ≤ 16) ∧ 0 ≤ a0_1 ∧ a0_1 ≤ 4) (hn : ¬ (0 ≤ now ∧ now ≤ 1099511627776)) :
    Calls Try.prog 11 #[.pointer (some ⟨g, 0, none⟩), .int .i64 now] w fun e w' => ∃ v : Value, e = .returned v ∧ w'.heap[g]? = some (.cells #[.int .i64 a0_0, .int .i64 a0_1, .int .i64 a0_2, .int .i64 a0_3, .int .i64 a0_4, .slice A0_5 l0_5.length c0_5, .int .i64 a0_6, .int .i64 a0_7, .int .i64 a0_8, .int .i64 a0_9, .int .i64 a0_10, .int .i64 a0_11, .int .i64 a0_12, .int .i64 a0_13, .int .i64 a0_14, .int .i64 a0_15, .int .i64 a0_16, .int .i64 a0_17, .int .i64 a0_18, .int .i64 a0_19, .int .i64 a0_20, .int .i64 a0_21, .int .i64 a0_22, .int .i64 a0_23, .int .i64 a0_24, .int .i64 a0_25, .int .i64 a0_26, .int .i64 a0_27, .int .i64 a0_28, .int .i64 a0_29, .int .i64 ix, .slice (some ⟨gp, 0, none⟩) n c, .int .i64 nx] 57 (0, 0)) ∧ Kd.R k63 63 w' w0.heap.size (fun _ => True) (.slice (some ⟨gp, 0, none⟩) n c) ps0 ∧ Kd.R k37 37 w' w0.heap.size (fun k_ => w.heap.size ≤ k_) v [] ∧ Below w0.heap.size w0 w' ∧ KeepBut w w' g (some gp) := by
  have Ko := Aside0.mk hK
  have HP := Aside0.mk hR
  have Bw := Aside0.mk hB
  have HG := Aside0.mk hg
  have HR5 := Aside0.mk hr0_5
  have HC5 := Aside0.mk hc0_5
  have HCF := Aside0.mk hcf
  have KB := Aside0.mk (KeepBut.refl w g (some gp))
  have HO := Aside0.mk (Kd.R_nil k37 37 w w0.heap.size (fun k_ => w.heap.size ≤ k_))
  clear hK hR hB hg hr0_5 hc0_5 hcf
  have HTM := Aside0.mk (show observer_time.f now = some false by unfold observer_time.f; split <;> simp <;> omega)
  clear hn
  go_enter Try.func11, Try.ntmps11
  go_wp2_with (first | ((with_reducible refine gate_callee (f := 27) rfl ?_); refine goesL_ (some 11) rfl rfl Try.func27 (by kernel_rfl) rfl #[.int .i64 now] rfl (by (try simp only [List.map_toArray, List.map_cons, List.map_nil]); first | done | rfl) ?_; (with_reducible refine (observer_time.calls now false _ HTM.out).mono ?_); rintro e Wc100 ⟨rfl, hd_⟩; refine ⟨_, rfl, ?_⟩; have hb := hd_.below; clear hd_; have n0_ := Aside0.mk (blk_below Ko.out hb); have n1_ := Aside0.mk (Kd.R_below HP.out hb); have n2_ := Aside0.mk (Kd.R_below HO.out hb); have n3_ := Aside0.mk (observer_Tick.bel Bw.out hb); have n4_ := Aside0.mk (obs.keep_below KB.out hb); clear Ko HP HO Bw KB; have Ko := n0_; have HP := n1_; have HO := n2_; have Bw := n3_; have KB := n4_; clear n0_ n1_ n2_ n3_ n4_; skip; clear hb))
  go_ret
  exact ⟨_, rfl, Ko.out, HP.out, HO.out, Bw.out, KB.out⟩
def observer_Tick.L (n : Nat) : Array Bool := ((List.range 25).map fun i => ([0, 1, 2, 3, 4, 5, 6, 7, 8, 9, 10, 11, 12, 13, 14, 15, 16, 17, 18, 19, 20, 21, 22, 23, 24].take n).contains i).toArray
def observer_Tick.L4 (n : Nat) : Array Bool := ((List.range 10).map fun i => ([0, 1, 2, 3, 4, 5, 6, 7, 8, 9].take n).contains i).toArray
theorem observer_Tick.addr (gp j : Nat) : (⟨gp, 0, none⟩ : Addr).add j = ⟨gp, j, none⟩ := by unfold Addr.add; split <;> simp_all
theorem observer_Tick.e37 (q : Nat) (hq : q ∈ 37 :: k37.E) : q ≠ 57 := by
  have h : ∀ q ∈ 37 :: k37.E, q ≠ 57 := by decide
  exact h q hq
theorem observer_Tick.rd63 {W : World} {b n c gp : Nat} {ok : Nat → Prop} {ps : List S63} (h : Kd.R k63 63 W b ok (.slice (some ⟨gp, 0, none⟩) n c) ps) : Kd.C k63 W (some ⟨gp, 0, none⟩) n ps := by
  obtain ⟨h1, _, h2⟩ := Kd.R_reads' h
  rw [h1]; exact h2
theorem observer_Tick.old {W : World} {gp : Nat} {x : Int} {p : S63} (h0 : W.cell? ⟨gp, x.toNat * 6, none⟩ = some (.int .i64 p.f0)) (h1 : W.cell? ⟨gp, x.toNat * 6 + 1, none⟩ = some (.bool p.f1)) (h2 : W.cell? ⟨gp, x.toNat * 6 + 2, none⟩ = some (.int .i64 p.f2)) (h3 : W.cell? ⟨gp, x.toNat * 6 + 3, none⟩ = some (.int .i64 p.f3)) (h4 : W.cell? ⟨gp, x.toNat * 6 + 4, none⟩ = some (.bool p.f4.f0)) (h5 : W.cell? ⟨gp, x.toNat * 6 + 5, none⟩ = some (.int .i64 p.f4.f1)) : ∀ j u, ([.int .i64 p.f0, .bool p.f1, .int .i64 p.f2, .int .i64 p.f3, .bool p.f4.f0, .int .i64 p.f4.f1] : List Value)[j]? = some u → W.cell? ⟨gp, x.toNat * k63.sz + j, none⟩ = some u := by
  have e0 : x.toNat * k63.sz = x.toNat * 6 := by rw [show k63.sz = 6 from rfl]
  intro j u hj
  rw [e0]
  match j, hj with
  | 0, hj => injection hj with hj; subst hj; exact h0
  | 1, hj => injection hj with hj; subst hj; exact h1
  | 2, hj => injection hj with hj; subst hj; exact h2
  | 3, hj => injection hj with hj; subst hj; exact h3
  | 4, hj => injection hj with hj; subst hj; exact h4
  | 5, hj => injection hj with hj; subst hj; exact h5
  | j + 6, hj => simp at hj
set_option maxHeartbeats 40000000 in
set_option maxRecDepth 100000 in
theorem observer_Tick.on (k : Nat) (a0_0 a0_1 a0_2 a0_3 a0_4 : Int) (A0_5 : Option Addr) (c0_5 : Nat) (l0_5 : List Int) (a0_6 a0_7 a0_8 a0_9 a0_10 a0_11 a0_12 a0_13 a0_14 a0_15 a0_16 a0_17 a0_18 a0_19 a0_20 a0_21 a0_22 a0_23 a0_24 a0_25 a0_26 a0_27 a0_28 a0_29 ix : Int) (c n gp : Nat) (ps0 : List S63) (nx now : Int) (g : Nat) (ps2 : List S63) (out2 : List S37) (w0 w : World) (hK : w.heap[g]? = some (.cells #[.int .i64 a0_0, .int .i64 a0_1, .int .i64 a0_2, .int .i64 a0_3, .int .i64 a0_4, .slice A0_5 l0_5.length c0_5, .int .i64 a0_6, .int .i64 a0_7, .int .i64 a0_8, .int .i64 a0_9, .int .i64 a0_10, .int .i64 a0_11, .int .i64 a0_12, .int .i64 a0_13, .int .i64 a0_14, .int .i64 a0_15, .int .i64 a0_16, .int .i64 a0_17, .int .i64 a0_18, .int .i64 a0_19, .int .i64 a0_20, .int .i64 a0_21, .int .i64 a0_22, .int .i64 a0_23, .int .i64 a0_24, .int .i64 a0_25, .int .i64 a0_26, .int .i64 a0_27, .int .i64 a0_28, .int .i64 a0_29, .int .i64 ix, .slice (some ⟨gp, 0, none⟩) n c, .int .i64 nx] 57 (0, 0))) (hR : Kd.R k63 63 w w0.heap.size (fun _ => True) (.slice (some ⟨gp, 0, none⟩) n c) ps0) (hg : w0.heap.size ≤ g) (hB : Below w0.heap.size w0 w) (hr0_5 : Kd.C (Kd.int .i64) w0 A0_5 l0_5.length l0_5) (hc0_5 : l0_5.length ≤ c0_5) (hcf : (a0_2 = (n : Int) ∧ n ≤ 16) ∧ 0 ≤ a0_1 ∧ a0_1 ≤ 4) (hlt : gp < w.heap.size) (hn : 0 ≤ now ∧ now ≤ 1099511627776) (h : observer_Tick.go k a0_0 a0_1 a0_2 a0_3 a0_4 l0_5 a0_6 a0_7 a0_8 a0_9 a0_10 a0_11 a0_12 a0_13 a0_14 a0_15 a0_16 a0_17 a0_18 a0_19 a0_20 a0_21 a0_22 a0_23 a0_24 a0_25 a0_26 a0_27 a0_28 a0_29 ix now a0_2.toNat 0 ps0 [] = some (ps2, out2)) :
    Calls Try.prog 11 #[.pointer (some ⟨g, 0, none⟩), .int .i64 now] w fun e w' => (now < nx ∧ ∃ v : Value, e = .returned v ∧ w'.heap[g]? = some (.cells #[.int .i64 a0_0, .int .i64 a0_1, .int .i64 a0_2, .int .i64 a0_3, .int .i64 a0_4, .slice A0_5 l0_5.length c0_5, .int .i64 a0_6, .int .i64 a0_7, .int .i64 a0_8, .int .i64 a0_9, .int .i64 a0_10, .int .i64 a0_11, .int .i64 a0_12, .int .i64 a0_13, .int .i64 a0_14, .int .i64 a0_15, .int .i64 a0_16, .int .i64 a0_17, .int .i64 a0_18, .int .i64 a0_19, .int .i64 a0_20, .int .i64 a0_21, .int .i64 a0_22, .int .i64 a0_23, .int .i64 a0_24, .int .i64 a0_25, .int .i64 a0_26, .int .i64 a0_27, .int .i64 a0_28, .int .i64 a0_29, .int .i64 ix, .slice (some ⟨gp, 0, none⟩) n c, .int .i64 nx] 57 (0, 0)) ∧ Kd.R k63 63 w' w0.heap.size (fun _ => True) (.slice (some ⟨gp, 0, none⟩) n c) ps2 ∧ Kd.R k37 37 w' w0.heap.size (fun k_ => w.heap.size ≤ k_) v out2 ∧ Below w0.heap.size w0 w' ∧ KeepBut w w' g (some gp)) ∨ (¬ now < nx ∧ ∃ v : Value, e = .returned v ∧ w'.heap[g]? = some (.cells #[.int .i64 a0_0, .int .i64 a0_1, .int .i64 a0_2, .int .i64 a0_3, .int .i64 a0_4, .slice A0_5 l0_5.length c0_5, .int .i64 a0_6, .int .i64 a0_7, .int .i64 a0_8, .int .i64 a0_9, .int .i64 a0_10, .int .i64 a0_11, .int .i64 a0_12, .int .i64 a0_13, .int .i64 a0_14, .int .i64 a0_15, .int .i64 a0_16, .int .i64 a0_17, .int .i64 a0_18, .int .i64 a0_19, .int .i64 a0_20, .int .i64 a0_21, .int .i64 a0_22, .int .i64 a0_23, .int .i64 a0_24, .int .i64 a0_25, .int .i64 a0_26, .int .i64 a0_27, .int .i64 a0_28, .int .i64 a0_29, .int .i64 ix, .slice (some ⟨gp, 0, none⟩) n c, .int .i64 (wrap64 (now + a0_6))] 57 (0, 0)) ∧ Kd.R k63 63 w' w0.heap.size (fun _ => True) (.slice (some ⟨gp, 0, none⟩) n c) ps2 ∧ Kd.R k37 37 w' w0.heap.size (fun k_ => w.heap.size ≤ k_) v (out2 ++ observer_Tick.votes a0_0 a0_1 a0_2 a0_3 a0_4 l0_5 a0_6 a0_7 a0_8 a0_9 a0_10 a0_11 a0_12 a0_13 a0_14 a0_15 a0_16 a0_17 a0_18 a0_19 a0_20 a0_21 a0_22 a0_23 a0_24 a0_25 a0_26 a0_27 a0_28 a0_29 ix now (observer_Up.v ps2) a0_1.toNat 0) ∧ Below w0.heap.size w0 w' ∧ KeepBut w w' g (some gp)) := by
  have Ko := Aside0.mk hK
  have HP := Aside0.mk hR
  have Bw := Aside0.mk hB
  have HG := Aside0.mk hg
  have HR5 := Aside0.mk hr0_5
  have HC5 := Aside0.mk hc0_5
  have HCF := Aside0.mk hcf
  have KB := Aside0.mk (KeepBut.refl w g (some gp))
  have HO := Aside0.mk (Kd.R_nil k37 37 w w0.heap.size (fun k_ => w.heap.size ≤ k_))
  clear hK hR hB hg hr0_5 hc0_5 hcf
  have HTM := Aside0.mk (show observer_time.f now = some true by unfold observer_time.f; rw [if_pos hn.1, decide_eq_true hn.2])
  have HGO := Aside0.mk h
  have HLT := Aside0.mk hlt
  clear hn h hlt
  go_enter Try.func11, Try.ntmps11
  go_upto_region 4 with (first | ((with_reducible refine gate_callee (f := 27) rfl ?_); refine goesL_ (some 11) rfl rfl Try.func27 (by kernel_rfl) rfl #[.int .i64 now] rfl (by (try simp only [List.map_toArray, List.map_cons, List.map_nil]); first | done | rfl) ?_; (with_reducible refine (observer_time.calls now true _ HTM.out).mono ?_); rintro e Wc210 ⟨rfl, hd_⟩; refine ⟨_, rfl, ?_⟩; have hb := hd_.below; clear hd_; have n0_ := Aside0.mk (blk_below Ko.out hb); have n1_ := Aside0.mk (Kd.R_below HP.out hb); have n2_ := Aside0.mk (Kd.R_below HO.out hb); have n3_ := Aside0.mk (observer_Tick.bel Bw.out hb); have n4_ := Aside0.mk (obs.keep_below KB.out hb); clear Ko HP HO Bw KB; have Ko := n0_; have HP := n1_; have HO := n2_; have Bw := n3_; have KB := n4_; clear n0_ n1_ n2_ n3_ n4_; skip; clear hb))
  go_cut [6] (fun v6 wc => v6 = .int .i64 (obs.O a0_0 a0_1 a0_2 a0_3 a0_4 l0_5 a0_6 a0_7 a0_8 a0_9 a0_10 a0_11 a0_12 a0_13 a0_14 a0_15 a0_16 a0_17 a0_18 a0_19 a0_20 a0_21 a0_22 a0_23 a0_24 a0_25 a0_26 a0_27 a0_28 a0_29 ix) ∧ Aside0 (wc.heap[g]? = some (.cells #[.int .i64 a0_0, .int .i64 a0_1, .int .i64 a0_2, .int .i64 a0_3, .int .i64 a0_4, .slice A0_5 l0_5.length c0_5, .int .i64 a0_6, .int .i64 a0_7, .int .i64 a0_8, .int .i64 a0_9, .int .i64 a0_10, .int .i64 a0_11, .int .i64 a0_12, .int .i64 a0_13, .int .i64 a0_14, .int .i64 a0_15, .int .i64 a0_16, .int .i64 a0_17, .int .i64 a0_18, .int .i64 a0_19, .int .i64 a0_20, .int .i64 a0_21, .int .i64 a0_22, .int .i64 a0_23, .int .i64 a0_24, .int .i64 a0_25, .int .i64 a0_26, .int .i64 a0_27, .int .i64 a0_28, .int .i64 a0_29, .int .i64 ix, .slice (some ⟨gp, 0, none⟩) n c, .int .i64 nx] 57 (0, 0))) ∧ Aside0 (Kd.R k63 63 wc w0.heap.size (fun _ => True) (.slice (some ⟨gp, 0, none⟩) n c) ps0) ∧ Aside0 (Kd.R k37 37 wc w0.heap.size (fun k_ => w.heap.size ≤ k_) (.slice none 0 0) []) ∧ Aside0 (Below w0.heap.size w0 wc) ∧ Aside0 (KeepBut w wc g (some gp)))
  case first =>
    refine start_ (n := 10) (ds := []) (S := fun w' => w'.heap[g]? = some (.cells #[.int .i64 a0_0, .int .i64 a0_1, .int .i64 a0_2, .int .i64 a0_3, .int .i64 a0_4, .slice A0_5 l0_5.length c0_5, .int .i64 a0_6, .int .i64 a0_7, .int .i64 a0_8, .int .i64 a0_9, .int .i64 a0_10, .int .i64 a0_11, .int .i64 a0_12, .int .i64 a0_13, .int .i64 a0_14, .int .i64 a0_15, .int .i64 a0_16, .int .i64 a0_17, .int .i64 a0_18, .int .i64 a0_19, .int .i64 a0_20, .int .i64 a0_21, .int .i64 a0_22, .int .i64 a0_23, .int .i64 a0_24, .int .i64 a0_25, .int .i64 a0_26, .int .i64 a0_27, .int .i64 a0_28, .int .i64 a0_29, .int .i64 ix, .slice (some ⟨gp, 0, none⟩) n c, .int .i64 nx] 57 (0, 0))) (observer_Tick.L4 0) (by kernel_rfl) rfl rfl Ko.out (fun hHeld => ?_)
    have n0_ := Aside0.mk (blk_drew Ko.out)
    have n1_ := Aside0.mk (Kd.R_drew HP.out)
    have n2_ := Aside0.mk (Kd.R_drew HO.out)
    have n3_ := Aside0.mk (below_drew1 Bw.out)
    have n4_ := Aside0.mk (obs.keep_below KB.out (below_drew (Below.refl _ _)))
    clear Ko HP HO Bw KB
    have Ko := n0_
    have HP := n1_
    have HO := n2_
    have Bw := n3_
    have KB := n4_
    clear n0_ n1_ n2_ n3_ n4_
    generalize Wc210.drew = Wd at Ko HP HO Bw KB hHeld ⊢
    (refine pure_ (i := 0) (N := (some 13)) (v := ?_) (a' := ?_) (observer_Tick.L4 1) rfl rfl (by kernel_rfl) (fun _ _ _ h => h) (Or.inl ⟨by rfl, ?_⟩) ?_ ?_; rotate_left; (intro w'; go_simp; with_reducible rfl); rotate_left)
    · simp only [Act.put, List.setIfInBounds_toArray, List.set_cons_zero, List.set_cons_succ, i64_w, i32_w]; rfl
    (refine pure_ (i := 1) (N := (some 14)) (v := ?_) (a' := ?_) (observer_Tick.L4 2) rfl rfl (by kernel_rfl) (fun _ _ _ h => h) (Or.inl ⟨by rfl, ?_⟩) ?_ ?_; rotate_left; (intro w'; go_simp; with_reducible rfl); rotate_left)
    · simp only [Act.put, List.setIfInBounds_toArray, List.set_cons_zero, List.set_cons_succ, i64_w, i32_w]; rfl
    (refine pure_ (i := 2) (N := (some 15)) (v := ?_) (a' := ?_) (observer_Tick.L4 3) rfl rfl (by kernel_rfl) (fun _ _ _ h => h) (Or.inl ⟨by rfl, ?_⟩) ?_ ?_; rotate_left; (intro w'; go_simp; with_reducible rfl); rotate_left)
    · simp only [Act.put, List.setIfInBounds_toArray, List.set_cons_zero, List.set_cons_succ, i64_w, i32_w]; rfl
    (refine take_ (i := 3) (N := (some 16)) (v := ?_) (a' := ?_) (observer_Tick.L4 4) rfl rfl (by kernel_rfl) (fun _ _ _ h => h) (Or.inl ⟨by rfl, ?_⟩) hHeld ?_ ?_; rotate_left; (rintro w' S1_; refine (obs.run_load_part 24 _ (by rfl) g (by rfl) 57 #[.int .i64 a0_0, .int .i64 a0_1, .int .i64 a0_2, .int .i64 a0_3, .int .i64 a0_4, .slice A0_5 l0_5.length c0_5, .int .i64 a0_6, .int .i64 a0_7, .int .i64 a0_8, .int .i64 a0_9, .int .i64 a0_10, .int .i64 a0_11, .int .i64 a0_12, .int .i64 a0_13, .int .i64 a0_14, .int .i64 a0_15, .int .i64 a0_16, .int .i64 a0_17, .int .i64 a0_18, .int .i64 a0_19, .int .i64 a0_20, .int .i64 a0_21, .int .i64 a0_22, .int .i64 a0_23, .int .i64 a0_24, .int .i64 a0_25, .int .i64 a0_26, .int .i64 a0_27, .int .i64 a0_28, .int .i64 a0_29] #[.int .i64 ix, .slice (some ⟨gp, 0, none⟩) n c, .int .i64 nx] (0, 0) _ Try.underlying24 rfl (by as_aux_lemma => kernel_rfl) S1_).trans ?_; with_reducible rfl); rotate_left)
    · simp only [Act.put, List.setIfInBounds_toArray, List.set_cons_zero, List.set_cons_succ, i64_w, i32_w]; rfl
    (refine pure_ (i := 4) (N := (some 17)) (v := ?_) (a' := ?_) (observer_Tick.L4 5) rfl rfl (by kernel_rfl) (fun _ _ _ h => h) (Or.inl ⟨by rfl, ?_⟩) ?_ ?_; rotate_left; (intro w'; go_simp; with_reducible rfl); rotate_left)
    · simp only [Act.put, List.setIfInBounds_toArray, List.set_cons_zero, List.set_cons_succ, i64_w, i32_w]; rfl
    (refine pure_ (i := 5) (N := (some 18)) (v := ?_) (a' := ?_) (observer_Tick.L4 6) rfl rfl (by kernel_rfl) (fun _ _ _ h => h) (Or.inl ⟨by rfl, ?_⟩) ?_ ?_; rotate_left; (intro w'; go_simp; with_reducible rfl); rotate_left)
    · simp only [Act.put, List.setIfInBounds_toArray, List.set_cons_zero, List.set_cons_succ, i64_w, i32_w]; rfl
    (refine pure_ (i := 6) (N := (some 19)) (v := ?_) (a' := ?_) (observer_Tick.L4 7) rfl rfl (by kernel_rfl) (fun _ _ _ h => h) (Or.inl ⟨by rfl, ?_⟩) ?_ ?_; rotate_left; (intro w'; go_simp; with_reducible rfl); rotate_left)
    · simp only [Act.put, List.setIfInBounds_toArray, List.set_cons_zero, List.set_cons_succ, i64_w, i32_w]; rfl
    (refine take_ (i := 7) (N := (some 20)) (v := ?_) (a' := ?_) (observer_Tick.L4 8) rfl rfl (by kernel_rfl) (fun _ _ _ h => h) (Or.inl ⟨by rfl, ?_⟩) hHeld ?_ ?_; rotate_left; (rintro w' S1_; have hf_ := (blk_cell S1_ 30).trans rfl; go_simp; with_reducible rfl); rotate_left)
    · simp only [Act.put, List.setIfInBounds_toArray, List.set_cons_zero, List.set_cons_succ, i64_w, i32_w]; rfl
    (refine one_ (i := 8) (N := (some 21)) (observer_Tick.L4 9) rfl rfl (by kernel_rfl) (by decide) (fun K hK => ?_); refine goes_ Try.func14 (by kernel_rfl) rfl #[.agg #[.int .i64 a0_0, .int .i64 a0_1, .int .i64 a0_2, .int .i64 a0_3, .int .i64 a0_4, .slice A0_5 l0_5.length c0_5, .int .i64 a0_6, .int .i64 a0_7, .int .i64 a0_8, .int .i64 a0_9, .int .i64 a0_10, .int .i64 a0_11, .int .i64 a0_12, .int .i64 a0_13, .int .i64 a0_14, .int .i64 a0_15, .int .i64 a0_16, .int .i64 a0_17, .int .i64 a0_18, .int .i64 a0_19, .int .i64 a0_20, .int .i64 a0_21, .int .i64 a0_22, .int .i64 a0_23, .int .i64 a0_24, .int .i64 a0_25, .int .i64 a0_26, .int .i64 a0_27, .int .i64 a0_28, .int .i64 a0_29], .int .i64 ix] (by rfl) rfl rfl (by (try simp only [List.map_toArray, List.map_cons, List.map_nil]); first | done | rfl) ?_; with_reducible refine (api_ObserverNode.calls a0_0 a0_1 a0_2 a0_3 a0_4 _ _ l0_5 a0_6 a0_7 a0_8 a0_9 a0_10 a0_11 a0_12 a0_13 a0_14 a0_15 a0_16 a0_17 a0_18 a0_19 a0_20 a0_21 a0_22 a0_23 a0_24 a0_25 a0_26 a0_27 a0_28 a0_29 ix _ _ (Kd.C_below HR5.out Bw.out) HC5.out (obs.O_f a0_0 a0_1 a0_2 a0_3 a0_4 l0_5 a0_6 a0_7 a0_8 a0_9 a0_10 a0_11 a0_12 a0_13 a0_14 a0_15 a0_16 a0_17 a0_18 a0_19 a0_20 a0_21 a0_22 a0_23 a0_24 a0_25 a0_26 a0_27 a0_28 a0_29 ix)).mono ?_; rintro e Wc230 ⟨rfl, hb⟩; refine ⟨_, rfl, ?_⟩; have n0_ := Aside0.mk (blk_below Ko.out hb); have n1_ := Aside0.mk (Kd.R_below HP.out hb); have n2_ := Aside0.mk (Kd.R_below HO.out hb); have n3_ := Aside0.mk (observer_Tick.bel Bw.out hb); have n4_ := Aside0.mk (obs.keep_below KB.out hb); clear Ko HP HO Bw KB; have Ko := n0_; have HP := n1_; have HO := n2_; have Bw := n3_; have KB := n4_; clear n0_ n1_ n2_ n3_ n4_; skip; clear hb; refine hK.out _ _ Ko.out (fun hHeld => ?_); clear hK K; refine norm_ (a' := ?_) ?_ ?_; rotate_left; (show Act.put _ (some 21) _ = _))
    · simp only [Act.put, List.setIfInBounds_toArray, List.set_cons_zero, List.set_cons_succ, i64_w, i32_w]; rfl
    (refine pure_ (i := 9) (N := (some 6)) (v := ?_) (a' := ?_) (observer_Tick.L4 10) rfl rfl (by kernel_rfl) (fun _ _ _ h => h) (Or.inl ⟨by rfl, ?_⟩) ?_ ?_; rotate_left; (intro w'; go_simp; with_reducible rfl); rotate_left)
    · simp only [Act.put, List.setIfInBounds_toArray, List.set_cons_zero, List.set_cons_succ, i64_w, i32_w]; rfl
    refine done_ (by kernel_rfl) ?_
    try go_wp2
    go_meet
    case rel => exact ⟨rfl, Ko, HP, HO, Bw, KB⟩
  case rest =>
    clear Ko HP HO Bw KB
    obtain ⟨rfl, Ko, HP, HO, Bw, KB⟩ := hcut
    have hc2 := (blk_cell Ko.out 2).trans rfl
    go_wp2
    go_loopg [5, 27] n (fun gk v5 v27 wr => ∃ (x : Int) (ps : List S63) (out : List S37), v27 = .int .i64 x ∧ Aside0 (0 ≤ x ∧ x + gk = n ∧ (out.length : Int) ≤ x) ∧ Aside0 (observer_Tick.go k a0_0 a0_1 a0_2 a0_3 a0_4 l0_5 a0_6 a0_7 a0_8 a0_9 a0_10 a0_11 a0_12 a0_13 a0_14 a0_15 a0_16 a0_17 a0_18 a0_19 a0_20 a0_21 a0_22 a0_23 a0_24 a0_25 a0_26 a0_27 a0_28 a0_29 ix now gk x ps out = some (ps2, out2)) ∧ Aside0 (wr.heap[g]? = some (.cells #[.int .i64 a0_0, .int .i64 a0_1, .int .i64 a0_2, .int .i64 a0_3, .int .i64 a0_4, .slice A0_5 l0_5.length c0_5, .int .i64 a0_6, .int .i64 a0_7, .int .i64 a0_8, .int .i64 a0_9, .int .i64 a0_10, .int .i64 a0_11, .int .i64 a0_12, .int .i64 a0_13, .int .i64 a0_14, .int .i64 a0_15, .int .i64 a0_16, .int .i64 a0_17, .int .i64 a0_18, .int .i64 a0_19, .int .i64 a0_20, .int .i64 a0_21, .int .i64 a0_22, .int .i64 a0_23, .int .i64 a0_24, .int .i64 a0_25, .int .i64 a0_26, .int .i64 a0_27, .int .i64 a0_28, .int .i64 a0_29, .int .i64 ix, .slice (some ⟨gp, 0, none⟩) n c, .int .i64 nx] 57 (0, 0))) ∧ Aside0 (Kd.R k63 63 wr w0.heap.size (fun _ => True) (.slice (some ⟨gp, 0, none⟩) n c) ps) ∧ Aside0 (Kd.R k37 37 wr w0.heap.size (fun k_ => w.heap.size ≤ k_) v5 out) ∧ Aside0 (Below w0.heap.size w0 wr) ∧ Aside0 (KeepBut w wr g (some gp)))
    case atStart => exact ⟨0, ps0, [], rfl, ⟨by simp⟩, ⟨by have h_ := HGO.out; rw [show a0_2.toNat = n by have h2_ := HCF.out; omega] at h_; exact h_⟩, Ko, HP, HO, Bw, KB⟩
    case round =>
      clear Ko HP HO Bw KB hc2 HGO
      obtain ⟨x, ps, out, rfl, HX, HGO, Ko, HP, HO, Bw, KB⟩ := hrel
      have ha2 := HCF.out.1.1
      cases gk with
      | zero =>
        have hlb : decide (x < a0_2) = false := decide_eq_false (by have h_ := HX.out; omega)
        have HE := Aside0.mk (show (ps, out) = (ps2, out2) from Option.some.inj HGO.out)
        clear HGO ha2
        have hc32 := (blk_cell Ko.out 32).trans rfl
        by_cases hnx : now < nx
        · have hnb : decide (now < nx) = true := decide_eq_true hnx
          have HNX := Aside0.mk hnx
          clear hnx
          go_wp2
          go_ret
          have he := HE.out
          simp only [Prod.mk.injEq] at he
          obtain ⟨rfl, rfl⟩ := he
          refine .inl ⟨HNX.out, ?_⟩
          exact ⟨_, rfl, Ko.out, HP.out, HO.out, Bw.out, KB.out⟩
        · have hnb : decide (now < nx) = false := decide_eq_false hnx
          have HNX := Aside0.mk hnx
          clear hnx
          have hc6 := (blk_cell Ko.out 6).trans rfl
          have hz32 := blk_frozen Ko.out 32
          obtain ⟨nx2, hnx2⟩ : ∃ y_, wrap64 (now + a0_6) = y_ := ⟨_, rfl⟩
          go_upto_region 16 with (fail)
          (try simp only [Act.put, List.setIfInBounds_toArray, List.set_cons_zero, List.set_cons_succ])
          rw [hnx2]
          have HN2 := Aside0.mk hnx2
          clear hnx2 hc6 hc32 hz32 hnb hlb
          have n0_ := Aside0.mk (show (World.setCell wr ⟨g, 32, none⟩ (.int .i64 nx2)).heap[g]? = some (.cells #[.int .i64 a0_0, .int .i64 a0_1, .int .i64 a0_2, .int .i64 a0_3, .int .i64 a0_4, .slice A0_5 l0_5.length c0_5, .int .i64 a0_6, .int .i64 a0_7, .int .i64 a0_8, .int .i64 a0_9, .int .i64 a0_10, .int .i64 a0_11, .int .i64 a0_12, .int .i64 a0_13, .int .i64 a0_14, .int .i64 a0_15, .int .i64 a0_16, .int .i64 a0_17, .int .i64 a0_18, .int .i64 a0_19, .int .i64 a0_20, .int .i64 a0_21, .int .i64 a0_22, .int .i64 a0_23, .int .i64 a0_24, .int .i64 a0_25, .int .i64 a0_26, .int .i64 a0_27, .int .i64 a0_28, .int .i64 a0_29, .int .i64 ix, .slice (some ⟨gp, 0, none⟩) n c, .int .i64 nx2] 57 (0, 0)) from blk_set Ko.out 32 (.int .i64 nx2))
          have n1_ := Aside0.mk (Kd.R_set HP.out Ko.out observer_Restart.e63 32 (.int .i64 nx2))
          have n2_ := Aside0.mk (Kd.R_set HO.out Ko.out observer_Tick.e37 32 (.int .i64 nx2))
          have n3_ := Aside0.mk (Bw.out.setCell (p := ⟨g, 32, none⟩) HG.out (.int .i64 nx2))
          have n4_ := Aside0.mk (KB.out.set_ 32 (.int .i64 nx2))
          clear Ko HP HO Bw KB
          have Ko := n0_
          have HP := n1_
          have HO := n2_
          have Bw := n3_
          have KB := n4_
          clear n0_ n1_ n2_ n3_ n4_
          generalize World.setCell wr ⟨g, 32, none⟩ (.int .i64 nx2) = We at Ko HP HO Bw KB ⊢
          have hc1 := (blk_cell Ko.out 1).trans rfl
          obtain ⟨up, hup⟩ : ∃ y_, observer_Up.v ps = y_ := ⟨_, rfl⟩
          have HUP := Aside0.mk hup
          clear hup
          go_wp2
          go_loopg [5, 89] a0_1.toNat (fun gk v5 v89 wr => ∃ (y : Int) (o2 : List S37), v89 = .int .i64 y ∧ Aside0 (0 ≤ y ∧ y + gk = a0_1 ∧ (o2.length : Int) ≤ out.length + y) ∧ Aside0 (o2 ++ observer_Tick.votes a0_0 a0_1 a0_2 a0_3 a0_4 l0_5 a0_6 a0_7 a0_8 a0_9 a0_10 a0_11 a0_12 a0_13 a0_14 a0_15 a0_16 a0_17 a0_18 a0_19 a0_20 a0_21 a0_22 a0_23 a0_24 a0_25 a0_26 a0_27 a0_28 a0_29 ix now up gk y = out ++ observer_Tick.votes a0_0 a0_1 a0_2 a0_3 a0_4 l0_5 a0_6 a0_7 a0_8 a0_9 a0_10 a0_11 a0_12 a0_13 a0_14 a0_15 a0_16 a0_17 a0_18 a0_19 a0_20 a0_21 a0_22 a0_23 a0_24 a0_25 a0_26 a0_27 a0_28 a0_29 ix now up a0_1.toNat 0) ∧ Aside0 (wr.heap[g]? = some (.cells #[.int .i64 a0_0, .int .i64 a0_1, .int .i64 a0_2, .int .i64 a0_3, .int .i64 a0_4, .slice A0_5 l0_5.length c0_5, .int .i64 a0_6, .int .i64 a0_7, .int .i64 a0_8, .int .i64 a0_9, .int .i64 a0_10, .int .i64 a0_11, .int .i64 a0_12, .int .i64 a0_13, .int .i64 a0_14, .int .i64 a0_15, .int .i64 a0_16, .int .i64 a0_17, .int .i64 a0_18, .int .i64 a0_19, .int .i64 a0_20, .int .i64 a0_21, .int .i64 a0_22, .int .i64 a0_23, .int .i64 a0_24, .int .i64 a0_25, .int .i64 a0_26, .int .i64 a0_27, .int .i64 a0_28, .int .i64 a0_29, .int .i64 ix, .slice (some ⟨gp, 0, none⟩) n c, .int .i64 nx2] 57 (0, 0))) ∧ Aside0 (Kd.R k63 63 wr w0.heap.size (fun _ => True) (.slice (some ⟨gp, 0, none⟩) n c) ps) ∧ Aside0 (Kd.R k37 37 wr w0.heap.size (fun k_ => w.heap.size ≤ k_) v5 o2) ∧ Aside0 (Below w0.heap.size w0 wr) ∧ Aside0 (KeepBut w wr g (some gp)))
          case atStart => exact ⟨0, out, rfl, ⟨by have h_ := HCF.out; omega⟩, ⟨rfl⟩, Ko, HP, HO, Bw, KB⟩
          case round =>
            clear Ko HP HO Bw KB hc1
            obtain ⟨y, o2, rfl, HY, HV, Ko, HP, HO, Bw, KB⟩ := hrel
            cases gk with
            | zero =>
              have hyb : decide (y < a0_1) = false := decide_eq_false (by have h_ := HY.out; omega)
              go_wp2
              go_ret
              have he := HE.out
              simp only [Prod.mk.injEq] at he
              obtain ⟨rfl, rfl⟩ := he
              refine .inr ⟨HNX.out, ?_⟩
              have hv := HV.out
              simp only [observer_Tick.votes, List.append_nil] at hv
              rw [HUP.out, ← hv, HN2.out]
              exact ⟨_, rfl, Ko.out, HP.out, HO.out, Bw.out, KB.out⟩
            | succ gk =>
              have hyw : wrap64 (y + 1) = y + 1 := by have h_ := HY.out; have h2_ := HCF.out; unfold wrap64; omega
              have hyb : decide (y < a0_1) = true := decide_eq_true (by have h_ := HY.out; omega)
              have HLN := Aside0.mk (show o2.length ≤ 100 by have h_ := HY.out; have h2_ := HX.out; have h3_ := HCF.out; omega)
              go_wp2_with (first | ((with_reducible refine gate_dst (N := 97) rfl ?_); refine obs.load_part rfl 24 (.tmp 96) rfl g rfl 57 #[.int .i64 a0_0, .int .i64 a0_1, .int .i64 a0_2, .int .i64 a0_3, .int .i64 a0_4, .slice A0_5 l0_5.length c0_5, .int .i64 a0_6, .int .i64 a0_7, .int .i64 a0_8, .int .i64 a0_9, .int .i64 a0_10, .int .i64 a0_11, .int .i64 a0_12, .int .i64 a0_13, .int .i64 a0_14, .int .i64 a0_15, .int .i64 a0_16, .int .i64 a0_17, .int .i64 a0_18, .int .i64 a0_19, .int .i64 a0_20, .int .i64 a0_21, .int .i64 a0_22, .int .i64 a0_23, .int .i64 a0_24, .int .i64 a0_25, .int .i64 a0_26, .int .i64 a0_27, .int .i64 a0_28, .int .i64 a0_29] #[.int .i64 ix, .slice (some ⟨gp, 0, none⟩) n c, .int .i64 nx2] (0, 0) _ Ko.out Try.underlying24 rfl (by as_aux_lemma => kernel_rfl) ?_) | ((with_reducible refine gate_callee (f := 13) rfl ?_); refine goesL_ (some 99) rfl rfl Try.func13 (by kernel_rfl) rfl #[.agg #[.int .i64 a0_0, .int .i64 a0_1, .int .i64 a0_2, .int .i64 a0_3, .int .i64 a0_4, .slice A0_5 l0_5.length c0_5, .int .i64 a0_6, .int .i64 a0_7, .int .i64 a0_8, .int .i64 a0_9, .int .i64 a0_10, .int .i64 a0_11, .int .i64 a0_12, .int .i64 a0_13, .int .i64 a0_14, .int .i64 a0_15, .int .i64 a0_16, .int .i64 a0_17, .int .i64 a0_18, .int .i64 a0_19, .int .i64 a0_20, .int .i64 a0_21, .int .i64 a0_22, .int .i64 a0_23, .int .i64 a0_24, .int .i64 a0_25, .int .i64 a0_26, .int .i64 a0_27, .int .i64 a0_28, .int .i64 a0_29], .int .i64 y] rfl (by (try simp only [List.map_toArray, List.map_cons, List.map_nil]); first | done | rfl) ?_; (with_reducible refine (api_DeciderNode.calls a0_0 a0_1 a0_2 a0_3 a0_4 _ _ l0_5 a0_6 a0_7 a0_8 a0_9 a0_10 a0_11 a0_12 a0_13 a0_14 a0_15 a0_16 a0_17 a0_18 a0_19 a0_20 a0_21 a0_22 a0_23 a0_24 a0_25 a0_26 a0_27 a0_28 a0_29 y _ _ (Kd.C_below HR5.out Bw.out) HC5.out (obs.D_f a0_0 a0_1 a0_2 a0_3 a0_4 l0_5 a0_6 a0_7 a0_8 a0_9 a0_10 a0_11 a0_12 a0_13 a0_14 a0_15 a0_16 a0_17 a0_18 a0_19 a0_20 a0_21 a0_22 a0_23 a0_24 a0_25 a0_26 a0_27 a0_28 a0_29 y)).mono ?_); rintro e Wc300 ⟨rfl, hb⟩; refine ⟨_, rfl, ?_⟩; have n0_ := Aside0.mk (blk_below Ko.out hb); have n1_ := Aside0.mk (Kd.R_below HP.out hb); have n2_ := Aside0.mk (Kd.R_below HO.out hb); have n3_ := Aside0.mk (observer_Tick.bel Bw.out hb); have n4_ := Aside0.mk (obs.keep_below KB.out hb); clear Ko HP HO Bw KB; have Ko := n0_; have HP := n1_; have HO := n2_; have Bw := n3_; have KB := n4_; clear n0_ n1_ n2_ n3_ n4_; skip; clear hb) | ((with_reducible refine gate_callee (f := 12) rfl ?_); refine goesL_ (some 101) rfl rfl Try.func12 (by kernel_rfl) rfl #[.pointer (some ⟨g, 0, none⟩)] rfl (by (try simp only [List.map_toArray, List.map_cons, List.map_nil]); first | done | rfl) ?_; (with_reducible refine (observer_Up.calls a0_0 a0_1 a0_2 a0_3 a0_4 _ _ l0_5 a0_6 a0_7 a0_8 a0_9 a0_10 a0_11 a0_12 a0_13 a0_14 a0_15 a0_16 a0_17 a0_18 a0_19 a0_20 a0_21 a0_22 a0_23 a0_24 a0_25 a0_26 a0_27 a0_28 a0_29 ix _ c n ps nx2 g _ (Kd.R_reads' HP.out).1 Ko.out (observer_Tick.rd63 HP.out)).mono ?_); rintro e Wc301 ⟨hup_, hb⟩; subst hup_; refine ⟨_, rfl, ?_⟩; have n0_ := Aside0.mk (blk_below Ko.out hb); have n1_ := Aside0.mk (Kd.R_below HP.out hb); have n2_ := Aside0.mk (Kd.R_below HO.out hb); have n3_ := Aside0.mk (observer_Tick.bel Bw.out hb); have n4_ := Aside0.mk (obs.keep_below KB.out hb); clear Ko HP HO Bw KB; have Ko := n0_; have HP := n1_; have HO := n2_; have Bw := n3_; have KB := n4_; clear n0_ n1_ n2_ n3_ n4_; skip; clear hb) | ((with_reducible refine gate_dst (N := 103) rfl ?_); refine locumlaw13_Plain.build rfl 37 #[(0, .const (.int .i64 3)), (1, .tmp 93), (2, .tmp 99), (8, .tmp 101), (7, .tmp 102)] #[.int .i64 3, .int .i64 (obs.O a0_0 a0_1 a0_2 a0_3 a0_4 l0_5 a0_6 a0_7 a0_8 a0_9 a0_10 a0_11 a0_12 a0_13 a0_14 a0_15 a0_16 a0_17 a0_18 a0_19 a0_20 a0_21 a0_22 a0_23 a0_24 a0_25 a0_26 a0_27 a0_28 a0_29 ix), .int .i64 (obs.D a0_0 a0_1 a0_2 a0_3 a0_4 l0_5 a0_6 a0_7 a0_8 a0_9 a0_10 a0_11 a0_12 a0_13 a0_14 a0_15 a0_16 a0_17 a0_18 a0_19 a0_20 a0_21 a0_22 a0_23 a0_24 a0_25 a0_26 a0_27 a0_28 a0_29 y), .int .i64 0, .int .i64 0, .int .i64 0, .int .i64 0, .int .i64 now, .int .u64 (observer_Up.v ps), .int .i64 0, .bool false, .int .i64 0, .int .i64 0, .int .i64 0, .int .i64 0, .int .i64 0, .int .i64 0, .int .i64 0, .int .i64 0, .int .u64 0, .int .u64 0, .slice none 0 0, .slice none 0 0, .slice none 0 0, .slice none 0 0, .slice none 0 0] rfl (by as_aux_lemma => kernel_rfl) ?_) | ((with_reducible refine gate_builtin (b := .append) (xs := #[.tmp 92, .tmp 104]) rfl ?_); at_builtin; refine Kd.R_append k37 (w0 := w0) w0.heap.size rfl (.tmp 92) (.tmp 104) 26 37 (.agg #[.int .i64 0, .int .i64 0, .int .i64 0, .int .i64 0, .int .i64 0, .int .i64 0, .int .i64 0, .int .i64 0, .int .u64 0, .int .i64 0, .bool false, .int .i64 0, .int .i64 0, .int .i64 0, .int .i64 0, .int .i64 0, .int .i64 0, .int .i64 0, .int .i64 0, .int .u64 0, .int .u64 0, .slice none 0 0, .slice none 0 0, .slice none 0 0, .slice none 0 0, .slice none 0 0]) 288 rfl Try.underlying26 observer_Tick.info37 rfl (by decide) (by decide) u5 o2 (obs.vote (obs.O a0_0 a0_1 a0_2 a0_3 a0_4 l0_5 a0_6 a0_7 a0_8 a0_9 a0_10 a0_11 a0_12 a0_13 a0_14 a0_15 a0_16 a0_17 a0_18 a0_19 a0_20 a0_21 a0_22 a0_23 a0_24 a0_25 a0_26 a0_27 a0_28 a0_29 ix) (obs.D a0_0 a0_1 a0_2 a0_3 a0_4 l0_5 a0_6 a0_7 a0_8 a0_9 a0_10 a0_11 a0_12 a0_13 a0_14 a0_15 a0_16 a0_17 a0_18 a0_19 a0_20 a0_21 a0_22 a0_23 a0_24 a0_25 a0_26 a0_27 a0_28 a0_29 y) now (observer_Up.v ps)) [.int .i64 3, .int .i64 (obs.O a0_0 a0_1 a0_2 a0_3 a0_4 l0_5 a0_6 a0_7 a0_8 a0_9 a0_10 a0_11 a0_12 a0_13 a0_14 a0_15 a0_16 a0_17 a0_18 a0_19 a0_20 a0_21 a0_22 a0_23 a0_24 a0_25 a0_26 a0_27 a0_28 a0_29 ix), .int .i64 (obs.D a0_0 a0_1 a0_2 a0_3 a0_4 l0_5 a0_6 a0_7 a0_8 a0_9 a0_10 a0_11 a0_12 a0_13 a0_14 a0_15 a0_16 a0_17 a0_18 a0_19 a0_20 a0_21 a0_22 a0_23 a0_24 a0_25 a0_26 a0_27 a0_28 a0_29 y), .int .i64 0, .int .i64 0, .int .i64 0, .int .i64 0, .int .i64 now, .int .u64 (observer_Up.v ps), .int .i64 0, .bool false, .int .i64 0, .int .i64 0, .int .i64 0, .int .i64 0, .int .i64 0, .int .i64 0, .int .i64 0, .int .i64 0, .int .u64 0, .int .u64 0, .slice none 0 0, .slice none 0 0, .slice none 0 0, .slice none 0 0, .slice none 0 0] (fun k_ => w.heap.size ≤ k_) (fun _ => False) rfl rfl ?aP (fun _ hk => hk.elim) ?aF ?aO ?aB ?aS ?aL ?_; (case aP => exact k37_mkM _ _ _ (obs.vote (obs.O a0_0 a0_1 a0_2 a0_3 a0_4 l0_5 a0_6 a0_7 a0_8 a0_9 a0_10 a0_11 a0_12 a0_13 a0_14 a0_15 a0_16 a0_17 a0_18 a0_19 a0_20 a0_21 a0_22 a0_23 a0_24 a0_25 a0_26 a0_27 a0_28 a0_29 ix) (obs.D a0_0 a0_1 a0_2 a0_3 a0_4 l0_5 a0_6 a0_7 a0_8 a0_9 a0_10 a0_11 a0_12 a0_13 a0_14 a0_15 a0_16 a0_17 a0_18 a0_19 a0_20 a0_21 a0_22 a0_23 a0_24 a0_25 a0_26 a0_27 a0_28 a0_29 y) now (observer_Up.v ps)) (Kd.R_nil _ _ _ _ _) (Kd.R_nil _ _ _ _ _) (Kd.R_nil _ _ _ _ _) (Kd.R_nil _ _ _ _ _) (Kd.R_nil _ _ _ _ _)); (case aB => exact Bw.out); (case aF => exact (fun k_ h_ => Nat.le_trans KB.out.1 h_)); (case aO => exact HO.out); (case aS => exact Bw.out.size); (case aL => have h_ := HLN.out; omega); intro v1 W1 ho hb2 hg_ hat; have n0_ := Aside0.mk (blk_grown Ko.out hg_ (Kd.R_ne HO.out Ko.out (by decide))); have n1_ := Aside0.mk (obs.far HP.out HO.out hg_); have n2_ := Aside0.mk ho; have n3_ := Aside0.mk hb2; have n4_ := Aside0.mk (obs.keep_app KB.out HO.out.1 hg_); clear Ko HP HO Bw KB ho hb2 hg_ hat; have Ko := n0_; have HP := n1_; have HO := n2_; have Bw := n3_; have KB := n4_; clear n0_ n1_ n2_ n3_ n4_))
              go_roundg gk
              case measure => omega
              case rel => exact ⟨y + 1, _, by first | rfl | go_num, ⟨by rw [List.length_append, List.length_singleton]; have h_ := HY.out; omega⟩, ⟨by have h_ := HV.out; simp only [observer_Tick.votes] at h_; rw [HUP.out, List.append_assoc]; exact h_⟩, Ko, HP, HO, Bw, KB⟩
      | succ gk =>
        have hxw : wrap64 (x + 1) = x + 1 := by have h_ := HX.out; have h2_ := HCF.out; unfold wrap64; omega
        have hx0 : 0 ≤ x := HX.out.1
        have hlt : x < (n : Int) := by have h_ := HX.out; omega
        have hlb : decide (x < a0_2) = true := decide_eq_true (by omega)
        have hGO := HGO.out
        simp only [observer_Tick.go] at hGO
        obtain ⟨r, hT, hGO⟩ := Option.bind_eq_some_iff.mp hGO
        obtain ⟨p, hp⟩ : ∃ p_, rd_T63 ps x = p_ := ⟨_, rfl⟩
        rw [hp] at hT
        obtain ⟨q0, q1, q2, q3, q4, q5, snd⟩ := r
        obtain ⟨q, hq⟩ : ∃ q_ : S63, q_ = ⟨q0, q1, q2, q3, ⟨q4, q5⟩⟩ := ⟨_, rfl⟩
        have HTK := Aside0.mk (show probe_Tick.f k p.f0 p.f1 p.f2 p.f3 p.f4.f0 p.f4.f1 a0_0 a0_1 a0_2 a0_3 a0_4 l0_5 a0_6 a0_7 a0_8 a0_9 a0_10 a0_11 a0_12 a0_13 a0_14 a0_15 a0_16 a0_17 a0_18 a0_19 a0_20 a0_21 a0_22 a0_23 a0_24 a0_25 a0_26 a0_27 a0_28 a0_29 now now = some (q.f0, q.f1, q.f2, q.f3, q.f4.f0, q.f4.f1, snd) by rw [hq]; exact hT)
        have HG2 := Aside0.mk (show observer_Tick.go k a0_0 a0_1 a0_2 a0_3 a0_4 l0_5 a0_6 a0_7 a0_8 a0_9 a0_10 a0_11 a0_12 a0_13 a0_14 a0_15 a0_16 a0_17 a0_18 a0_19 a0_20 a0_21 a0_22 a0_23 a0_24 a0_25 a0_26 a0_27 a0_28 a0_29 ix now gk (x + 1) (ps.set x.toNat q) (if snd = true then out ++ [obs.probe (obs.O a0_0 a0_1 a0_2 a0_3 a0_4 l0_5 a0_6 a0_7 a0_8 a0_9 a0_10 a0_11 a0_12 a0_13 a0_14 a0_15 a0_16 a0_17 a0_18 a0_19 a0_20 a0_21 a0_22 a0_23 a0_24 a0_25 a0_26 a0_27 a0_28 a0_29 ix) (obs.T a0_0 a0_1 a0_2 a0_3 a0_4 l0_5 a0_6 a0_7 a0_8 a0_9 a0_10 a0_11 a0_12 a0_13 a0_14 a0_15 a0_16 a0_17 a0_18 a0_19 a0_20 a0_21 a0_22 a0_23 a0_24 a0_25 a0_26 a0_27 a0_28 a0_29 x) now] else out) = some (ps2, out2) by rw [hq]; exact hGO)
        clear hT hGO hq HGO ha2
        obtain ⟨adp, qp, hxp_0, hxp_1, hxp_2, hxp_3, hxp_4, hxp_5⟩ := at_T63 (observer_Tick.rd63 HP.out) x hx0 hlt
        cases qp
        have eadd_ := observer_Tick.addr gp (x.toNat * 6)
        rw [eadd_] at hxp_0 hxp_1 hxp_2 hxp_3 hxp_4 hxp_5
        clear eadd_
        rw [hp] at hxp_0 hxp_1 hxp_2 hxp_3 hxp_4 hxp_5
        have HPP := Aside0.mk hp
        clear hp
        have HX0 := Aside0.mk hxp_0
        have HX1 := Aside0.mk hxp_1
        have HX2 := Aside0.mk hxp_2
        have HX3 := Aside0.mk hxp_3
        have HX4 := Aside0.mk hxp_4
        have HX5 := Aside0.mk hxp_5
        clear hxp_0 hxp_1 hxp_2 hxp_3 hxp_4 hxp_5
        have pa := eq_true hx0
        have pb := eq_true hlt
        go_upto_region 9 with (fail)
        go_cut [8] (fun v8 wc => v8 = .bool snd ∧ Aside0 (wc.heap[g]? = some (.cells #[.int .i64 a0_0, .int .i64 a0_1, .int .i64 a0_2, .int .i64 a0_3, .int .i64 a0_4, .slice A0_5 l0_5.length c0_5, .int .i64 a0_6, .int .i64 a0_7, .int .i64 a0_8, .int .i64 a0_9, .int .i64 a0_10, .int .i64 a0_11, .int .i64 a0_12, .int .i64 a0_13, .int .i64 a0_14, .int .i64 a0_15, .int .i64 a0_16, .int .i64 a0_17, .int .i64 a0_18, .int .i64 a0_19, .int .i64 a0_20, .int .i64 a0_21, .int .i64 a0_22, .int .i64 a0_23, .int .i64 a0_24, .int .i64 a0_25, .int .i64 a0_26, .int .i64 a0_27, .int .i64 a0_28, .int .i64 a0_29, .int .i64 ix, .slice (some ⟨gp, 0, none⟩) n c, .int .i64 nx] 57 (0, 0))) ∧ Aside0 (Kd.R k63 63 wc w0.heap.size (fun _ => True) (.slice (some ⟨gp, 0, none⟩) n c) (ps.set x.toNat q)) ∧ Aside0 (Kd.R k37 37 wc w0.heap.size (fun k_ => w.heap.size ≤ k_) u5 out) ∧ Aside0 (Below w0.heap.size w0 wc) ∧ Aside0 (KeepBut w wc g (some gp)))
        case first =>
          refine start_ (n := 25) (ds := [23]) (S := fun w' => w'.heap[g]? = some (.cells #[.int .i64 a0_0, .int .i64 a0_1, .int .i64 a0_2, .int .i64 a0_3, .int .i64 a0_4, .slice A0_5 l0_5.length c0_5, .int .i64 a0_6, .int .i64 a0_7, .int .i64 a0_8, .int .i64 a0_9, .int .i64 a0_10, .int .i64 a0_11, .int .i64 a0_12, .int .i64 a0_13, .int .i64 a0_14, .int .i64 a0_15, .int .i64 a0_16, .int .i64 a0_17, .int .i64 a0_18, .int .i64 a0_19, .int .i64 a0_20, .int .i64 a0_21, .int .i64 a0_22, .int .i64 a0_23, .int .i64 a0_24, .int .i64 a0_25, .int .i64 a0_26, .int .i64 a0_27, .int .i64 a0_28, .int .i64 a0_29, .int .i64 ix, .slice (some ⟨gp, 0, none⟩) n c, .int .i64 nx] 57 (0, 0)) ∧ w'.cell? ⟨gp, x.toNat * 6, none⟩ = some (.int .i64 p.f0) ∧ w'.cell? ⟨gp, x.toNat * 6 + 1, none⟩ = some (.bool p.f1) ∧ w'.cell? ⟨gp, x.toNat * 6 + 2, none⟩ = some (.int .i64 p.f2) ∧ w'.cell? ⟨gp, x.toNat * 6 + 3, none⟩ = some (.int .i64 p.f3) ∧ w'.cell? ⟨gp, x.toNat * 6 + 4, none⟩ = some (.bool p.f4.f0) ∧ w'.cell? ⟨gp, x.toNat * 6 + 5, none⟩ = some (.int .i64 p.f4.f1)) (observer_Tick.L 0) (by kernel_rfl) rfl rfl ⟨Ko.out, HX0.out, HX1.out, HX2.out, HX3.out, HX4.out, HX5.out⟩ (fun hHeld => ?_)
          replace HX0 := Aside0.mk (show wr.drew.cell? ⟨gp, x.toNat * 6, none⟩ = some (.int .i64 p.f0) from HX0.out)
          replace HX1 := Aside0.mk (show wr.drew.cell? ⟨gp, x.toNat * 6 + 1, none⟩ = some (.bool p.f1) from HX1.out)
          replace HX2 := Aside0.mk (show wr.drew.cell? ⟨gp, x.toNat * 6 + 2, none⟩ = some (.int .i64 p.f2) from HX2.out)
          replace HX3 := Aside0.mk (show wr.drew.cell? ⟨gp, x.toNat * 6 + 3, none⟩ = some (.int .i64 p.f3) from HX3.out)
          replace HX4 := Aside0.mk (show wr.drew.cell? ⟨gp, x.toNat * 6 + 4, none⟩ = some (.bool p.f4.f0) from HX4.out)
          replace HX5 := Aside0.mk (show wr.drew.cell? ⟨gp, x.toNat * 6 + 5, none⟩ = some (.int .i64 p.f4.f1) from HX5.out)
          have n0_ := Aside0.mk (blk_drew Ko.out)
          have n1_ := Aside0.mk (Kd.R_drew HP.out)
          have n2_ := Aside0.mk (Kd.R_drew HO.out)
          have n3_ := Aside0.mk (below_drew1 Bw.out)
          have n4_ := Aside0.mk (obs.keep_below KB.out (below_drew (Below.refl _ _)))
          clear Ko HP HO Bw KB
          have Ko := n0_
          have HP := n1_
          have HO := n2_
          have Bw := n3_
          have KB := n4_
          clear n0_ n1_ n2_ n3_ n4_
          generalize wr.drew = Wd at HX0 HX1 HX2 HX3 HX4 HX5 Ko HP HO Bw KB hHeld ⊢
          (refine pure_ (i := 0) (N := (some 31)) (v := ?_) (a' := ?_) (observer_Tick.L 1) rfl rfl (by kernel_rfl) (fun _ _ _ h => h) (Or.inl ⟨by rfl, ?_⟩) ?_ ?_; rotate_left; (intro w'; go_simp; with_reducible rfl); rotate_left)
          · simp only [Act.put, List.setIfInBounds_toArray, List.set_cons_zero, List.set_cons_succ, i64_w, i32_w]; rfl
          (refine pure_ (i := 1) (N := (some 32)) (v := ?_) (a' := ?_) (observer_Tick.L 2) rfl rfl (by kernel_rfl) (fun _ _ _ h => h) (Or.inl ⟨by rfl, ?_⟩) ?_ ?_; rotate_left; (intro w'; go_simp; with_reducible rfl); rotate_left)
          · simp only [Act.put, List.setIfInBounds_toArray, List.set_cons_zero, List.set_cons_succ, i64_w, i32_w]; rfl
          (refine pure_ (i := 2) (N := (some 33)) (v := ?_) (a' := ?_) (observer_Tick.L 3) rfl rfl (by kernel_rfl) (fun _ _ _ h => h) (Or.inl ⟨by rfl, ?_⟩) ?_ ?_; rotate_left; (intro w'; go_simp; with_reducible rfl); rotate_left)
          · simp only [Act.put, List.setIfInBounds_toArray, List.set_cons_zero, List.set_cons_succ, i64_w, i32_w]; rfl
          (refine take_ (i := 3) (N := (some 34)) (v := ?_) (a' := ?_) (observer_Tick.L 4) rfl rfl (by kernel_rfl) (fun _ _ _ h => h) (Or.inl ⟨by rfl, ?_⟩) hHeld ?_ ?_; rotate_left; (rintro w' ⟨S1_, c0_, c1_, c2_, c3_, c4_, c5_⟩; have hf_ := (blk_cell S1_ 31).trans rfl; go_simp; with_reducible rfl); rotate_left)
          · simp only [Act.put, List.setIfInBounds_toArray, List.set_cons_zero, List.set_cons_succ, i64_w, i32_w]; rfl
          (refine pure_ (i := 4) (N := (some 35)) (v := ?_) (a' := ?_) (observer_Tick.L 5) rfl rfl (by kernel_rfl) (fun _ _ _ h => h) (Or.inl ⟨by rfl, ?_⟩) ?_ ?_; rotate_left; (intro w'; go_simp; with_reducible rfl); rotate_left)
          · simp only [Act.put, List.setIfInBounds_toArray, List.set_cons_zero, List.set_cons_succ, i64_w, i32_w]; rfl
          (refine pure_ (i := 5) (N := (some 36)) (v := ?_) (a' := ?_) (observer_Tick.L 6) rfl rfl (by kernel_rfl) (fun _ _ _ h => h) (Or.inl ⟨by rfl, ?_⟩) ?_ ?_; rotate_left; (intro w'; go_simp; with_reducible rfl); rotate_left)
          · simp only [Act.put, List.setIfInBounds_toArray, List.set_cons_zero, List.set_cons_succ, i64_w, i32_w]; rfl
          (refine pure_ (i := 6) (N := (some 37)) (v := ?_) (a' := ?_) (observer_Tick.L 7) rfl rfl (by kernel_rfl) (fun _ _ _ h => h) (Or.inl ⟨by rfl, ?_⟩) ?_ ?_; rotate_left; (intro w'; go_simp; with_reducible rfl); rotate_left)
          · simp only [Act.put, List.setIfInBounds_toArray, List.set_cons_zero, List.set_cons_succ, i64_w, i32_w]; rfl
          (refine pure_ (i := 7) (N := (some 38)) (v := ?_) (a' := ?_) (observer_Tick.L 8) rfl rfl (by kernel_rfl) (fun _ _ _ h => h) (Or.inl ⟨by rfl, ?_⟩) ?_ ?_; rotate_left; (intro w'; go_simp; with_reducible rfl); rotate_left)
          · simp only [Act.put, List.setIfInBounds_toArray, List.set_cons_zero, List.set_cons_succ, i64_w, i32_w]; rfl
          (refine take_ (i := 8) (N := (some 39)) (v := ?_) (a' := ?_) (observer_Tick.L 9) rfl rfl (by kernel_rfl) (fun _ _ _ h => h) (Or.inl ⟨by rfl, ?_⟩) hHeld ?_ ?_; rotate_left; (rintro w' ⟨S1_, c0_, c1_, c2_, c3_, c4_, c5_⟩; have hf_ := (blk_cell S1_ 31).trans rfl; go_simp; with_reducible rfl); rotate_left)
          · simp only [Act.put, List.setIfInBounds_toArray, List.set_cons_zero, List.set_cons_succ, i64_w, i32_w]; rfl
          (refine pure_ (i := 9) (N := (some 40)) (v := ?_) (a' := ?_) (observer_Tick.L 10) rfl rfl (by kernel_rfl) (fun _ _ _ h => h) (Or.inl ⟨by rfl, ?_⟩) ?_ ?_; rotate_left; (intro w'; go_simp; with_reducible rfl); rotate_left)
          · simp only [Act.put, List.setIfInBounds_toArray, List.set_cons_zero, List.set_cons_succ, i64_w, i32_w]; rfl
          (refine pure_ (i := 10) (N := (some 41)) (v := ?_) (a' := ?_) (observer_Tick.L 11) rfl rfl (by kernel_rfl) (fun _ _ _ h => h) (Or.inl ⟨by rfl, ?_⟩) ?_ ?_; rotate_left; (intro w'; go_simp; with_reducible rfl); rotate_left)
          · simp only [Act.put, List.setIfInBounds_toArray, List.set_cons_zero, List.set_cons_succ, i64_w, i32_w]; rfl
          (refine take_ (i := 11) (N := (some 42)) (v := ?_) (a' := ?_) (observer_Tick.L 12) rfl rfl (by kernel_rfl) (fun _ _ _ h => h) (Or.inl ⟨by rfl, ?_⟩) hHeld ?_ ?_; rotate_left; (rintro w' ⟨S1_, c0_, c1_, c2_, c3_, c4_, c5_⟩; go_simp; with_reducible rfl); rotate_left)
          · simp only [Act.put, List.setIfInBounds_toArray, List.set_cons_zero, List.set_cons_succ, i64_w, i32_w]; rfl
          (refine pure_ (i := 12) (N := (some 43)) (v := ?_) (a' := ?_) (observer_Tick.L 13) rfl rfl (by kernel_rfl) (fun _ _ _ h => h) (Or.inl ⟨by rfl, ?_⟩) ?_ ?_; rotate_left; (intro w'; go_simp; with_reducible rfl); rotate_left)
          · simp only [Act.put, List.setIfInBounds_toArray, List.set_cons_zero, List.set_cons_succ, i64_w, i32_w]; rfl
          (refine pure_ (i := 13) (N := (some 44)) (v := ?_) (a' := ?_) (observer_Tick.L 14) rfl rfl (by kernel_rfl) (fun _ _ _ h => h) (Or.inl ⟨by rfl, ?_⟩) ?_ ?_; rotate_left; (intro w'; go_simp; with_reducible rfl); rotate_left)
          · simp only [Act.put, List.setIfInBounds_toArray, List.set_cons_zero, List.set_cons_succ, i64_w, i32_w]; rfl
          (refine pure_ (i := 14) (N := (some 45)) (v := ?_) (a' := ?_) (observer_Tick.L 15) rfl rfl (by kernel_rfl) (fun _ _ _ h => h) (Or.inl ⟨by rfl, ?_⟩) ?_ ?_; rotate_left; (intro w'; go_simp; with_reducible rfl); rotate_left)
          · simp only [Act.put, List.setIfInBounds_toArray, List.set_cons_zero, List.set_cons_succ, i64_w, i32_w]; rfl
          (refine take_ (i := 15) (N := (some 46)) (v := ?_) (a' := ?_) (observer_Tick.L 16) rfl rfl (by kernel_rfl) (fun _ _ _ h => h) (Or.inl ⟨by rfl, ?_⟩) hHeld ?_ ?_; rotate_left; (rintro w' ⟨S1_, c0_, c1_, c2_, c3_, c4_, c5_⟩; refine (obs.run_load_part 24 _ (by rfl) g (by rfl) 57 #[.int .i64 a0_0, .int .i64 a0_1, .int .i64 a0_2, .int .i64 a0_3, .int .i64 a0_4, .slice A0_5 l0_5.length c0_5, .int .i64 a0_6, .int .i64 a0_7, .int .i64 a0_8, .int .i64 a0_9, .int .i64 a0_10, .int .i64 a0_11, .int .i64 a0_12, .int .i64 a0_13, .int .i64 a0_14, .int .i64 a0_15, .int .i64 a0_16, .int .i64 a0_17, .int .i64 a0_18, .int .i64 a0_19, .int .i64 a0_20, .int .i64 a0_21, .int .i64 a0_22, .int .i64 a0_23, .int .i64 a0_24, .int .i64 a0_25, .int .i64 a0_26, .int .i64 a0_27, .int .i64 a0_28, .int .i64 a0_29] #[.int .i64 ix, .slice (some ⟨gp, 0, none⟩) n c, .int .i64 nx] (0, 0) _ Try.underlying24 rfl (by as_aux_lemma => kernel_rfl) S1_).trans ?_; with_reducible rfl); rotate_left)
          · simp only [Act.put, List.setIfInBounds_toArray, List.set_cons_zero, List.set_cons_succ, i64_w, i32_w]; rfl
          (refine pure_ (i := 16) (N := (some 47)) (v := ?_) (a' := ?_) (observer_Tick.L 17) rfl rfl (by kernel_rfl) (fun _ _ _ h => h) (Or.inl ⟨by rfl, ?_⟩) ?_ ?_; rotate_left; (intro w'; go_simp; with_reducible rfl); rotate_left)
          · simp only [Act.put, List.setIfInBounds_toArray, List.set_cons_zero, List.set_cons_succ, i64_w, i32_w]; rfl
          (refine pure_ (i := 17) (N := (some 48)) (v := ?_) (a' := ?_) (observer_Tick.L 18) rfl rfl (by kernel_rfl) (fun _ _ _ h => h) (Or.inl ⟨by rfl, ?_⟩) ?_ ?_; rotate_left; (intro w'; go_simp; with_reducible rfl); rotate_left)
          · simp only [Act.put, List.setIfInBounds_toArray, List.set_cons_zero, List.set_cons_succ, i64_w, i32_w]; rfl
          (refine one_ (i := 18) (N := (some 49)) (observer_Tick.L 19) rfl rfl (by kernel_rfl) (by decide) (fun K hK => ?_); refine goes_ Try.func29 (by kernel_rfl) rfl #[.agg #[.int .i64 p.f0, .bool p.f1, .int .i64 p.f2, .int .i64 p.f3, .bool p.f4.f0, .int .i64 p.f4.f1], .agg #[.int .i64 a0_0, .int .i64 a0_1, .int .i64 a0_2, .int .i64 a0_3, .int .i64 a0_4, .slice A0_5 l0_5.length c0_5, .int .i64 a0_6, .int .i64 a0_7, .int .i64 a0_8, .int .i64 a0_9, .int .i64 a0_10, .int .i64 a0_11, .int .i64 a0_12, .int .i64 a0_13, .int .i64 a0_14, .int .i64 a0_15, .int .i64 a0_16, .int .i64 a0_17, .int .i64 a0_18, .int .i64 a0_19, .int .i64 a0_20, .int .i64 a0_21, .int .i64 a0_22, .int .i64 a0_23, .int .i64 a0_24, .int .i64 a0_25, .int .i64 a0_26, .int .i64 a0_27, .int .i64 a0_28, .int .i64 a0_29], .int .i64 now, .int .i64 now] (by rfl) rfl rfl (by (try simp only [List.map_toArray, List.map_cons, List.map_nil]); first | done | rfl) ?_; with_reducible refine (probe_Tick.calls k p.f0 p.f1 p.f2 p.f3 p.f4.f0 p.f4.f1 a0_0 a0_1 a0_2 a0_3 a0_4 _ _ l0_5 a0_6 a0_7 a0_8 a0_9 a0_10 a0_11 a0_12 a0_13 a0_14 a0_15 a0_16 a0_17 a0_18 a0_19 a0_20 a0_21 a0_22 a0_23 a0_24 a0_25 a0_26 a0_27 a0_28 a0_29 now now q.f0 q.f1 q.f2 q.f3 q.f4.f0 q.f4.f1 snd _ (Kd.C_below HR5.out Bw.out) HC5.out HTK.out).mono ?_; rintro e Wc231 ⟨rfl, hb⟩; refine ⟨_, rfl, ?_⟩; have n0_ := Aside0.mk (blk_below Ko.out hb); have n1_ := Aside0.mk (Kd.R_below HP.out hb); have n2_ := Aside0.mk (Kd.R_below HO.out hb); have n3_ := Aside0.mk (observer_Tick.bel Bw.out hb); have n4_ := Aside0.mk (obs.keep_below KB.out hb); clear Ko HP HO Bw KB; have Ko := n0_; have HP := n1_; have HO := n2_; have Bw := n3_; have KB := n4_; clear n0_ n1_ n2_ n3_ n4_; skip; have HX0 := Aside0.mk ((hb.cell (World.block_lt_of_cell? _ _ HX0.out)).trans HX0.out); have HX1 := Aside0.mk ((hb.cell (World.block_lt_of_cell? _ _ HX1.out)).trans HX1.out); have HX2 := Aside0.mk ((hb.cell (World.block_lt_of_cell? _ _ HX2.out)).trans HX2.out); have HX3 := Aside0.mk ((hb.cell (World.block_lt_of_cell? _ _ HX3.out)).trans HX3.out); have HX4 := Aside0.mk ((hb.cell (World.block_lt_of_cell? _ _ HX4.out)).trans HX4.out); have HX5 := Aside0.mk ((hb.cell (World.block_lt_of_cell? _ _ HX5.out)).trans HX5.out); clear hb; refine hK.out _ _ ⟨Ko.out, HX0.out, HX1.out, HX2.out, HX3.out, HX4.out, HX5.out⟩ (fun hHeld => ?_); clear hK K; refine norm_ (a' := ?_) ?_ ?_; rotate_left; (show Act.put _ (some 49) _ = _))
          · simp only [Act.put, List.setIfInBounds_toArray, List.set_cons_zero, List.set_cons_succ, i64_w, i32_w]; rfl
          (refine pure_ (i := 19) (N := (some 30)) (v := ?_) (a' := ?_) (observer_Tick.L 20) rfl rfl (by kernel_rfl) (fun _ _ _ h => h) (Or.inl ⟨by rfl, ?_⟩) ?_ ?_; rotate_left; (intro w'; go_simp; with_reducible rfl); rotate_left)
          · simp only [Act.put, List.setIfInBounds_toArray, List.set_cons_zero, List.set_cons_succ, i64_w, i32_w]; rfl
          (refine pure_ (i := 20) (N := (some 50)) (v := ?_) (a' := ?_) (observer_Tick.L 21) rfl rfl (by kernel_rfl) (fun _ _ _ h => h) (Or.inl ⟨by rfl, ?_⟩) ?_ ?_; rotate_left; (intro w'; go_simp; with_reducible rfl); rotate_left)
          · simp only [Act.put, List.setIfInBounds_toArray, List.set_cons_zero, List.set_cons_succ, i64_w, i32_w]; rfl
          (refine pure_ (i := 21) (N := (some 51)) (v := ?_) (a' := ?_) (observer_Tick.L 22) rfl rfl (by kernel_rfl) (fun _ _ _ h => h) (Or.inl ⟨by rfl, ?_⟩) ?_ ?_; rotate_left; (intro w'; go_simp; with_reducible rfl); rotate_left)
          · simp only [Act.put, List.setIfInBounds_toArray, List.set_cons_zero, List.set_cons_succ, i64_w, i32_w]; rfl
          (refine pure_ (i := 22) (N := (some 52)) (v := ?_) (a' := ?_) (observer_Tick.L 23) rfl rfl (by kernel_rfl) (fun _ _ _ h => h) (Or.inl ⟨by rfl, ?_⟩) ?_ ?_; rotate_left; (intro w'; go_simp; with_reducible rfl); rotate_left)
          · simp only [Act.put, List.setIfInBounds_toArray, List.set_cons_zero, List.set_cons_succ, i64_w, i32_w]; rfl
          (refine last_ (i := 23) (N := none) (observer_Tick.L 24) rfl rfl (by kernel_rfl) (by decide) (fun K hK => ?_); refine obs.store_step k63 (w0 := w0) w0.heap.size (by rfl) rfl 63 (.tmp 52) (.tmp 50) (by rfl) 63 (g := gp) (n := n) (cap := c) (o' := x.toNat * 6) x 0 ps q (.agg #[.int .i64 q.f0, .bool q.f1, .int .i64 q.f2, .int .i64 q.f3, .bool q.f4.f0, .int .i64 q.f4.f1]) [.int .i64 q.f0, .bool q.f1, .int .i64 q.f2, .int .i64 q.f3, .bool q.f4.f0, .int .i64 q.f4.f1] [.int .i64 p.f0, .bool p.f1, .int .i64 p.f2, .int .i64 p.f3, .bool p.f4.f0, .int .i64 p.f4.f1] (fun _ => True) (fun _ => False) (by rfl) (by show x.toNat * 6 = x.toNat * 6 + 0; omega) (by rfl) rfl (by as_aux_lemma => kernel_rfl) (by intro q_ hq_; simp at hq_; rcases hq_ with rfl | rfl | rfl | rfl | rfl | rfl <;> rfl) HP.out hx0 hlt rfl (observer_Tick.old HX0.out HX1.out HX2.out HX3.out HX4.out HX5.out) (by show (6 : Nat) ≤ 6; exact Nat.le_refl 6) (k63_mkM _ _ _ q) (fun _ h_ => h_.elim) Bw.out ?_; intro Ws hr_ hb2 hgr; have n0_ := Aside0.mk (blk_grown Ko.out hgr (Kd.R_ne HP.out Ko.out (by decide))); have n1_ := Aside0.mk hr_; have n2_ := Aside0.mk (obs.near HO.out HLT.out hgr); have n3_ := Aside0.mk hb2; have n4_ := Aside0.mk (obs.keep_row KB.out hgr); clear Ko HP HO Bw KB HX0 HX1 HX2 HX3 HX4 HX5 hr_ hb2 hgr hHeld; have Ko := n0_; have HP := n1_; have HO := n2_; have Bw := n3_; have KB := n4_; clear n0_ n1_ n2_ n3_ n4_; refine hK.out _ _ ?_; clear hK K)
          (refine pure_ (i := 24) (N := (some 8)) (v := ?_) (a' := ?_) (observer_Tick.L 25) rfl rfl (by kernel_rfl) (fun _ _ _ h => h) (Or.inl ⟨by rfl, ?_⟩) ?_ ?_; rotate_left; (intro w'; go_simp; with_reducible rfl); rotate_left)
          · simp only [Act.put, List.setIfInBounds_toArray, List.set_cons_zero, List.set_cons_succ, i64_w, i32_w]; rfl
          refine done_ (by kernel_rfl) ?_
          try go_wp2
          go_meet
          case rel => exact ⟨rfl, Ko, HP, HO, Bw, KB⟩
        case rest =>
          clear Ko HP HO Bw KB HX0 HX1 HX2 HX3 HX4 HX5
          obtain ⟨rfl, Ko, HP, HO, Bw, KB⟩ := hcut
          have hG2 := HG2.out
          have HLN := Aside0.mk (show out.length ≤ 100 by have h_ := HX.out; have h2_ := HCF.out; omega)
          cases snd with
          | false =>
            rw [if_neg (by decide)] at hG2
            have HG3 := Aside0.mk hG2
            clear hG2 HG2
            go_wp2
            go_roundg gk
            case measure => omega
            case rel => exact ⟨x + 1, _, out, by first | rfl | go_num, ⟨by have h_ := HX.out; omega⟩, HG3, Ko, HP, HO, Bw, KB⟩
          | true =>
            rw [if_pos rfl] at hG2
            have HG3 := Aside0.mk hG2
            clear hG2 HG2
            go_wp2_with (first | ((with_reducible refine gate_dst (N := 59) rfl ?_); refine obs.load_part rfl 24 (.tmp 58) rfl g rfl 57 #[.int .i64 a0_0, .int .i64 a0_1, .int .i64 a0_2, .int .i64 a0_3, .int .i64 a0_4, .slice A0_5 l0_5.length c0_5, .int .i64 a0_6, .int .i64 a0_7, .int .i64 a0_8, .int .i64 a0_9, .int .i64 a0_10, .int .i64 a0_11, .int .i64 a0_12, .int .i64 a0_13, .int .i64 a0_14, .int .i64 a0_15, .int .i64 a0_16, .int .i64 a0_17, .int .i64 a0_18, .int .i64 a0_19, .int .i64 a0_20, .int .i64 a0_21, .int .i64 a0_22, .int .i64 a0_23, .int .i64 a0_24, .int .i64 a0_25, .int .i64 a0_26, .int .i64 a0_27, .int .i64 a0_28, .int .i64 a0_29] #[.int .i64 ix, .slice (some ⟨gp, 0, none⟩) n c, .int .i64 nx] (0, 0) _ Ko.out Try.underlying24 rfl (by as_aux_lemma => kernel_rfl) ?_) | ((with_reducible refine gate_callee (f := 15) rfl ?_); refine goesL_ (some 61) rfl rfl Try.func15 (by kernel_rfl) rfl #[.agg #[.int .i64 a0_0, .int .i64 a0_1, .int .i64 a0_2, .int .i64 a0_3, .int .i64 a0_4, .slice A0_5 l0_5.length c0_5, .int .i64 a0_6, .int .i64 a0_7, .int .i64 a0_8, .int .i64 a0_9, .int .i64 a0_10, .int .i64 a0_11, .int .i64 a0_12, .int .i64 a0_13, .int .i64 a0_14, .int .i64 a0_15, .int .i64 a0_16, .int .i64 a0_17, .int .i64 a0_18, .int .i64 a0_19, .int .i64 a0_20, .int .i64 a0_21, .int .i64 a0_22, .int .i64 a0_23, .int .i64 a0_24, .int .i64 a0_25, .int .i64 a0_26, .int .i64 a0_27, .int .i64 a0_28, .int .i64 a0_29], .int .i64 x] rfl (by (try simp only [List.map_toArray, List.map_cons, List.map_nil]); first | done | rfl) ?_; (with_reducible refine (api_TargetNode.calls a0_0 a0_1 a0_2 a0_3 a0_4 _ _ l0_5 a0_6 a0_7 a0_8 a0_9 a0_10 a0_11 a0_12 a0_13 a0_14 a0_15 a0_16 a0_17 a0_18 a0_19 a0_20 a0_21 a0_22 a0_23 a0_24 a0_25 a0_26 a0_27 a0_28 a0_29 x _ _ (Kd.C_below HR5.out Bw.out) HC5.out (obs.T_f a0_0 a0_1 a0_2 a0_3 a0_4 l0_5 a0_6 a0_7 a0_8 a0_9 a0_10 a0_11 a0_12 a0_13 a0_14 a0_15 a0_16 a0_17 a0_18 a0_19 a0_20 a0_21 a0_22 a0_23 a0_24 a0_25 a0_26 a0_27 a0_28 a0_29 x)).mono ?_); rintro e Wc400 ⟨rfl, hb⟩; refine ⟨_, rfl, ?_⟩; have n0_ := Aside0.mk (blk_below Ko.out hb); have n1_ := Aside0.mk (Kd.R_below HP.out hb); have n2_ := Aside0.mk (Kd.R_below HO.out hb); have n3_ := Aside0.mk (observer_Tick.bel Bw.out hb); have n4_ := Aside0.mk (obs.keep_below KB.out hb); clear Ko HP HO Bw KB; have Ko := n0_; have HP := n1_; have HO := n2_; have Bw := n3_; have KB := n4_; clear n0_ n1_ n2_ n3_ n4_; skip; clear hb) | ((with_reducible refine gate_dst (N := 63) rfl ?_); refine locumlaw13_Plain.build rfl 37 #[(0, .const (.int .i64 1)), (1, .tmp 55), (2, .tmp 61), (6, .tmp 62)] #[.int .i64 1, .int .i64 (obs.O a0_0 a0_1 a0_2 a0_3 a0_4 l0_5 a0_6 a0_7 a0_8 a0_9 a0_10 a0_11 a0_12 a0_13 a0_14 a0_15 a0_16 a0_17 a0_18 a0_19 a0_20 a0_21 a0_22 a0_23 a0_24 a0_25 a0_26 a0_27 a0_28 a0_29 ix), .int .i64 (obs.T a0_0 a0_1 a0_2 a0_3 a0_4 l0_5 a0_6 a0_7 a0_8 a0_9 a0_10 a0_11 a0_12 a0_13 a0_14 a0_15 a0_16 a0_17 a0_18 a0_19 a0_20 a0_21 a0_22 a0_23 a0_24 a0_25 a0_26 a0_27 a0_28 a0_29 x), .int .i64 0, .int .i64 0, .int .i64 0, .int .i64 now, .int .i64 0, .int .u64 0, .int .i64 0, .bool false, .int .i64 0, .int .i64 0, .int .i64 0, .int .i64 0, .int .i64 0, .int .i64 0, .int .i64 0, .int .i64 0, .int .u64 0, .int .u64 0, .slice none 0 0, .slice none 0 0, .slice none 0 0, .slice none 0 0, .slice none 0 0] rfl (by as_aux_lemma => kernel_rfl) ?_) | ((with_reducible refine gate_builtin (b := .append) (xs := #[.tmp 54, .tmp 64]) rfl ?_); at_builtin; refine Kd.R_append k37 (w0 := w0) w0.heap.size rfl (.tmp 54) (.tmp 64) 26 37 (.agg #[.int .i64 0, .int .i64 0, .int .i64 0, .int .i64 0, .int .i64 0, .int .i64 0, .int .i64 0, .int .i64 0, .int .u64 0, .int .i64 0, .bool false, .int .i64 0, .int .i64 0, .int .i64 0, .int .i64 0, .int .i64 0, .int .i64 0, .int .i64 0, .int .i64 0, .int .u64 0, .int .u64 0, .slice none 0 0, .slice none 0 0, .slice none 0 0, .slice none 0 0, .slice none 0 0]) 288 rfl Try.underlying26 observer_Tick.info37 rfl (by decide) (by decide) u5 out (obs.probe (obs.O a0_0 a0_1 a0_2 a0_3 a0_4 l0_5 a0_6 a0_7 a0_8 a0_9 a0_10 a0_11 a0_12 a0_13 a0_14 a0_15 a0_16 a0_17 a0_18 a0_19 a0_20 a0_21 a0_22 a0_23 a0_24 a0_25 a0_26 a0_27 a0_28 a0_29 ix) (obs.T a0_0 a0_1 a0_2 a0_3 a0_4 l0_5 a0_6 a0_7 a0_8 a0_9 a0_10 a0_11 a0_12 a0_13 a0_14 a0_15 a0_16 a0_17 a0_18 a0_19 a0_20 a0_21 a0_22 a0_23 a0_24 a0_25 a0_26 a0_27 a0_28 a0_29 x) now) [.int .i64 1, .int .i64 (obs.O a0_0 a0_1 a0_2 a0_3 a0_4 l0_5 a0_6 a0_7 a0_8 a0_9 a0_10 a0_11 a0_12 a0_13 a0_14 a0_15 a0_16 a0_17 a0_18 a0_19 a0_20 a0_21 a0_22 a0_23 a0_24 a0_25 a0_26 a0_27 a0_28 a0_29 ix), .int .i64 (obs.T a0_0 a0_1 a0_2 a0_3 a0_4 l0_5 a0_6 a0_7 a0_8 a0_9 a0_10 a0_11 a0_12 a0_13 a0_14 a0_15 a0_16 a0_17 a0_18 a0_19 a0_20 a0_21 a0_22 a0_23 a0_24 a0_25 a0_26 a0_27 a0_28 a0_29 x), .int .i64 0, .int .i64 0, .int .i64 0, .int .i64 now, .int .i64 0, .int .u64 0, .int .i64 0, .bool false, .int .i64 0, .int .i64 0, .int .i64 0, .int .i64 0, .int .i64 0, .int .i64 0, .int .i64 0, .int .i64 0, .int .u64 0, .int .u64 0, .slice none 0 0, .slice none 0 0, .slice none 0 0, .slice none 0 0, .slice none 0 0] (fun k_ => w.heap.size ≤ k_) (fun _ => False) rfl rfl ?aP (fun _ hk => hk.elim) ?aF ?aO ?aB ?aS ?aL ?_; (case aP => exact k37_mkM _ _ _ (obs.probe (obs.O a0_0 a0_1 a0_2 a0_3 a0_4 l0_5 a0_6 a0_7 a0_8 a0_9 a0_10 a0_11 a0_12 a0_13 a0_14 a0_15 a0_16 a0_17 a0_18 a0_19 a0_20 a0_21 a0_22 a0_23 a0_24 a0_25 a0_26 a0_27 a0_28 a0_29 ix) (obs.T a0_0 a0_1 a0_2 a0_3 a0_4 l0_5 a0_6 a0_7 a0_8 a0_9 a0_10 a0_11 a0_12 a0_13 a0_14 a0_15 a0_16 a0_17 a0_18 a0_19 a0_20 a0_21 a0_22 a0_23 a0_24 a0_25 a0_26 a0_27 a0_28 a0_29 x) now) (Kd.R_nil _ _ _ _ _) (Kd.R_nil _ _ _ _ _) (Kd.R_nil _ _ _ _ _) (Kd.R_nil _ _ _ _ _) (Kd.R_nil _ _ _ _ _)); (case aB => exact Bw.out); (case aF => exact (fun k_ h_ => Nat.le_trans KB.out.1 h_)); (case aO => exact HO.out); (case aS => exact Bw.out.size); (case aL => have h_ := HLN.out; omega); intro v1 W1 ho hb2 hg_ hat; have n0_ := Aside0.mk (blk_grown Ko.out hg_ (Kd.R_ne HO.out Ko.out (by decide))); have n1_ := Aside0.mk (obs.far HP.out HO.out hg_); have n2_ := Aside0.mk ho; have n3_ := Aside0.mk hb2; have n4_ := Aside0.mk (obs.keep_app KB.out HO.out.1 hg_); clear Ko HP HO Bw KB ho hb2 hg_ hat; have Ko := n0_; have HP := n1_; have HO := n2_; have Bw := n3_; have KB := n4_; clear n0_ n1_ n2_ n3_ n4_))
            go_roundg gk
            case measure => omega
            case rel => exact ⟨x + 1, _, _, by first | rfl | go_num, ⟨by rw [List.length_append, List.length_singleton]; have h_ := HX.out; omega⟩, HG3, Ko, HP, HO, Bw, KB⟩
end Go.Proofs.Ytaofdmibppecnaa.B
