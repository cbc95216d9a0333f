/- Of ticks at rising times votes come at least Every apart, to all deciders alike, and say what it holds to be up: for every config, all gaps, and whatever messages come between. -/
import Derived.Test.YtaofdmibppecnaaBx10
import Derived.OpenShut
import Derived.Test.YtaofdmibppecnaaFacts
namespace Go.Proofs.Ytaofdmibppecnaa.Pure
open Go.RowKit Go.Proofs.Ytaofdmibppecnaa.B Go.Proofs.YtaofdmibppecnaaW.PrintWords Go.Proofs.YtaofdmibppecnaaW.PrintLast Go.Proofs.YtaofdmibppecnaaW.PrintMore

theorem in_skip (c0 c1 c2 c3 c4 : Int) (c5 : List Int) (c6 c7 c8 c9 c10 c11 c12 c13 c14 c15 c16 c17 c18 c19 c20 c21 c22 c23 c24 c25 c26 c27 c28 c29 : Int) (up now : Int) (post : List S37) (m : Nat) (n : Int) : ∀ (suf pre : List S37), (∀ q ∈ suf, q.f0 ≠ 3) → locumlaw23_ObserverVotes.in c0 c1 c2 c3 c4 c5 c6 c7 c8 c9 c10 c11 c12 c13 c14 c15 c16 c17 c18 c19 c20 c21 c22 c23 c24 c25 c26 c27 c28 c29 up now (pre ++ (suf ++ post)) (suf.length + m) (pre.length : Int) n = locumlaw23_ObserverVotes.in c0 c1 c2 c3 c4 c5 c6 c7 c8 c9 c10 c11 c12 c13 c14 c15 c16 c17 c18 c19 c20 c21 c22 c23 c24 c25 c26 c27 c28 c29 up now (pre ++ (suf ++ post)) m ((pre.length + suf.length : Nat) : Int) n
  | [], pre, _ => by simp
  | q :: suf, pre, h => by
    have hm : (q :: suf).length + m = (suf.length + m) + 1 := by simp; omega
    rw [hm]
    simp only [locumlaw23_ObserverVotes.in]
    have e : pre ++ (q :: suf ++ post) = pre ++ q :: (suf ++ post) := rfl
    rw [e, rd37_at, if_neg (h q (by simp))]
    have h2 := in_skip c0 c1 c2 c3 c4 c5 c6 c7 c8 c9 c10 c11 c12 c13 c14 c15 c16 c17 c18 c19 c20 c21 c22 c23 c24 c25 c26 c27 c28 c29 up now post m n suf (pre ++ [q]) (fun x hx => h x (by simp [hx]))
    have e2 : (pre ++ [q]) ++ (suf ++ post) = pre ++ q :: (suf ++ post) := by simp
    have e3 : ((pre ++ [q]).length : Int) = (pre.length : Int) + 1 := by simp
    have e4 : (pre ++ [q]).length + suf.length = pre.length + (q :: suf).length := by simp; omega
    rw [e2, e3, e4] at h2
    exact h2
theorem in_votes (c0 c1 c2 c3 c4 : Int) (c5 : List Int) (c6 c7 c8 c9 c10 c11 c12 c13 c14 c15 c16 c17 c18 c19 c20 c21 c22 c23 c24 c25 c26 c27 c28 c29 : Int) (up now : Int) : ∀ (j : Nat) (x : Int) (pre : List S37), locumlaw23_ObserverVotes.in c0 c1 c2 c3 c4 c5 c6 c7 c8 c9 c10 c11 c12 c13 c14 c15 c16 c17 c18 c19 c20 c21 c22 c23 c24 c25 c26 c27 c28 c29 up now (pre ++ observer_Tick.votes c0 c1 c2 c3 c4 c5 c6 c7 c8 c9 c10 c11 c12 c13 c14 c15 c16 c17 c18 c19 c20 c21 c22 c23 c24 c25 c26 c27 c28 c29 0 now up j x) j (pre.length : Int) x = some (x + j)
  | 0, x, pre => by simp [locumlaw23_ObserverVotes.in]
  | j + 1, x, pre => by
    rw [show observer_Tick.votes c0 c1 c2 c3 c4 c5 c6 c7 c8 c9 c10 c11 c12 c13 c14 c15 c16 c17 c18 c19 c20 c21 c22 c23 c24 c25 c26 c27 c28 c29 0 now up (j + 1) x = obs.vote (obs.O c0 c1 c2 c3 c4 c5 c6 c7 c8 c9 c10 c11 c12 c13 c14 c15 c16 c17 c18 c19 c20 c21 c22 c23 c24 c25 c26 c27 c28 c29 0) (obs.D c0 c1 c2 c3 c4 c5 c6 c7 c8 c9 c10 c11 c12 c13 c14 c15 c16 c17 c18 c19 c20 c21 c22 c23 c24 c25 c26 c27 c28 c29 x) now up :: observer_Tick.votes c0 c1 c2 c3 c4 c5 c6 c7 c8 c9 c10 c11 c12 c13 c14 c15 c16 c17 c18 c19 c20 c21 c22 c23 c24 c25 c26 c27 c28 c29 0 now up j (x + 1) from rfl]
    simp only [locumlaw23_ObserverVotes.in]
    rw [rd37_at, if_pos (by rfl), if_pos ⟨rfl, rfl, rfl, rfl⟩]
    have h2 := in_votes c0 c1 c2 c3 c4 c5 c6 c7 c8 c9 c10 c11 c12 c13 c14 c15 c16 c17 c18 c19 c20 c21 c22 c23 c24 c25 c26 c27 c28 c29 up now j (x + 1) (pre ++ [obs.vote (obs.O c0 c1 c2 c3 c4 c5 c6 c7 c8 c9 c10 c11 c12 c13 c14 c15 c16 c17 c18 c19 c20 c21 c22 c23 c24 c25 c26 c27 c28 c29 0) (obs.D c0 c1 c2 c3 c4 c5 c6 c7 c8 c9 c10 c11 c12 c13 c14 c15 c16 c17 c18 c19 c20 c21 c22 c23 c24 c25 c26 c27 c28 c29 x) now up])
    have e3 : ((pre ++ [obs.vote (obs.O c0 c1 c2 c3 c4 c5 c6 c7 c8 c9 c10 c11 c12 c13 c14 c15 c16 c17 c18 c19 c20 c21 c22 c23 c24 c25 c26 c27 c28 c29 0) (obs.D c0 c1 c2 c3 c4 c5 c6 c7 c8 c9 c10 c11 c12 c13 c14 c15 c16 c17 c18 c19 c20 c21 c22 c23 c24 c25 c26 c27 c28 c29 x) now up]).length : Int) = (pre.length : Int) + 1 := by simp
    rw [e3, List.append_assoc, List.singleton_append] at h2
    rw [h2]
    congr 1
    omega
theorem votes_len (c0 c1 c2 c3 c4 : Int) (c5 : List Int) (c6 c7 c8 c9 c10 c11 c12 c13 c14 c15 c16 c17 c18 c19 c20 c21 c22 c23 c24 c25 c26 c27 c28 c29 : Int) (up now : Int) : ∀ (j : Nat) (x : Int), (observer_Tick.votes c0 c1 c2 c3 c4 c5 c6 c7 c8 c9 c10 c11 c12 c13 c14 c15 c16 c17 c18 c19 c20 c21 c22 c23 c24 c25 c26 c27 c28 c29 0 now up j x).length = j
  | 0, x => rfl
  | j + 1, x => by simp only [observer_Tick.votes, List.length_cons]; rw [votes_len]
/-- What a tick says, read: how many votes. -/
theorem in_tick (c0 c1 c2 c3 c4 : Int) (c5 : List Int) (c6 c7 c8 c9 c10 c11 c12 c13 c14 c15 c16 c17 c18 c19 c20 c21 c22 c23 c24 c25 c26 c27 c28 c29 : Int) (now : Int) (ps : List S63) (vote : Bool) : locumlaw23_ObserverVotes.in c0 c1 c2 c3 c4 c5 c6 c7 c8 c9 c10 c11 c12 c13 c14 c15 c16 c17 c18 c19 c20 c21 c22 c23 c24 c25 c26 c27 c28 c29 (observer_Up.v (ps.map (fun p => tk c6 c7 c8 c9 p now))) now (asks c0 c1 c2 c3 c4 c5 c6 c7 c8 c9 c10 c11 c12 c13 c14 c15 c16 c17 c18 c19 c20 c21 c22 c23 c24 c25 c26 c27 c28 c29 0 now 0 ps ++ if vote = true then votesV c0 c1 c2 c3 c4 c5 c6 c7 c8 c9 c10 c11 c12 c13 c14 c15 c16 c17 c18 c19 c20 c21 c22 c23 c24 c25 c26 c27 c28 c29 0 now ps else []) (asks c0 c1 c2 c3 c4 c5 c6 c7 c8 c9 c10 c11 c12 c13 c14 c15 c16 c17 c18 c19 c20 c21 c22 c23 c24 c25 c26 c27 c28 c29 0 now 0 ps ++ if vote = true then votesV c0 c1 c2 c3 c4 c5 c6 c7 c8 c9 c10 c11 c12 c13 c14 c15 c16 c17 c18 c19 c20 c21 c22 c23 c24 c25 c26 c27 c28 c29 0 now ps else []).length 0 0 = some (if vote = true then (c1.toNat : Int) else 0) := by
  have hk : ∀ q ∈ asks c0 c1 c2 c3 c4 c5 c6 c7 c8 c9 c10 c11 c12 c13 c14 c15 c16 c17 c18 c19 c20 c21 c22 c23 c24 c25 c26 c27 c28 c29 0 now 0 ps, q.f0 ≠ 3 := fun q hq => by rw [asks_kind c0 c1 c2 c3 c4 c5 c6 c7 c8 c9 c10 c11 c12 c13 c14 c15 c16 c17 c18 c19 c20 c21 c22 c23 c24 c25 c26 c27 c28 c29 0 now ps 0 q hq]; decide
  rw [List.length_append]
  have h := in_skip c0 c1 c2 c3 c4 c5 c6 c7 c8 c9 c10 c11 c12 c13 c14 c15 c16 c17 c18 c19 c20 c21 c22 c23 c24 c25 c26 c27 c28 c29 (observer_Up.v (ps.map (fun p => tk c6 c7 c8 c9 p now))) now (if vote = true then votesV c0 c1 c2 c3 c4 c5 c6 c7 c8 c9 c10 c11 c12 c13 c14 c15 c16 c17 c18 c19 c20 c21 c22 c23 c24 c25 c26 c27 c28 c29 0 now ps else []) (if vote = true then votesV c0 c1 c2 c3 c4 c5 c6 c7 c8 c9 c10 c11 c12 c13 c14 c15 c16 c17 c18 c19 c20 c21 c22 c23 c24 c25 c26 c27 c28 c29 0 now ps else []).length 0 (asks c0 c1 c2 c3 c4 c5 c6 c7 c8 c9 c10 c11 c12 c13 c14 c15 c16 c17 c18 c19 c20 c21 c22 c23 c24 c25 c26 c27 c28 c29 0 now 0 ps) [] hk
  simp only [List.nil_append, List.length_nil, Nat.zero_add, Int.natCast_zero] at h
  rw [h]
  cases vote with
  | false => simp [locumlaw23_ObserverVotes.in]
  | true =>
    simp only [if_true]
    unfold votesV
    have h2 := in_votes c0 c1 c2 c3 c4 c5 c6 c7 c8 c9 c10 c11 c12 c13 c14 c15 c16 c17 c18 c19 c20 c21 c22 c23 c24 c25 c26 c27 c28 c29 (observer_Up.v (ps.map (fun p => tk c6 c7 c8 c9 p now))) now c1.toNat 0 (asks c0 c1 c2 c3 c4 c5 c6 c7 c8 c9 c10 c11 c12 c13 c14 c15 c16 c17 c18 c19 c20 c21 c22 c23 c24 c25 c26 c27 c28 c29 0 now 0 ps)
    rw [votes_len, h2]
    simp
theorem bad_none (c0 c1 c2 c3 c4 : Int) (c5 : List Int) (c6 c7 c8 c9 c10 c11 c12 c13 c14 c15 c16 c17 c18 c19 c20 c21 c22 c23 c24 c25 c26 c27 c28 c29 : Int) (now last : Int) (h1 : 1 ≤ c1) (vote : Bool) (hf : vote = false → 0 ≤ last) (ht : vote = true → 0 ≤ last → c6 ≤ wrap64 (now - last)) : locumlaw23_ObserverVotes.bad c0 c1 c2 c3 c4 c5 c6 c7 c8 c9 c10 c11 c12 c13 c14 c15 c16 c17 c18 c19 c20 c21 c22 c23 c24 c25 c26 c27 c28 c29 now last (if vote = true then (c1.toNat : Int) else 0) = false := by
  unfold locumlaw23_ObserverVotes.bad
  cases vote with
  | false =>
    have := hf rfl
    simp
    omega
  | true =>
    have := ht rfl
    have e : (c1.toNat : Int) = c1 := by omega
    simp only [if_true, e]
    simp
    omega
theorem votes_go (c0 c1 c2 c3 c4 : Int) (c5 : List Int) (c6 c7 c8 c9 c10 c11 c12 c13 c14 c15 c16 c17 c18 c19 c20 c21 c22 c23 c24 c25 c26 c27 c28 c29 : Int) (h1 : 1 ≤ c1 ∧ c1 ≤ 4) (h2 : 1 ≤ c2 ∧ c2 ≤ 16) (h6 : 1 ≤ c6 ∧ c6 ≤ 1048576) (l1 : List Int) (l2 : List S37) (hl : l1.length ≤ 1000) (hb : ∀ y ∈ l1, 0 ≤ y ∧ y < 256) : ∀ (m : Nat) (x : Nat) (now last : Int) (ps : List S63) (nx : Int), x + m = l1.length → 0 ≤ now → now ≤ 256 * x → ((last = -1 ∧ nx = 0) ∨ (0 ≤ last ∧ last ≤ now ∧ nx = last + c6)) → c2.toNat = ps.length → locumlaw23_ObserverVotes.go 21 c0 c1 c2 c3 c4 c5 c6 c7 c8 c9 c10 c11 c12 c13 c14 c15 c16 c17 c18 c19 c20 c21 c22 c23 c24 c25 c26 c27 c28 c29 l1 l2 m (x : Int) now last ps nx = some ()
  | 0, x, now, last, ps, nx, _, _, _, _, _ => rfl
  | m + 1, x, now, last, ps, nx, hx, h0, hn, hs, hp => by
    have hxl : x < l1.length := by omega
    have hr : rd l1 (x : Int) = l1[x] := rd_is l1 x hxl
    have hb2 := hb l1[x] (List.getElem_mem hxl)
    have e1 : wrap64 (rd l1 (x : Int)) = l1[x] := by rw [hr]; exact wrap_id _ (by omega) (by omega)
    have e2 : wrap64 (now + wrap64 (rd l1 (x : Int))) = now + l1[x] := by rw [e1]; exact wrap_id _ (by omega) (by omega)
    simp only [locumlaw23_ObserverVotes.go]
    rw [e2]
    obtain ⟨now2, hnow⟩ : ∃ y, now + l1[x] = y := ⟨_, rfl⟩
    rw [hnow]
    have hh : ∃ ps1, locumlaw23_ObserverVotes.hand 21 c0 c1 c2 c3 c4 c5 c6 c7 c8 c9 c10 c11 c12 c13 c14 c15 c16 c17 c18 c19 c20 c21 c22 c23 c24 c25 c26 c27 c28 c29 l2 (x : Int) now2 ps = some ps1 ∧ ps1.length = ps.length := by
      unfold locumlaw23_ObserverVotes.hand
      split
      · obtain ⟨r, _, hv⟩ := hand_val c0 c1 c2 c3 c4 c5 c6 c7 c8 c9 c10 c11 c12 c13 c14 c15 c16 c17 c18 c19 c20 c21 c22 c23 c24 c25 c26 c27 c28 c29 (rd_T37 l2 (x : Int))
        exact ⟨_, hv ps now2 21 (by decide), handV_len c0 c1 c2 c3 c4 c5 c6 c7 c8 c9 c10 c11 c12 c13 c14 c15 c16 c17 c18 c19 c20 c21 c22 c23 c24 c25 c26 c27 c28 c29 _ _ _ _⟩
      · exact ⟨ps, rfl, rfl⟩
    obtain ⟨ps1, hh, hlen⟩ := hh
    rw [hh, Option.bind_some, tick_val c0 c1 c2 c3 c4 c5 c6 c7 c8 c9 c10 c11 c12 c13 c14 c15 c16 c17 c18 c19 c20 c21 c22 c23 c24 c25 c26 c27 c28 c29 0 ps1 nx now2 21 (by decide) (by omega) (by omega), Option.bind_some]
    obtain ⟨vote, hv⟩ : ∃ b : Bool, b = !decide (now2 < nx) := ⟨_, rfl⟩
    have ev : (if now2 < nx then ([] : List S37) else votesV c0 c1 c2 c3 c4 c5 c6 c7 c8 c9 c10 c11 c12 c13 c14 c15 c16 c17 c18 c19 c20 c21 c22 c23 c24 c25 c26 c27 c28 c29 0 now2 ps1) = if vote = true then votesV c0 c1 c2 c3 c4 c5 c6 c7 c8 c9 c10 c11 c12 c13 c14 c15 c16 c17 c18 c19 c20 c21 c22 c23 c24 c25 c26 c27 c28 c29 0 now2 ps1 else [] := by
      by_cases hlt : now2 < nx
      · rw [if_pos hlt, if_neg (by rw [hv]; simp [hlt])]
      · rw [if_neg hlt, if_pos (by rw [hv]; simp [hlt])]
    simp only [ev]
    rw [in_tick c0 c1 c2 c3 c4 c5 c6 c7 c8 c9 c10 c11 c12 c13 c14 c15 c16 c17 c18 c19 c20 c21 c22 c23 c24 c25 c26 c27 c28 c29 now2 ps1 vote, Option.bind_some, bad_none c0 c1 c2 c3 c4 c5 c6 c7 c8 c9 c10 c11 c12 c13 c14 c15 c16 c17 c18 c19 c20 c21 c22 c23 c24 c25 c26 c27 c28 c29 now2 last h1.1 vote, if_neg (by decide)]
    · have ex : ((x : Int) + 1) = ((x + 1 : Nat) : Int) := by omega
      rw [ex]
      refine votes_go c0 c1 c2 c3 c4 c5 c6 c7 c8 c9 c10 c11 c12 c13 c14 c15 c16 c17 c18 c19 c20 c21 c22 c23 c24 c25 c26 c27 c28 c29 h1 h2 h6 l1 l2 hl hb m (x + 1) now2 _ _ _ (by omega) (by omega) (by omega) ?_ (by simp; omega)
      by_cases hlt : now2 < nx
      · have hv2 : vote = false := by rw [hv]; simp [hlt]
        rw [hv2]
        simp only [Bool.false_eq_true, if_false]
        rw [if_neg (by omega), if_pos hlt]
        rcases hs with hs | hs
        · omega
        · exact .inr ⟨hs.1, by omega, hs.2.2⟩
      · have hv2 : vote = true := by rw [hv]; simp [hlt]
        rw [hv2, if_pos rfl, if_pos (by omega), if_neg hlt]
        exact .inr ⟨by omega, by omega, wrap_id _ (by omega) (by omega)⟩
    · intro hv2
      rw [hv] at hv2
      simp at hv2
      omega
    · intro hv2 hl0
      rw [hv] at hv2
      simp at hv2
      rw [wrap_id _ (by omega) (by omega)]
      omega
theorem ObserverVotes : ∀ (a0_0 : Int) (a0_1 : Int) (a0_2 : Int) (a0_3 : Int) (a0_4 : Int) (l0_5 : List Int) (a0_6 : Int) (a0_7 : Int) (a0_8 : Int) (a0_9 : Int) (a0_10 : Int) (a0_11 : Int) (a0_12 : Int) (a0_13 : Int) (a0_14 : Int) (a0_15 : Int) (a0_16 : Int) (a0_17 : Int) (a0_18 : Int) (a0_19 : Int) (a0_20 : Int) (a0_21 : Int) (a0_22 : Int) (a0_23 : Int) (a0_24 : Int) (a0_25 : Int) (a0_26 : Int) (a0_27 : Int) (a0_28 : Int) (a0_29 : Int) (l1 : List Int) (l2 : List S37), ((Lit.int .i64 a0_0).wf = true) → ((Lit.int .i64 a0_1).wf = true) → ((Lit.int .i64 a0_2).wf = true) → ((Lit.int .i64 a0_3).wf = true) → ((Lit.int .i64 a0_4).wf = true) → (l0_5.length ≤ maxLen ∧ ∀ y ∈ l0_5, (Lit.int .i64 y).wf = true) → ((Lit.int .i64 a0_6).wf = true) → ((Lit.int .i64 a0_7).wf = true) → ((Lit.int .i64 a0_8).wf = true) → ((Lit.int .i64 a0_9).wf = true) → ((Lit.int .i64 a0_10).wf = true) → ((Lit.int .i64 a0_11).wf = true) → ((Lit.int .i64 a0_12).wf = true) → ((Lit.int .i64 a0_13).wf = true) → ((Lit.int .i64 a0_14).wf = true) → ((Lit.int .i64 a0_15).wf = true) → ((Lit.int .i64 a0_16).wf = true) → ((Lit.int .i64 a0_17).wf = true) → ((Lit.int .i64 a0_18).wf = true) → ((Lit.int .i64 a0_19).wf = true) → ((Lit.int .i64 a0_20).wf = true) → ((Lit.int .i64 a0_21).wf = true) → ((Lit.int .i64 a0_22).wf = true) → ((Lit.int .i64 a0_23).wf = true) → ((Lit.int .i64 a0_24).wf = true) → ((Lit.int .i64 a0_25).wf = true) → ((Lit.int .i64 a0_26).wf = true) → ((Lit.int .i64 a0_27).wf = true) → ((Lit.int .i64 a0_28).wf = true) → ((Lit.int .i64 a0_29).wf = true) → (l1.length ≤ maxLen ∧ ∀ y ∈ l1, (Lit.int .u8 y).wf = true) → (l2.length ≤ maxLen ∧ ∀ y ∈ l2, ((Lit.int .i64 y.f0).wf = true) ∧ ((Lit.int .i64 y.f1).wf = true) ∧ ((Lit.int .i64 y.f2).wf = true) ∧ ((Lit.int .i64 y.f3).wf = true) ∧ ((Lit.int .i64 y.f4).wf = true) ∧ ((Lit.int .i64 y.f5).wf = true) ∧ ((Lit.int .i64 y.f6).wf = true) ∧ ((Lit.int .i64 y.f7).wf = true) ∧ ((Lit.int .u64 y.f8).wf = true) ∧ ((Lit.int .i64 y.f9).wf = true) ∧ (((Lit.int .i64 y.f11.f0).wf = true) ∧ ((Lit.int .i64 y.f11.f1).wf = true) ∧ ((Lit.int .i64 y.f11.f2).wf = true) ∧ ((Lit.int .i64 y.f11.f3).wf = true) ∧ ((Lit.int .i64 y.f11.f4).wf = true) ∧ ((Lit.int .i64 y.f11.f5).wf = true) ∧ ((Lit.int .i64 y.f11.f6).wf = true) ∧ ((Lit.int .i64 y.f11.f7).wf = true) ∧ ((Lit.int .u64 y.f11.f8).wf = true) ∧ ((Lit.int .u64 y.f11.f9).wf = true) ∧ (y.f11.f10.length ≤ maxLen ∧ ∀ z ∈ y.f11.f10, (Lit.int .i64 z).wf = true) ∧ (y.f11.f11.length ≤ maxLen ∧ ∀ z ∈ y.f11.f11, (Lit.int .i64 z).wf = true)) ∧ (y.f12.length ≤ maxLen ∧ ∀ z ∈ y.f12, (Lit.int .i64 z).wf = true) ∧ (y.f13.length ≤ maxLen ∧ ∀ z ∈ y.f13, (Lit.int .u8 z).wf = true) ∧ (y.f14.length ≤ maxLen ∧ ∀ z ∈ y.f14, (Lit.int .u8 z).wf = true)) → (l1.length * 1 ≤ 140737488351232) → (l0_5.length * 8 ≤ 140737488351232) → ∃ k, locumlaw23_ObserverVotes.f k a0_0 a0_1 a0_2 a0_3 a0_4 l0_5 a0_6 a0_7 a0_8 a0_9 a0_10 a0_11 a0_12 a0_13 a0_14 a0_15 a0_16 a0_17 a0_18 a0_19 a0_20 a0_21 a0_22 a0_23 a0_24 a0_25 a0_26 a0_27 a0_28 a0_29 l1 l2 = some true := by
  intro a0_0 a0_1 a0_2 a0_3 a0_4 l0_5 a0_6 a0_7 a0_8 a0_9 a0_10 a0_11 a0_12 a0_13 a0_14 a0_15 a0_16 a0_17 a0_18 a0_19 a0_20 a0_21 a0_22 a0_23 a0_24 a0_25 a0_26 a0_27 a0_28 a0_29 l1 l2 ha0_0 ha0_1 ha0_2 ha0_3 ha0_4 hl0_5 ha0_6 ha0_7 ha0_8 ha0_9 ha0_10 ha0_11 ha0_12 ha0_13 ha0_14 ha0_15 ha0_16 ha0_17 ha0_18 ha0_19 ha0_20 ha0_21 ha0_22 ha0_23 ha0_24 ha0_25 ha0_26 ha0_27 ha0_28 ha0_29 hl1 hl2 zl1 zl0_5
  refine ⟨21, ?_⟩
  unfold locumlaw23_ObserverVotes.f
  obtain ⟨b, hb⟩ := right_some a0_0 a0_1 a0_2 a0_3 a0_4 l0_5 a0_6 a0_7 a0_8 a0_9 a0_10 a0_11 a0_12 a0_13 a0_14 a0_15 a0_16 a0_17 a0_18 a0_19 a0_20 a0_21 a0_22 a0_23 a0_24 a0_25 a0_26 a0_27 a0_28 a0_29 (by omega)
  rw [hb, Option.bind_some]
  by_cases hk : observer_New.ok a0_0 a0_1 a0_2 a0_3 a0_4 l0_5 a0_6 a0_7 a0_8 a0_9 a0_10 a0_11 a0_12 a0_13 a0_14 a0_15 a0_16 a0_17 a0_18 a0_19 a0_20 a0_21 a0_22 a0_23 a0_24 a0_25 a0_26 a0_27 a0_28 a0_29 0 b = true
  · rw [if_pos hk]
    obtain rfl : b = true := by cases b with | true => rfl | false => simp [observer_New.ok] at hk
    have hok := (right_def a0_0 a0_1 a0_2 a0_3 a0_4 l0_5 a0_6 a0_7 a0_8 a0_9 a0_10 a0_11 a0_12 a0_13 a0_14 a0_15 a0_16 a0_17 a0_18 a0_19 a0_20 a0_21 a0_22 a0_23 a0_24 a0_25 a0_26 a0_27 a0_28 a0_29).1 (right_all a0_0 a0_1 a0_2 a0_3 a0_4 l0_5 a0_6 a0_7 a0_8 a0_9 a0_10 a0_11 a0_12 a0_13 a0_14 a0_15 a0_16 a0_17 a0_18 a0_19 a0_20 a0_21 a0_22 a0_23 a0_24 a0_25 a0_26 a0_27 a0_28 a0_29 hb)
    rw [if_pos ⟨hok.1.2.2.1, by have := hok.1.2.1.1; omega⟩]
    split
    · rfl
    · have hgo := votes_go a0_0 a0_1 a0_2 a0_3 a0_4 l0_5 a0_6 a0_7 a0_8 a0_9 a0_10 a0_11 a0_12 a0_13 a0_14 a0_15 a0_16 a0_17 a0_18 a0_19 a0_20 a0_21 a0_22 a0_23 a0_24 a0_25 a0_26 a0_27 a0_28 a0_29 hok.1.2.1.1 hok.1.2.2.1 hok.2.1.1 l1 l2 (by omega) (fun y hy => u8_of (hl1.2 y hy)) l1.length 0 0 (-1) _ 0 (by omega) (by omega) (by omega) (.inl ⟨rfl, rfl⟩) (show a0_2.toNat = (List.replicate a0_2.toNat z63).length by simp)
      rw [Int.natCast_zero] at hgo
      rw [hgo]
      rfl
  · rw [if_neg hk]

end Go.Proofs.Ytaofdmibppecnaa.Pure
