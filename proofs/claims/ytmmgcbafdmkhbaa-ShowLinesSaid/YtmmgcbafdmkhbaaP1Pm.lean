import Derived.Test.YtmmgcbafdmkhbaaP1Pl
import Derived.Test.YtmmgcbafdmkhbaaP1L11a
namespace Go.Proofs.Ytmmgcbafdmkhbaa.M
open Go Go.RowKit Go.Proofs.YtmmgcbafdmkhbaaW.PrintWords Go.Proofs.YtmmgcbafdmkhbaaW.PrintLast Go.Proofs.YtmmgcbafdmkhbaaW.PrintMore Go.Proofs
set_option linter.unusedVariables false
set_option linter.unusedSimpArgs false
open Go.Proofs.Ytmmgcbafdmkhbaa.Pure
theorem act_ok (k a : Int) : ∃ b, act_Right.f k a = some b ∧ (b = true → (1 ≤ k ∧ k ≤ 8) ∧ (0 ≤ a ∧ a ≤ 65535)) := by
  unfold act_Right.f
  by_cases h1 : k < 1
  · exact ⟨false, if_pos h1, fun h => by cases h⟩
  rw [if_neg h1]
  by_cases h2 : k > 8
  · exact ⟨false, if_pos h2, fun h => by cases h⟩
  rw [if_neg h2]
  by_cases h3 : a < 0
  · exact ⟨false, if_pos h3, fun h => by cases h⟩
  rw [if_neg h3]
  by_cases h4 : a > 65535
  · exact ⟨false, if_pos h4, fun h => by cases h⟩
  rw [if_neg h4]
  by_cases h5 : a = 0
  · exact ⟨true, if_pos h5, fun _ => by omega⟩
  rw [if_neg h5]
  unfold act_bears.f
  by_cases h6 : k = 3
  · exact ⟨true, by rw [if_pos h6]; rfl, fun _ => by omega⟩
  rw [if_neg h6]
  by_cases h7 : k = 4
  · exact ⟨true, by rw [if_pos h7]; rfl, fun _ => by omega⟩
  rw [if_neg h7]
  exact ⟨_, rfl, fun _ => by omega⟩
def CondIn (c : S39) : Prop := (0 ≤ c.f2 ∧ c.f2 ≤ 18446744073709551615) ∧ (0 ≤ c.f3 ∧ c.f3 ≤ 18446744073709551615)
theorem cond_ok (c : S39) (hi : CondIn c) : ∃ b, cond_Right.f c.f0 c.f1 c.f2 c.f3 = some b ∧ (b = true → CondOk c) := by
  unfold cond_Right.f
  by_cases h1 : c.f0 ≥ 0
  · rw [if_pos h1]
    by_cases h2 : c.f0 ≤ 5
    · rw [if_pos h2]
      by_cases h3 : c.f1 ≥ 1
      · rw [if_pos h3]
        exact ⟨_, rfl, fun h => ⟨⟨h1, h2⟩, ⟨h3, of_decide_eq_true h⟩, hi.1, hi.2⟩⟩
      · exact ⟨false, if_neg h3, fun h => by cases h⟩
    · exact ⟨false, if_neg h2, fun h => by cases h⟩
  · exact ⟨false, if_neg h1, fun h => by cases h⟩
theorem wr1 (i n : Nat) (h : i < n) (hn : n ≤ 1000) : wrap64 ((i : Int) + 1) = ((i + 1 : Nat) : Int) := by unfold wrap64; omega
theorem fine_l1 (l : List S39) (hb : ∀ c ∈ l, CondIn c) (hl : l.length ≤ 100) (d : Nat) : ∀ i : Nat, i + d = l.length → ∃ b, (∀ k, d < k → show_fine.l1 k l l.length i = some b) ∧ (b = true → ∀ c ∈ l.drop i, CondOk c) := by
  induction d with
  | zero =>
    intro i hi
    refine ⟨true, fun k hk => ?_, fun _ c hc => ?_⟩
    · obtain ⟨k, rfl⟩ : ∃ m, k = m + 1 := ⟨k - 1, by omega⟩
      simp only [show_fine.l1]
      rw [if_neg (by omega)]
    · rw [List.drop_of_length_le (by omega)] at hc
      cases hc
  | succ d ih =>
    intro i hi
    obtain ⟨b1, h1, h1'⟩ := cond_ok (rd_T39 l i) (hb _ (rd39_mem l i (by omega)))
    obtain ⟨b2, h2, h2'⟩ := ih (i + 1) (by omega)
    refine ⟨b1 && b2, fun k hk => ?_, fun h c hc => ?_⟩
    · obtain ⟨k, rfl⟩ : ∃ m, k = m + 1 := ⟨k - 1, by omega⟩
      simp only [show_fine.l1]
      rw [if_pos (by omega), if_pos (by omega), if_pos (by omega), h1, Option.bind_some, wr1 i l.length (by omega) (by omega)]
      cases b1 with
      | true => rw [if_pos rfl, h2 k (by omega)]; rfl
      | false => rw [if_neg (by decide)]; rfl
    · rw [drop_rd39 l i (by omega)] at hc
      simp only [Bool.and_eq_true] at h
      rcases List.mem_cons.1 hc with rfl | hc
      · exact h1' h.1
      · exact h2' h.2 c hc
theorem rdof_mem (l : List ByteArray) (i : Nat) (h : i < l.length) : rdOf ByteArray.empty l i ∈ l := by
  unfold rdOf
  rw [Int.toNat_natCast, List.getD_eq_getElem?_getD, List.getElem?_eq_getElem h]
  exact List.getElem_mem h
theorem drop_rdof (l : List ByteArray) (i : Nat) (h : i < l.length) : l.drop i = rdOf ByteArray.empty l i :: l.drop (i + 1) := by
  rw [List.drop_eq_getElem_cons h]
  unfold rdOf
  rw [Int.toNat_natCast, List.getD_eq_getElem?_getD, List.getElem?_eq_getElem h]
  rfl
theorem fine_l0 (l : List ByteArray) (hs : ∀ x ∈ l, x.size ≤ 500) (hl : l.length ≤ 100) (cs : List S39) (hb : ∀ c ∈ cs, CondIn c) (hc : cs.length ≤ 100) (a b : Int) (d : Nat) : ∀ i : Nat, i + d = l.length → ∃ r, (∀ k, d + 600 < k → show_fine.l0 k l l.length i a b l cs = some r) ∧ (r = true → (∀ n ∈ l.drop i, ISW n = true) ∧ ∀ c ∈ cs, CondOk c) := by
  induction d with
  | zero =>
    intro i hi
    obtain ⟨b2, h2, h2'⟩ := fine_l1 cs hb hc cs.length 0 (by omega)
    refine ⟨b2, fun k hk => ?_, fun h => ⟨fun n hn => ?_, fun c hcm => h2' h c (by simpa using hcm)⟩⟩
    · obtain ⟨k, rfl⟩ : ∃ m, k = m + 1 := ⟨k - 1, by omega⟩
      simp only [show_fine.l0]
      rw [if_neg (by omega)]
      exact h2 k (by omega)
    · rw [List.drop_of_length_le (by omega)] at hn
      cases hn
  | succ d ih =>
    intro i hi
    obtain ⟨b2, h2, h2'⟩ := ih (i + 1) (by omega)
    have hz := hs _ (rdof_mem l i (by omega))
    refine ⟨ISW (rdOf ByteArray.empty l i) && b2, fun k hk => ?_, fun h => ?_⟩
    · obtain ⟨k, rfl⟩ : ∃ m, k = m + 1 := ⟨k - 1, by omega⟩
      simp only [show_fine.l0]
      rw [if_pos (by omega), if_pos (by omega), if_pos (by omega), is_is _ k (by omega), Option.bind_some, wr1 i l.length (by omega) (by omega)]
      cases hI : ISW (rdOf ByteArray.empty l i) with
      | true => rw [if_pos rfl, h2 k (by omega)]; rfl
      | false => rw [if_neg (by decide)]; rfl
    · simp only [Bool.and_eq_true] at h
      obtain ⟨h3, h4⟩ := h2' h.2
      refine ⟨fun n hn => ?_, h4⟩
      rw [drop_rdof l i (by omega)] at hn
      rcases List.mem_cons.1 hn with rfl | hn
      · exact h.1
      · exact h3 n hn
theorem word_no10 (s : ByteArray) (h : ISW s = true) : no10 s := by
  unfold ISW at h
  obtain ⟨_, _, h3⟩ := of_decide_eq_true h
  have hg := lenL_goes (ch s)
  rw [h3, List.take_of_length_le (by rw [ch_len]; exact Nat.le_refl _)] at hg
  intro h10
  have hm : ((10 : UInt8).toNat : Int) ∈ ch s := by unfold ch; exact List.mem_map.2 ⟨10, h10, rfl⟩
  have := hg _ hm
  have e : ((10 : UInt8).toNat : Int) = 10 := rfl
  rw [e] at this
  unfold goesP smallP digitP at this
  omega
structure Lt (x : S42) : Prop where
  n : x.f1.length ≤ 40
  c : x.f2.length ≤ 40
  s : ∀ n ∈ x.f1, n.size ≤ 500
theorem fine_is (x : S42) (h : Lt x) (hb : ∀ c ∈ x.f2, CondIn c) : ∃ b, (∀ k, 1000 ≤ k → show_fine.f k x.f0.f0 x.f0.f1 x.f1 x.f2 = some b) ∧ (b = true → RuleOk x ∧ ∀ n ∈ x.f1, no10 n) := by
  obtain ⟨b1, h1, h1'⟩ := act_ok x.f0.f0 x.f0.f1
  have hn := h.n
  have hcl := h.c
  obtain ⟨b2, h2, h2'⟩ := fine_l0 x.f1 h.s (by omega) x.f2 hb (by omega) x.f0.f0 x.f0.f1 x.f1.length 0 (by omega)
  refine ⟨b1 && (decide (1 ≤ x.f1.length ∧ x.f1.length ≤ 16 ∧ x.f2.length ≤ 8) && b2), fun k hk => ?_, fun hh => ?_⟩
  · obtain ⟨k, rfl⟩ : ∃ m, k = m + 1 := ⟨k - 1, by omega⟩
    unfold show_fine.f
    rw [h1, Option.bind_some]
    cases b1 with
    | false => rw [if_neg (by decide)]; simp only [show_fine.j0]; rfl
    | true =>
      rw [if_pos rfl]
      by_cases c1 : (x.f1.length : Int) < 1
      · rw [if_pos c1, decide_eq_false (by omega)]; simp only [show_fine.j0]; rfl
      · rw [if_neg c1]
        by_cases c2 : (x.f1.length : Int) > 16
        · rw [if_pos c2, decide_eq_false (by omega)]; simp only [show_fine.j0]; rfl
        · rw [if_neg c2]
          simp only [show_fine.j0]
          by_cases c3 : (x.f2.length : Int) > 8
          · rw [decide_eq_true c3, if_pos rfl, decide_eq_false (by omega)]; rfl
          · rw [decide_eq_false c3, if_neg (by decide), decide_eq_true (by omega)]
            exact h2 k (by omega)
  · simp only [Bool.and_eq_true, decide_eq_true_eq] at hh
    obtain ⟨g1, ⟨g2, g3, g4⟩, g5⟩ := hh
    obtain ⟨p1, p2⟩ := h1' g1
    obtain ⟨p3, p4⟩ := h2' g5
    exact ⟨⟨p1, p2, ⟨g2, g3⟩, joinw_size _ g3 h.s, g4, p4⟩, fun n hn => word_no10 n (p3 n (by simpa using hn))⟩
theorem drop_rd42 (l : List S42) (i : Nat) (h : i < l.length) : l.drop i = rd_T42 l i :: l.drop (i + 1) := by
  rw [List.drop_eq_getElem_cons h]
  unfold rd_T42
  rw [Int.toNat_natCast, List.getD_eq_getElem?_getD, List.getElem?_eq_getElem h]
  rfl
theorem right_l0 (L L2 : List S42) (fb : S42 → Bool) (hf : ∀ x ∈ L, ∀ k, 1000 ≤ k → show_fine.f k x.f0.f0 x.f0.f1 x.f1 x.f2 = some (fb x)) (hL : L.length ≤ 100) (a b : Int) (d : Nat) : ∀ i : Nat, i + d = L.length → ∀ k, d + 1000 < k → show_Right.l0 k L L.length i a b L2 = if (L.drop i).all fb = true then ((act_Right.f a b).bind fun t => if t = true then some (decide ((L2.length : Int) ≤ 64)) else some false) else some false := by
  induction d with
  | zero =>
    intro i hi k hk
    obtain ⟨k, rfl⟩ : ∃ m, k = m + 1 := ⟨k - 1, by omega⟩
    simp only [show_Right.l0]
    rw [if_neg (by omega), List.drop_of_length_le (by omega), if_pos (show ([] : List S42).all fb = true from rfl)]
  | succ d ih =>
    intro i hi k hk
    obtain ⟨k, rfl⟩ : ∃ m, k = m + 1 := ⟨k - 1, by omega⟩
    simp only [show_Right.l0]
    rw [if_pos (by omega), if_pos (by omega), if_pos (by omega), hf _ (rd42_mem L i (by omega)) k (by omega), Option.bind_some, wr1 i L.length (by omega) (by omega), drop_rd42 L i (by omega), List.all_cons]
    cases hb : fb (rd_T42 L i) with
    | true => rw [if_pos rfl, ih (i + 1) (by omega) k (by omega), Bool.true_and]
    | false => rw [if_neg (by decide), Bool.false_and, if_neg (by decide)]
theorem light_l1 (a b : Int) (L : List S42) (i : Nat) (hi : i < L.length) (hL : L.length ≤ 100) (hn : (rd_T42 L i).f1.length ≤ 40) (K : Nat) (b2 : Bool) (hc : ∀ k, K < k → fairleadlaw11_light.l0 k ((i + 1 : Nat) : Int) a b L = some b2) (d : Nat) : ∀ j : Nat, j + d = (rd_T42 L i).f1.length → ∃ r, (∀ k, K + 1 + d < k → fairleadlaw11_light.l1 k i j a b L = some r) ∧ (r = true → b2 = true ∧ ∀ n ∈ (rd_T42 L i).f1.drop j, n.size ≤ 500) := by
  induction d with
  | zero =>
    intro j hj
    refine ⟨b2, fun k hk => ?_, fun h => ⟨h, fun n hn => ?_⟩⟩
    · obtain ⟨k, rfl⟩ : ∃ m, k = m + 1 := ⟨k - 1, by omega⟩
      simp only [fairleadlaw11_light.l1]
      rw [if_pos (by omega), if_pos (by omega), if_neg (by omega), wr1 i L.length hi (by omega)]
      exact hc k (by omega)
    · rw [List.drop_of_length_le (by omega)] at hn
      cases hn
  | succ d ih =>
    intro j hj
    obtain ⟨r, h1, h2⟩ := ih (j + 1) (by omega)
    by_cases hz : ((rdOf ByteArray.empty (rd_T42 L i).f1 j).size : Int) > 500
    · refine ⟨false, fun k hk => ?_, fun h => by cases h⟩
      obtain ⟨k, rfl⟩ : ∃ m, k = m + 1 := ⟨k - 1, by omega⟩
      simp only [fairleadlaw11_light.l1]
      rw [if_pos (by omega), if_pos (by omega), if_pos (by omega), if_pos (by omega), if_pos hz]
    · refine ⟨r, fun k hk => ?_, fun h => ⟨(h2 h).1, fun n hn => ?_⟩⟩
      · obtain ⟨k, rfl⟩ : ∃ m, k = m + 1 := ⟨k - 1, by omega⟩
        simp only [fairleadlaw11_light.l1]
        rw [if_pos (by omega), if_pos (by omega), if_pos (by omega), if_pos (by omega), if_neg hz, wr1 j (rd_T42 L i).f1.length (by omega) (by omega)]
        exact h1 k (by omega)
      · rw [drop_rdof _ j (by omega)] at hn
        rcases List.mem_cons.1 hn with rfl | hn
        · omega
        · exact (h2 h).2 n hn
theorem light_l0 (a b : Int) (L : List S42) (hL : L.length ≤ 100) (d : Nat) : ∀ i : Nat, i + d = L.length → ∃ r, (∀ k, 50 * d < k → fairleadlaw11_light.l0 k i a b L = some r) ∧ (r = true → ∀ x ∈ L.drop i, Lt x) := by
  induction d with
  | zero =>
    intro i hi
    refine ⟨true, fun k hk => ?_, fun _ x hx => ?_⟩
    · obtain ⟨k, rfl⟩ : ∃ m, k = m + 1 := ⟨k - 1, by omega⟩
      simp only [fairleadlaw11_light.l0]
      rw [if_neg (by omega)]
    · rw [List.drop_of_length_le (by omega)] at hx
      cases hx
  | succ d ih =>
    intro i hi
    obtain ⟨b2, h1, h2⟩ := ih (i + 1) (by omega)
    by_cases hn : ((rd_T42 L i).f1.length : Int) > 40
    · refine ⟨false, fun k hk => ?_, fun h => by cases h⟩
      obtain ⟨k, rfl⟩ : ∃ m, k = m + 2 := ⟨k - 2, by omega⟩
      simp only [fairleadlaw11_light.l0]
      rw [if_pos (by omega), if_pos (by omega), if_pos hn]
      simp only [fairleadlaw11_light.j1]
      rfl
    · by_cases hcn : ((rd_T42 L i).f2.length : Int) > 40
      · refine ⟨false, fun k hk => ?_, fun h => by cases h⟩
        obtain ⟨k, rfl⟩ : ∃ m, k = m + 2 := ⟨k - 2, by omega⟩
        simp only [fairleadlaw11_light.l0]
        rw [if_pos (by omega), if_pos (by omega), if_neg hn, decide_eq_true hcn]
        simp only [fairleadlaw11_light.j1]
        rfl
      · obtain ⟨r, h3, h4⟩ := light_l1 a b L i (by omega) hL (by omega) (50 * d) b2 h1 (rd_T42 L i).f1.length 0 (by omega)
        refine ⟨r, fun k hk => ?_, fun h x hx => ?_⟩
        · obtain ⟨k, rfl⟩ : ∃ m, k = m + 2 := ⟨k - 2, by omega⟩
          simp only [fairleadlaw11_light.l0]
          rw [if_pos (by omega), if_pos (by omega), if_neg hn, decide_eq_false hcn]
          simp only [fairleadlaw11_light.j1]
          rw [if_neg (by decide)]
          exact h3 k (by omega)
        · rw [drop_rd42 L i (by omega)] at hx
          obtain ⟨g1, g2⟩ := h4 h
          rcases List.mem_cons.1 hx with rfl | hx
          · exact ⟨by omega, by omega, fun n hn => g2 n (by simpa using hn)⟩
          · exact h2 g1 x hx
theorem ShowLines_pure (d0 d1 : Int) (L : List S42) (hb : ∀ x ∈ L, ∀ c ∈ x.f2, CondIn c) : ∃ k, fairleadlaw11_ShowLines.P k d0 d1 L := by
  by_cases h70 : (L.length : Int) > 70
  · refine ⟨5000, false, ?_, fun h => by cases h⟩
    unfold fairleadlaw11_light.f
    rw [if_pos h70]
  obtain ⟨b, hl1, hl2⟩ := light_l0 d0 d1 L (by omega) L.length 0 (by omega)
  have hlk : fairleadlaw11_light.f 5000 d0 d1 L = some b := by
    unfold fairleadlaw11_light.f
    rw [if_neg h70]
    exact hl1 5000 (by omega)
  refine ⟨5000, b, hlk, fun hbt => ?_⟩
  have hlt : ∀ x ∈ L, Lt x := fun x hx => hl2 hbt x (by simpa using hx)
  have key : ∀ x : S42, ∃ r : Bool, x ∈ L → (∀ k, 1000 ≤ k → show_fine.f k x.f0.f0 x.f0.f1 x.f1 x.f2 = some r) ∧ (r = true → RuleOk x ∧ ∀ n ∈ x.f1, no10 n) := fun x => by
    by_cases hx : x ∈ L
    · obtain ⟨r, h1, h2⟩ := fine_is x (hlt x hx) (hb x hx)
      exact ⟨r, fun _ => ⟨h1, h2⟩⟩
    · exact ⟨false, fun h => absurd h hx⟩
  obtain ⟨fb, hfb⟩ := Classical.axiomOfChoice key
  obtain ⟨ba, ha1, ha2⟩ := act_ok d0 d1
  have hR : ∀ M : List S42, (∀ x ∈ M, x ∈ L) → M.length ≤ 100 → show_Right.f 5000 d0 d1 M = if M.all fb = true then (if ba = true then some (decide ((M.length : Int) ≤ 64)) else some false) else some false := fun M hM hMl => by
    unfold show_Right.f
    have := right_l0 M M fb (fun x hx => (hfb x (hM x hx)).1) hMl d0 d1 M.length 0 (by omega) 5000 (by omega)
    rw [List.drop_zero, ha1, Option.bind_some] at this
    exact this
  have hRL := hR L (fun _ h => h) (by omega)
  by_cases hall : L.all fb = true ∧ ba = true ∧ (L.length : Int) ≤ 64
  · obtain ⟨q1, q2, q3⟩ := hall
    refine ⟨true, by rw [hRL, if_pos q1, if_pos q2, decide_eq_true q3], fun _ => ?_⟩
    have hok : ∀ x ∈ L, RuleOk x ∧ ∀ n ∈ x.f1, no10 n := fun x hx => (hfb x hx).2 (List.all_eq_true.1 q1 x hx)
    obtain ⟨r1, r2⟩ := ha2 q2
    refine ⟨r1, r2, by omega, fun x hx => (hok x hx).1, ?_, fun T => text_facts T d0 d1 L r2 (by omega) hok⟩
    rw [hR (L.take (L.length - 1)) (fun x hx => List.mem_of_mem_take hx) (by rw [List.length_take]; omega)]
    rw [if_pos (List.all_eq_true.2 (fun x hx => List.all_eq_true.1 q1 x (List.mem_of_mem_take hx))), if_pos q2, decide_eq_true (by rw [List.length_take]; omega)]
  · refine ⟨false, ?_, fun h => by cases h⟩
    rw [hRL]
    by_cases q1 : L.all fb = true
    · rw [if_pos q1]
      by_cases q2 : ba = true
      · rw [if_pos q2, decide_eq_false (fun q3 => hall ⟨q1, q2, q3⟩)]
      · rw [if_neg q2]
    · rw [if_neg q1]
end Go.Proofs.Ytmmgcbafdmkhbaa.M
