import Derived.Test.YtmmgcbafdmkhbaaP1La
namespace Go.Proofs.Ytmmgcbafdmkhbaa.M
open Go Go.RowKit Go.Proofs.YtmmgcbafdmkhbaaW.PrintWords Go.Proofs.YtmmgcbafdmkhbaaW.PrintLast Go.Proofs.YtmmgcbafdmkhbaaW.PrintMore Go.Proofs
set_option linter.unusedVariables false
set_option linter.unusedSimpArgs false
def no10 (s : ByteArray) : Prop := (10 : UInt8) ∉ s.data.toList
theorem app_list (a b : ByteArray) : (a ++ b).data.toList = a.data.toList ++ b.data.toList := by rw [ByteArray.data_append, Array.toList_append]
theorem no10_app {a b : ByteArray} (ha : no10 a) (hb : no10 b) : no10 (a ++ b) := by
  unfold no10 at *
  rw [app_list, List.mem_append]
  exact fun h => h.elim ha hb
theorem no10_bs {l : List UInt8} (h : (10 : UInt8) ∉ l) : no10 (bs l) := by
  unfold no10 bs
  simpa using h
theorem fbl_no10 : ∀ n u, u < 10 ^ (n + 1) → ∀ x ∈ FBL n u, 48 ≤ x ∧ x ≤ 147
  | 0, _, _, x, h => by cases h
  | 1, u, hu, x, h => by
    have hu' : u < 100 := hu
    rw [FBL, List.mem_singleton] at h
    omega
  | n + 2, u, hu, x, h => by
    rw [FBL, List.mem_append] at h
    rcases h with h | h
    · refine fbl_no10 n _ ?_ x h
      rw [show n + 2 + 1 = n + 1 + 2 by omega, Nat.pow_add] at hu
      exact Nat.div_lt_of_lt_mul (by rw [Nat.mul_comm]; exact hu)
    · simp only [List.mem_cons, List.not_mem_nil, or_false] at h
      rcases h with h | h <;> omega
theorem byte_ne {n : Nat} (h1 : 48 ≤ n) (h2 : n ≤ 147) : (10 : UInt8) ≠ UInt8.ofNat n := fun h => by
  have := congrArg UInt8.toNat h
  rw [UInt8.toNat_ofNat', Nat.mod_eq_of_lt (by omega)] at this
  have h3 : (10 : UInt8).toNat = 10 := rfl
  omega
theorem num_no10 (T : Nat → Int) (u : Nat) (h : u < 18446744073709551616) : no10 (NUM T u) := by
  unfold NUM
  by_cases hs : u < 100
  · rw [if_pos hs]
    refine no10_bs ?_
    unfold Lib.decDigits
    by_cases h1 : u < 10
    · rw [dif_pos h1, List.mem_singleton]
      exact byte_ne (by omega) (by omega)
    · rw [dif_neg h1]
      unfold Lib.decDigits
      rw [dif_pos (by omega)]
      simp only [List.mem_append, List.mem_singleton]
      exact fun h => h.elim (byte_ne (by omega) (by omega)) (byte_ne (by omega) (by omega))
  · rw [if_neg hs]
    refine no10_bs ?_
    unfold FBU
    intro hm
    obtain ⟨x, hx, he⟩ := List.mem_map.1 hm
    have hb := fbl_no10 _ u (nd_le T u (by omega) h).2 x hx
    exact byte_ne (by omega) (by omega) he.symm
theorem actw_no10 (T : Nat → Int) (k a : Int) (ha : 0 ≤ a ∧ a ≤ 65535) : no10 (ACTW T k a) := by
  have hw : no10 (AWORD k) := by unfold AWORD; (repeat' split) <;> exact no10_bs (by decide)
  unfold ACTW
  split
  · exact no10_app hw (no10_app (no10_bs (by decide)) (num_no10 T _ (by omega)))
  · exact hw
theorem condw_no10 (T : Nat → Int) (c : S39) (h : CondOk c) : no10 (CONDW T c) := by
  obtain ⟨h0, h1, h2, h3⟩ := h
  have hs : no10 (SIGN c.f1) := by unfold SIGN; (repeat' split) <;> exact no10_bs (by decide)
  have ha : no10 (CONDA T c) := by
    unfold CONDA
    split
    · exact no10_app (no10_bs (by decide)) (num_no10 T _ (by omega))
    · exact no10_app (no10_app (no10_bs (by decide)) (num_no10 T _ (by omega))) (no10_app (no10_bs (by decide)) (num_no10 T _ (by omega)))
  unfold CONDW
  exact no10_app (no10_app (no10_app (no10_app ha (no10_bs (by decide))) hs) (no10_bs (by decide))) (num_no10 T _ (by omega))
theorem rcon_no10 (T : Nat → Int) : ∀ (l : List S39) (i : Nat) (s : ByteArray), no10 s → (∀ c ∈ l, CondOk c) → no10 (RCON T i s l) := by
  intro l
  induction l with
  | nil => intro i s hs _; exact hs
  | cons c r ih =>
    intro i s hs h
    rw [RCON]
    refine ih (i + 1) _ (no10_app ?_ (condw_no10 T c (h c List.mem_cons_self))) (fun y hy => h y (List.mem_cons_of_mem _ hy))
    split <;> exact no10_app hs (no10_bs (by decide))
theorem tail_no10 (sep : List UInt8) (hs : (10 : UInt8) ∉ sep) : ∀ r : List (List UInt8), (∀ x ∈ r, (10 : UInt8) ∉ x) → (10 : UInt8) ∉ Lib.joinTail sep r := by
  intro r h hm
  unfold Lib.joinTail at hm
  obtain ⟨y, hy, h10⟩ := List.mem_flatten.1 hm
  obtain ⟨x, hx, rfl⟩ := List.mem_map.1 hy
  rcases List.mem_append.1 h10 with h1 | h1
  · exact hs h1
  · exact h x hx h1
theorem joinw_no10 (l : List ByteArray) (h : ∀ x ∈ l, no10 x) : no10 (JOINW l) := by
  unfold JOINW
  refine no10_bs ?_
  cases l with
  | nil => rw [List.map_nil, Lib.join_nil]; simp
  | cons x r =>
    rw [List.map_cons, Lib.join_cons]
    rw [List.mem_append]
    refine fun hm => hm.elim (h x List.mem_cons_self) (tail_no10 _ (by decide) _ (fun y hy => ?_))
    obtain ⟨z, hz, rfl⟩ := List.mem_map.1 hy
    exact h z (List.mem_cons_of_mem _ hz)
theorem tail_len (sep : List UInt8) (hs : sep.length = 2) (n : Nat) : ∀ r : List (List UInt8), (∀ x ∈ r, x.length ≤ n) → (Lib.joinTail sep r).length ≤ r.length * (n + 2) := by
  intro r
  induction r with
  | nil => intro _; simp [Lib.joinTail]
  | cons x r ih =>
    intro h
    have h1 := ih (fun y hy => h y (List.mem_cons_of_mem _ hy))
    have h2 := h x List.mem_cons_self
    have e : Lib.joinTail sep (x :: r) = sep ++ x ++ Lib.joinTail sep r := by simp [Lib.joinTail]
    rw [e, List.length_append, List.length_append, List.length_cons, Nat.succ_mul]
    omega
theorem joinw_size (l : List ByteArray) (hl : l.length ≤ 16) (h : ∀ x ∈ l, x.size ≤ 500) : (JOINW l).size ≤ 100000 := by
  unfold JOINW
  show (bs _).size ≤ _
  rw [bs_size]
  cases l with
  | nil => rw [List.map_nil, Lib.join_nil]; simp
  | cons x r =>
    rw [List.map_cons, Lib.join_cons, List.length_append]
    have h1 := tail_len (⟨#[44, 32]⟩ : ByteArray).data.toList rfl 500 (r.map (·.data.toList)) (fun y hy => by
      obtain ⟨z, hz, rfl⟩ := List.mem_map.1 hy
      rw [Array.length_toList]
      exact h z (List.mem_cons_of_mem _ hz))
    have h2 := h x List.mem_cons_self
    have h3 : x.data.toList.length = x.size := by rw [Array.length_toList]; rfl
    rw [List.length_map] at h1
    rw [List.length_cons] at hl
    have h4 : r.length * (500 + 2) ≤ 15 * 502 := Nat.mul_le_mul_right 502 (by omega)
    rw [h3]
    omega
theorem rulew_no10 (T : Nat → Int) (x : S42) (h : RuleOk x) (hn : ∀ n ∈ x.f1, no10 n) : no10 (RULEW T x) := by
  unfold RULEW
  exact rcon_no10 T _ _ _ (no10_app (no10_app (actw_no10 T _ _ h.a) (no10_bs (by decide))) (joinw_no10 _ hn)) h.o
def c10 (s : ByteArray) : Nat := s.data.toList.count 10
theorem c10_app (a b : ByteArray) : c10 (a ++ b) = c10 a + c10 b := by unfold c10; rw [app_list, List.count_append]
theorem c10_no {s : ByteArray} (h : no10 s) : c10 s = 0 := List.count_eq_zero.2 h
theorem c10_end : c10 (bs [59, 10]) = 1 := by decide
theorem text_count (T : Nat → Int) : ∀ (L : List S42) (s : ByteArray), (∀ x ∈ L, RuleOk x ∧ ∀ n ∈ x.f1, no10 n) → c10 (L.foldl (fun s x => s ++ LINEW T x) s) = c10 s + L.length := by
  intro L
  induction L with
  | nil => intro s _; rfl
  | cons x r ih =>
    intro s h
    have hx := h x List.mem_cons_self
    rw [List.foldl_cons, ih _ (fun y hy => h y (List.mem_cons_of_mem _ hy)), c10_app, List.length_cons]
    have : c10 (LINEW T x) = 1 := by unfold LINEW; rw [c10_app, c10_no (rulew_no10 T x hx.1 hx.2), c10_end]
    omega
theorem text_size (T : Nat → Int) : ∀ (L : List S42) (s : ByteArray), (∀ x ∈ L, RuleOk x) → (L.foldl (fun s x => s ++ LINEW T x) s).size ≤ s.size + 200002 * L.length := by
  intro L
  induction L with
  | nil => intro s _; simp
  | cons x r ih =>
    intro s h
    have hx := h x List.mem_cons_self
    have h1 := ih (s ++ LINEW T x) (fun y hy => h y (List.mem_cons_of_mem _ hy))
    have h2 : (LINEW T x).size ≤ 200002 := by unfold LINEW; rw [ByteArray.size_append, bs_size]; have := rulew_size T x hx; simp only [List.length_cons, List.length_nil]; omega
    rw [ByteArray.size_append] at h1
    rw [List.foldl_cons, List.length_cons]
    omega
theorem text_ends (T : Nat → Int) (L : List S42) : ∀ s : ByteArray, (∃ p, s = p ++ bs [59, 10]) → ∃ p, L.foldl (fun s x => s ++ LINEW T x) s = p ++ bs [59, 10] := by
  induction L with
  | nil => exact fun s h => h
  | cons x r ih => exact fun s _ => ih _ ⟨s ++ RULEW T x, by unfold LINEW; rw [ByteArray.append_assoc]⟩
theorem ends_last (p : ByteArray) : 1 ≤ (p ++ bs [59, 10]).size ∧ (p ++ bs [59, 10]).data.toList.getD ((p ++ bs [59, 10]).size - 1) 0 = 10 := by
  rw [ByteArray.size_append, bs_size, app_list]
  refine ⟨by simp only [List.length_cons, List.length_nil]; omega, ?_⟩
  have e : p.data.toList.length = p.size := by rw [Array.length_toList]; rfl
  rw [List.getD_eq_getElem?_getD, List.getElem?_append_right (by rw [e]; simp only [List.length_cons, List.length_nil]; omega), e]
  have e2 : p.size + [(59 : UInt8), 10].length - 1 - p.size = 1 := by simp only [List.length_cons, List.length_nil]; omega
  rw [e2]
  rfl
theorem ext_app (a b : ByteArray) : (a ++ b).extract 0 a.size = a := ByteArray.extract_append_eq_left rfl
/-- What the law asks of a text. -/
theorem text_facts (T : Nat → Int) (d0 d1 : Int) (L : List S42) (ha : 0 ≤ d1 ∧ d1 ≤ 65535) (hL : L.length ≤ 64) (h : ∀ x ∈ L, RuleOk x ∧ ∀ n ∈ x.f1, no10 n) : (TEXT T d0 d1 L).size ≤ 20000000 ∧ 1 ≤ (TEXT T d0 d1 L).size ∧ (TEXT T d0 d1 L).data.toList.count 10 = L.length + 1 ∧ (TEXT T d0 d1 L).data.toList.getD ((TEXT T d0 d1 L).size - 1) 0 = 10 ∧ (L ≠ [] → (TEXT T d0 d1 (L.take (L.length - 1))).size < (TEXT T d0 d1 L).size ∧ (TEXT T d0 d1 L).extract 0 (TEXT T d0 d1 (L.take (L.length - 1))).size = TEXT T d0 d1 (L.take (L.length - 1))) := by
  have e0 : TEXT0 T d0 d1 = (bs [100, 101, 102, 97, 117, 108, 116, 32] ++ ACTW T d0 d1) ++ bs [59, 10] := by unfold TEXT0; rw [ByteArray.append_assoc]
  have hs0 : (TEXT0 T d0 d1).size ≤ 50 := by rw [e0]; simp only [ByteArray.size_append, bs_size, List.length_cons, List.length_nil]; have := actw_size T d0 d1 ha; omega
  have hc0 : c10 (TEXT0 T d0 d1) = 1 := by rw [e0, c10_app, c10_no (no10_app (no10_bs (by decide)) (actw_no10 T d0 d1 ha)), c10_end]
  have h1 := text_size T L (TEXT0 T d0 d1) (fun x hx => (h x hx).1)
  have h2 := text_count T L (TEXT0 T d0 d1) h
  obtain ⟨p, hp⟩ := text_ends T L (TEXT0 T d0 d1) ⟨_, e0⟩
  have h3 := ends_last p
  rw [← hp] at h3
  refine ⟨by unfold TEXT; omega, h3.1, by rw [hc0] at h2; show c10 (TEXT T d0 d1 L) = _; unfold TEXT; omega, h3.2, fun hne => ?_⟩
  have hlp : 1 ≤ L.length := by rcases Nat.eq_zero_or_pos L.length with h | h; exact absurd (List.eq_nil_of_length_eq_zero h) hne; exact h
  have ht := take_rd42 L (L.length - 1) (by omega)
  rw [show L.length - 1 + 1 = L.length by omega, List.take_length] at ht
  have e1 : TEXT T d0 d1 L = TEXT T d0 d1 (L.take (L.length - 1)) ++ LINEW T (rd_T42 L (L.length - 1 : Nat)) := by
    have : TEXT T d0 d1 (L.take (L.length - 1) ++ [rd_T42 L (L.length - 1 : Nat)]) = TEXT T d0 d1 (L.take (L.length - 1)) ++ LINEW T (rd_T42 L (L.length - 1 : Nat)) := by unfold TEXT; rw [List.foldl_append]; rfl
    rw [← ht] at this
    exact this
  have hl : 2 ≤ (LINEW T (rd_T42 L (L.length - 1 : Nat))).size := by unfold LINEW; rw [ByteArray.size_append, bs_size]; simp only [List.length_cons, List.length_nil]; omega
  refine ⟨by rw [e1, ByteArray.size_append]; omega, ?_⟩
  have h5 := ext_app (TEXT T d0 d1 (L.take (L.length - 1))) (LINEW T (rd_T42 L (L.length - 1 : Nat)))
  rw [← e1] at h5
  exact h5
end Go.Proofs.Ytmmgcbafdmkhbaa.M
