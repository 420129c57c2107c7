import Derived.Test.YtmmgcbafdmkhbaaP1Aw
namespace Go.Proofs.Ytmmgcbafdmkhbaa.M
open Go Go.RowKit Go.Proofs.YtmmgcbafdmkhbaaW.PrintWords Go.Proofs.YtmmgcbafdmkhbaaW.PrintLast Go.Proofs.YtmmgcbafdmkhbaaW.PrintMore Go.Proofs
set_option linter.unusedVariables false
set_option linter.unusedSimpArgs false
theorem idx_str (s : ByteArray) (i : Int) (j : Nat) (hi : i = j) (hj : j < s.size) (w : World) : (Instr.index 9 (.string s) (.int .i64 i)).run Try.prog w = .ok (.int .u8 ((s.data.toList.getD j 0).toNat : Int)) w := by
  subst hi
  rw [run_index_string w 9 s .i64 _ Try.underlying9, dif_pos ⟨by omega, by omega⟩]
  have e : ((j : Int)).toNat = j := by omega
  simp only [e]
  rw [Lib.getD_at s j hj]
/-- What ShowLines asks of the functions below, and of the texts. -/
def fairleadlaw11_ShowLines.P (k : Nat) (d0 d1 : Int) (L : List S42) : Prop := ∃ b, fairleadlaw11_light.f k d0 d1 L = some b ∧ (b = true → ∃ r, show_Right.f k d0 d1 L = some r ∧ (r = true → (1 ≤ d0 ∧ d0 ≤ 8) ∧ (0 ≤ d1 ∧ d1 ≤ 65535) ∧ L.length ≤ 64 ∧ (∀ x ∈ L, RuleOk x) ∧ show_Right.f k d0 d1 (L.take (L.length - 1)) = some true ∧ ∀ T, (TEXT T d0 d1 L).size ≤ 20000000 ∧ 1 ≤ (TEXT T d0 d1 L).size ∧ (TEXT T d0 d1 L).data.toList.count 10 = L.length + 1 ∧ (TEXT T d0 d1 L).data.toList.getD ((TEXT T d0 d1 L).size - 1) 0 = 10 ∧ (L ≠ [] → (TEXT T d0 d1 (L.take (L.length - 1))).size < (TEXT T d0 d1 L).size ∧ (TEXT T d0 d1 L).extract 0 (TEXT T d0 d1 (L.take (L.length - 1))).size = TEXT T d0 d1 (L.take (L.length - 1)))))
set_option maxHeartbeats 8000000 in
set_option maxRecDepth 100000 in
theorem fairleadlaw11_ShowLines.calls (k : Nat) (d0 d1 : Int) (A : Option Addr) (c : Nat) (L : List S42) (r : Bool) (T : Nat → Int) (w : World) (hr : Kd.C k42 w A L.length L) (hc : L.length ≤ c) (ht : TB w T) (h : fairleadlaw11_ShowLines.P k d0 d1 L ∧ r = true) :
    Calls Try.prog 5 #[.agg #[.int .i64 d0, .int .i64 d1, .slice A L.length c]] w fun e w' => e = .returned (.bool r) ∧ Below w.heap.size w w' := by
  obtain ⟨⟨b, hb, hbt⟩, rfl⟩ := h
  have HB0 := Aside0.mk (BW.init w #[.int .i64 d0, .int .i64 d1, .slice A L.length c] 26)
  have HT := Aside0.mk ht
  have HC := Aside0.mk hr
  have HCc := Aside0.mk hc
  have HAw := Aside0.mk (fun w1 (h : Below w.heap.size w w1) => awake11 T w1 (ht.below h ht.pos))
  have HLi := Aside0.mk (fun w1 (h : Below w.heap.size w w1) => fairleadlaw11_light.calls k d0 d1 A c L b w1 (Kd.C_below hr h) hc hb)
  have hu26 := Try.underlying26
  clear hr hc ht hb
  cases b with
  | false =>
    clear hbt
    go_enter Try.func5, Try.ntmps5
    go_wp2_with (first
      | (go_at_call 8; refine (HAw.out _ HB0.out.below).mono ?_; rintro e w2 ⟨rfl, h2⟩; have HB2 := Aside0.mk (HB0.out.step h2); clear h2; have z0 := (HB2.out.cell 0).trans (show _ = some (.int .i64 d0 : Value) from rfl); have z1 := (HB2.out.cell 1).trans (show _ = some (.int .i64 d1 : Value) from rfl); have z2 := (HB2.out.cell 2).trans (show _ = some (.slice A L.length c : Value) from rfl))
      | (go_at_call 9; refine (HLi.out _ HB2.out.below).mono ?_; rintro e w3 ⟨rfl, h3⟩; have HB3 := Aside0.mk (HB2.out.step h3); clear h3))
    go_ret
    exact ⟨rfl, HB3.out.below⟩
  | true =>
    obtain ⟨r, hr1, hrt⟩ := hbt rfl
    clear hbt
    cases r with
    | false =>
      have HTx := Aside0.mk (fun w1 (h : Below w.heap.size w w1) => show_Text_false k d0 d1 A c L w1 (Kd.C_below HC.out h) HCc.out hr1)
      clear hrt hr1
      go_enter Try.func5, Try.ntmps5
      go_wp2_with (first
        | (go_at_call 8; refine (HAw.out _ HB0.out.below).mono ?_; rintro e w2 ⟨rfl, h2⟩; have HB2 := Aside0.mk (HB0.out.step h2); clear h2; have z0 := (HB2.out.cell 0).trans (show _ = some (.int .i64 d0 : Value) from rfl); have z1 := (HB2.out.cell 1).trans (show _ = some (.int .i64 d1 : Value) from rfl); have z2 := (HB2.out.cell 2).trans (show _ = some (.slice A L.length c : Value) from rfl))
        | (go_at_call 9; refine (HLi.out _ HB2.out.below).mono ?_; rintro e w3 ⟨rfl, h3⟩; have HB3 := Aside0.mk (HB2.out.step h3); clear h3 z0 z1 z2; have z0 := (HB3.out.cell 0).trans (show _ = some (.int .i64 d0 : Value) from rfl); have z1 := (HB3.out.cell 1).trans (show _ = some (.int .i64 d1 : Value) from rfl); have z2 := (HB3.out.cell 2).trans (show _ = some (.slice A L.length c : Value) from rfl))
        | (go_at_call 10; refine (HTx.out _ HB3.out.below).mono ?_; rintro e w4 ⟨rfl, h4⟩; have HB4 := Aside0.mk (HB3.out.step h4); clear h4))
      go_ret
      exact ⟨rfl, HB4.out.below⟩
    | true =>
      obtain ⟨hk, ha, hL, hR, hr2, hTx⟩ := hrt rfl
      obtain ⟨t1, t2, t3, t4, t5⟩ := hTx T
      have HTx := Aside0.mk (fun w1 (h : Below w.heap.size w w1) => show_Text_true k d0 d1 A c L w1 (Kd.C_below HC.out h) HCc.out hr1 hk ha hL hR T (HT.out.below h HT.out.pos))
      have HR2 := Aside0.mk hr2
      have HKA := Aside0.mk (And.intro hk ha)
      have HRu := Aside0.mk hR
      clear hrt hr1 hTx hr2 hk ha hR
      generalize hS : TEXT T d0 d1 L = S at HTx t1 t2 t3 t4 t5
      have HS := Aside0.mk hS
      have H4 := Aside0.mk t4
      have H5 := Aside0.mk t5
      have H3 := Aside0.mk t3
      clear hS t4 t5 t3
      go_enter Try.func5, Try.ntmps5
      go_wp2_with (first
        | (go_at_call 8; refine (HAw.out _ HB0.out.below).mono ?_; rintro e w2 ⟨rfl, h2⟩; have HB2 := Aside0.mk (HB0.out.step h2); clear h2; have z0 := (HB2.out.cell 0).trans (show _ = some (.int .i64 d0 : Value) from rfl); have z1 := (HB2.out.cell 1).trans (show _ = some (.int .i64 d1 : Value) from rfl); have z2 := (HB2.out.cell 2).trans (show _ = some (.slice A L.length c : Value) from rfl))
        | (go_at_call 9; refine (HLi.out _ HB2.out.below).mono ?_; rintro e w3 ⟨rfl, h3⟩; have HB3 := Aside0.mk (HB2.out.step h3); clear h3 z0 z1 z2; have z0 := (HB3.out.cell 0).trans (show _ = some (.int .i64 d0 : Value) from rfl); have z1 := (HB3.out.cell 1).trans (show _ = some (.int .i64 d1 : Value) from rfl); have z2 := (HB3.out.cell 2).trans (show _ = some (.slice A L.length c : Value) from rfl))
        | (go_at_call 10; refine (HTx.out _ HB3.out.below).mono ?_; rintro e w4 ⟨rfl, h4⟩; have HB4 := Aside0.mk (HB3.out.step h4); clear h4 z0 z1 z2; have z0 := (HB4.out.cell 0).trans (show _ = some (.int .i64 d0 : Value) from rfl); have z1 := (HB4.out.cell 1).trans (show _ = some (.int .i64 d1 : Value) from rfl); have z2 := (HB4.out.cell 2).trans (show _ = some (.slice A L.length c : Value) from rfl)))
      have HZ := Aside0.mk (And.intro z0 (And.intro z1 z2))
      clear z0 z1 z2
      go_loopg [7, 8] (S.size + 1) (fun kq v7 v8 w' => ∃ (n i : Int) (j : Nat), v7 = .int .i64 n ∧ v8 = .int .i64 i ∧ Aside0 (i = (j : Int)) ∧ Aside0 (j ≤ S.size) ∧ Aside0 (S.size - j < kq) ∧ Aside0 (n = ((S.data.toList.take j).count 10 : Int)) ∧ w' = w4)
      case atStart => exact ⟨0, 0, 0, rfl, rfl, ⟨rfl⟩, ⟨Nat.zero_le _⟩, ⟨by omega⟩, ⟨rfl⟩, rfl⟩
      case round =>
        obtain ⟨n, i, j, rfl, rfl, hi, hj, hk2, hn, rfl⟩ := hrel
        obtain ⟨k2, rfl⟩ : ∃ k2, gk = k2 + 1 := ⟨gk - 1, by have := hk2.out; omega⟩
        by_cases hlt : i < (S.size : Int)
        · have b1 : decide (i < (S.size : Int)) = true := decide_eq_true hlt
          have hjl : j < S.size := by have := hi.out; omega
          have hx := idx_str S i j hi.out hjl
          have hjl' : j < S.data.toList.length := by rw [Array.length_toList]; exact hjl
          have hcn : Aside0 (((S.data.toList.take (j + 1)).count 10 : Int) = ((S.data.toList.take j).count 10 : Int) + (if S.data.toList.getD j 0 = 10 then 1 else 0)) := ⟨by
            rw [List.take_add_one, List.getElem?_eq_getElem hjl', List.count_append, List.getD_eq_getElem?_getD, List.getElem?_eq_getElem hjl']
            show ((List.count 10 (List.take j S.data.toList) + List.count 10 [S.data.toList[j]] : Nat) : Int) = _ + (if S.data.toList[j] = 10 then (1 : Int) else 0)
            rw [List.count_singleton]
            by_cases he : S.data.toList[j] = 10
            · rw [if_pos he, if_pos (by rw [he]; rfl)]; rfl
            · rw [if_neg he, if_neg (fun h => he (eq_of_beq h))]; rfl⟩
          have hnn : 0 ≤ n ∧ n ≤ (j : Int) := by
            have := hn.out
            have h2 : (S.data.toList.take j).count 10 ≤ (S.data.toList.take j).length := List.count_le_length
            rw [List.length_take] at h2
            omega
          have hi1 : wrap64 (i + 1) = ((j + 1 : Nat) : Int) := by have := hi.out; unfold wrap64; omega
          have hn1 : wrap64 (n + 1) = n + 1 := by unfold wrap64; omega
          generalize S.data.toList.getD j 0 = y at hx hcn
          by_cases hy : y = 10
          · have e0 : ((y.toNat : Int) == 10) = true := by rw [hy]; rfl
            subst hy
            clear hjl' hnn
            go_wp2
            go_roundg k2
            case measure => have := hk2.out; omega
            case rel => exact ⟨n + 1, ((j + 1 : Nat) : Int), j + 1, by first | rfl | (rw [← hn1]; done) | (simp [hn1]; done), by first | rfl | (rw [← hi1]; done) | (simp [hi1]; done), ⟨rfl⟩, ⟨hjl⟩, ⟨by have := hk2.out; omega⟩, ⟨by have h2 := hn.out; rw [hcn.out, if_pos trivial]; omega⟩, rfl⟩
          · have e0 : ((y.toNat : Int) == 10) = false := by
              rw [beq_eq_false_iff_ne]
              intro he
              exact hy (UInt8.toNat_inj.1 (by have h3 : y.toNat = 10 := by omega
                                              rw [h3]; rfl))
            have hy' := Aside0.mk hy
            clear hy hjl' hnn
            go_wp2
            go_roundg k2
            case measure => have := hk2.out; omega
            case rel => exact ⟨n, ((j + 1 : Nat) : Int), j + 1, rfl, by first | rfl | (rw [← hi1]; done) | (simp [hi1]; done), ⟨rfl⟩, ⟨hjl⟩, ⟨by have := hk2.out; omega⟩, ⟨by rw [hcn.out, if_neg hy'.out, hn.out]; omega⟩, rfl⟩
        · have b1 : decide (i < (S.size : Int)) = false := decide_eq_false hlt
          have hjS : j = S.size := by have := hi.out; have := hj.out; omega
          have hnn : n = 1 + (L.length : Int) := by
            rw [hn.out, hjS, List.take_of_length_le (by rw [Array.length_toList]; exact Nat.le_refl _), H3.out]; omega
          have hw1 : wrap64 (1 + (L.length : Int)) = 1 + L.length := by unfold wrap64; omega
          have hw2 : wrap64 ((S.size : Int) - 1) = S.size - 1 := by unfold wrap64; omega
          have hxl := idx_str S ((S.size : Int) - 1) (S.size - 1) (by omega) (by omega)
          rw [H4.out] at hxl
          obtain ⟨z0, z1, z2⟩ := HZ.out
          subst hnn hjS
          clear hi hj hk2 hn hlt
          by_cases hL0 : L = []
          · subst hL0
            go_wp2
            go_ret
            exact ⟨rfl, HB4.out.below⟩
          · have hlp : 1 ≤ L.length := by rcases Nat.eq_zero_or_pos L.length with h | h; exact absurd (List.eq_nil_of_length_eq_zero h) hL0; exact h
            obtain ⟨H6, H7⟩ := H5.out hL0
            have e1 : ((L.length : Int) == 0) = false := by rw [beq_eq_false_iff_ne]; omega
            obtain ⟨L2, hL2⟩ : ∃ L2, L2 = L.take (L.length - 1) := ⟨_, rfl⟩
            have hlt2 : Aside0 (L2.length = L.length - 1) := ⟨by rw [hL2, List.length_take]; omega⟩
            have HR3 := Aside0.mk (show show_Right.f k d0 d1 L2 = some true by rw [hL2]; exact HR2.out)
            have HC2 := Aside0.mk (fun w1 (h : Below w.heap.size w w1) => (show Kd.C k42 w1 A L2.length L2 by rw [hL2]; exact Kd.C_take (Kd.C_below HC.out h) (by omega)))
            have HRu2 := Aside0.mk (show ∀ x ∈ L2, RuleOk x from fun x hx => HRu.out x (List.mem_of_mem_take (by rw [hL2] at hx; exact hx)))
            rw [← hL2] at H6 H7
            have hw3 : wrap64 ((L.length : Int) - 1) = L.length - 1 := by unfold wrap64; omega
            clear hL0 hL2 HR2
            have hsz4 : ∀ W : World, (sizeOf (Try.prog.elem 24)).run Try.prog W = .ok 4 W := fun _ => by kernel_rfl
            have hsl : ∀ W : World, (Instr.sliceAt 24 (.slice A L.length c) none (some (.int .i64 ((L.length : Int) - 1))) none).run Try.prog W = .ok (.slice A L2.length c) W := fun W => by
              have hue : Try.prog.underlying 24 = some (.slice (Try.prog.elem 24)) := by kernel_rfl
              have ha : (A.map fun x => x.add (0 * 4)) = A := by cases A <;> simp [Addr.add]
              have hn : ((L.length : Int) - 1).toNat - 0 = L2.length := by rw [hlt2.out]; omega
              rw [run_sliceAt_slice W 24 _ _ _ _ hue, run_slice_h W 24 A L.length c hue .i64 _ (by omega) (by have := HCc.out; omega), hsz4]
              show Result.ok (sliced A 0 ((L.length : Int) - 1).toNat c 4) W = _
              unfold sliced
              rw [ha, hn]
              simp
            clear hsz4
            have za := fun o : Obj => ((HB4.out.alloc o).cell 2).trans (show _ = some (.slice A L.length c : Value) from rfl)
            have HT2 := Aside0.mk (fun w1 (h : Below w.heap.size w w1) => show_Text_true k d0 d1 A c L2 w1 (HC2.out w1 h) (by have := HCc.out; have := hlt2.out; omega) HR3.out HKA.out.1 HKA.out.2 (by have := hlt2.out; omega) HRu2.out T (HT.out.below h HT.out.pos))
            generalize TEXT T d0 d1 L2 = S2 at HT2 H6 H7
            have b7 : decide ((S2.size : Int) < (S.size : Int)) = true := decide_eq_true (by omega)
            have H6' := Aside0.mk H6
            have H7' := Aside0.mk H7
            clear H7 H6
            go_wp2_with (first
              | (go_at_call 10; refine (HT2.out _ (HB4.out.alloc _).below).mono ?_; rintro e w6 ⟨rfl, h6⟩; have HB6 := Aside0.mk ((HB4.out.alloc _).step h6); clear h6))
            all_goals first
              | (exfalso; have := H6'.out; omega)
              | (go_ret; refine ⟨?_, HB6.out.below⟩; show Ending.returned (Value.bool ((S.extract 0 S2.size).toList == S2.toList)) = _; rw [H7'.out]; simp)
end Go.Proofs.Ytmmgcbafdmkhbaa.M
