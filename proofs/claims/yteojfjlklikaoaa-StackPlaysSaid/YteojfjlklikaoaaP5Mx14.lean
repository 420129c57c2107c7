-- Laid by a program (wip/tools/myprint.py) out of the loaded program's own print: for each Go function a Lean function and the proof of its contract.
import Derived.Test.YteojfjlklikaoaaP5Mx0
import Derived.Test.YteojfjlklikaoaaP5Mx6
import Derived.Test.YteojfjlklikaoaaP5Mx7
import Derived.Test.YteojfjlklikaoaaP5Mx13
namespace Go.Proofs.Yteojfjlklikaoaa.M
open Go.RowKit Go.Proofs.YteojfjlklikaoaaW.PrintWords Go.Proofs.YteojfjlklikaoaaW.PrintLast Go.Proofs.YteojfjlklikaoaaW.PrintMore
attribute [local go_sem] max2_int min2_int max_two min_two max_three min_three max_four min_four   -- for this text's walks alone
set_option linter.unusedVariables false
set_option linter.unusedSimpArgs false
-- HAND rounds=True making=True
set_option maxHeartbeats 8000000 in
set_option maxRecDepth 100000 in
theorem fairleadref15_Stack_Run.sk (k : Nat) (g : Nat) (L : List (List S53)) (d0 d1 d2 d3 d4 d5 d6 d7 d8 : Int) (val : List S53 → Int) (m : Int) (ok : Nat → Prop) (w : World) (hs : RkS ok w g L) (hv : ∀ l ∈ L, ∃ n e, fairleadref06_Run.f k l d0 d1 d2 d3 d4 d5 d6 d7 d8 = some (val l, n, e)) (hm : fairleadref07_Most.f k (stVals val L) = some m) (hL : L.length ≤ 32) :
    Calls Try.prog 16 #[.pointer (some ⟨g, 0, none⟩), .agg #[.int .u32 d0, .int .u32 d1, .int .u64 d2, .int .u64 d3, .int .u64 d4, .int .u64 d5, .int .u64 d6, .int .u64 d7, .int .u64 d8]] w fun e w' => e = .returned (.tuple #[.int .u32 m, .int .i64 (stFind m (stVals val L) ((L.length : Int) - 1))]) ∧ Below w.heap.size w w' := by
  have HS := Aside0.mk hs
  have HV := Aside0.mk hv
  have HM := Aside0.mk hm
  obtain ⟨A, c, hb, hl, hR, hC⟩ := hs.open_
  have z0 := (blk_cell hb 0).trans (show _ = some (.slice A L.length c : Value) from rfl)
  have HL := Aside0.mk hl
  have HCr := Aside0.mk hC
  have hu27_ := Try.underlying27
  clear hs hv hm hb hl hR hC
  go_enter Try.func16, Try.ntmps16
  go_wp2_with (first | ((with_reducible refine gate_dst (N := 3) rfl ?_); refine box_event ?hg (N := 3) ?hd (cs := #[.int .u32 d0, .int .u32 d1, .int .u64 d2, .int .u64 d3, .int .u64 d4, .int .u64 d5, .int .u64 d6, .int .u64 d7, .int .u64 d8]) (t := 27) ?hr ?_; (case hd => rfl); (case hg => rfl); (case hr => first | (go_simp; done) | (go_simp; rfl)); intro gd hg w1 hbox hb; have GD := Aside0.mk hg; have B1 := Aside0.mk hbox; have W1 := Aside0.mk hb; have z1_ := z0; have z1 := pw_cell_below hb z0; clear hg hbox hb))
  go_loopg [6, 7] (L.length + 1) (fun kq v6 v7 w' => ∃ (x : Int) (j : Nat), v7 = .int .i64 x ∧ Aside0 (x = (j : Int) - 1) ∧ Aside0 (j ≤ L.length) ∧ Aside0 (j < kq) ∧ Aside0 (RunK w w' gd #[.int .u32 d0, .int .u32 d1, .int .u64 d2, .int .u64 d3, .int .u64 d4, .int .u64 d5, .int .u64 d6, .int .u64 d7, .int .u64 d8] v6 (stVals val (L.drop j))))
  case atStart => exact ⟨(L.length : Int) - 1, L.length, by first | rfl | simp, ⟨rfl⟩, ⟨Nat.le_refl _⟩, ⟨Nat.lt_succ_self _⟩, ⟨⟨B1.out, by rw [List.drop_length]; exact Kd.R_nil _ _ _ _ _, W1.out⟩⟩⟩
  case round =>
    clear B1 GD
    obtain ⟨x, j, rfl, hx, hj, hjk, hR⟩ := hrel
    obtain ⟨k1, rfl⟩ : ∃ k1, gk = k1 + 1 := ⟨gk - 1, by have := hjk.out; omega⟩
    cases j with
    | zero =>
      have hx' : x = -1 := by have := hx.out; omega
      subst hx'
      have HB := Aside0.mk hR.out.below
      obtain ⟨A6, c6, e6, hl6, hC6⟩ := Kd.R_reads hR.out.row
      rw [List.drop_zero] at e6 hl6 hC6
      subst e6
      have hvl : (stVals val L).length = L.length := stVals_len val L
      obtain ⟨vs, hvs⟩ : ∃ vs, vs = stVals val L := ⟨_, rfl⟩
      have HVs := Aside0.mk hvs
      rw [← hvs] at hl6 hC6 hvl ⊢
      have HM' := Aside0.mk (show fairleadref07_Most.f k vs = some m by rw [HVs.out]; exact HM.out)
      have Hl6 := Aside0.mk hl6
      have HC6 := Aside0.mk hC6
      have HVl := Aside0.mk hvl
      clear hl6 hC6 hvl hvs
      go_wp2_with (first | (go_at_call 26; (refine (fairleadref07_Most.calls k A6 c6 vs m _ HC6.out Hl6.out HM'.out).mono ?_); rintro e w2 ⟨rfl, hb2⟩; have HB2 := Aside0.mk hb2; clear hb2))
      have z2 := pw_cell_below HB2.out (pw_cell_below HB.out z1_)
      have HC2 := Aside0.mk (Kd.C_below HC6.out HB2.out)
      have HN := Aside0.mk (show stFind m (vs.drop 0) ((L.length : Int) - 1 - (0 : Nat)) = stFind m vs ((L.length : Int) - 1) by rw [List.drop_zero]; congr 1; omega)
      go_loopg [12] (vs.length + 1) (fun kq v12 w' => ∃ (i : Int) (j : Nat), v12 = .int .i64 i ∧ Aside0 (i = (j : Int)) ∧ Aside0 (j ≤ vs.length) ∧ Aside0 (vs.length - j < kq) ∧ w' = w2 ∧ Aside0 (stFind m (vs.drop j) ((L.length : Int) - 1 - j) = stFind m vs ((L.length : Int) - 1)))
      case atStart => exact ⟨0, 0, rfl, ⟨rfl⟩, ⟨Nat.zero_le _⟩, ⟨by omega⟩, rfl, HN⟩
      case round =>
        clear HN
        obtain ⟨i, j, rfl, hi, hj, hk2, rfl, HF⟩ := hrel
        obtain ⟨k2, rfl⟩ : ∃ k2, gk = k2 + 1 := ⟨gk - 1, by have := hk2.out; omega⟩
        by_cases hlt : i < (vs.length : Int)
        · have b1 : decide (i < (vs.length : Int)) = true := decide_eq_true hlt
          have p1 : 0 ≤ i := by have := hi.out; omega
          obtain ⟨ad6, e6, xi⟩ := Kd.at_int HC2.out i p1 hlt
          cases e6
          have hjl : j < vs.length := by have := hi.out; omega
          have hrd : rd vs i = vs[j] := by rw [hi.out]; simp [rd, List.getElem?_eq_getElem hjl]
          have hdr := List.drop_eq_getElem_cons hjl
          have HF' := HF.out
          rw [hdr, ← hrd] at HF'
          have HRest := Aside0.mk HF'
          clear hrd hdr HF' HF
          by_cases hm : rd vs i = m
          · have b2 : (rd vs i == m) = true := beq_iff_eq.2 hm
            have HF2 := HRest.out
            rw [stFind, if_pos hm] at HF2
            have HF3 := Aside0.mk HF2
            clear HF2 hm
            go_wp2
            have z2_ : wr.drew.cell? ⟨g, 0, none⟩ = some (.slice A L.length c) := z2
            refine start_ (n := 11) (S := fun w' => w'.cell? ⟨g, 0, none⟩ = some (.slice A L.length c)) (ds := []) #[false, false, false, false, false, false, false, false, false, false, false] (by kernel_rfl) rfl rfl (z2_) (fun hHeld => ?_)
            refine Mine.pS 0 (some 54) ?_; refine Mine.pS 1 (some 55) ?_; refine Mine.pS 2 (some 56) ?_; refine Mine.pS 3 (some 57) ?_; refine Mine.pS 7 (some 61) ?_; refine Mine.pS 9 (some 4) ?_; refine Mine.tS 4 (some 58) hHeld ?_; refine Mine.pS 5 (some 59) ?_; refine Mine.pS 6 (some 60) ?_; refine Mine.pS 8 (some 62) ?_; refine Mine.pS 10 (some 5) ?_
            refine done_ (by kernel_rfl) ?_
            go_wp2
            go_ret2
            refine ⟨?_, below_step (below_step HB.out HB2.out) (below_drew (Below.refl _ _))⟩
            show Ending.returned (.tuple #[.int .u32 m, .int .i64 (wrap64 (wrap64 ((L.length : Int) - 1) - i))]) = _
            rw [← HVs.out, ← HF3.out, show wrap64 ((L.length : Int) - 1) = (L.length : Int) - 1 by (unfold wrap64; omega), show wrap64 ((L.length : Int) - 1 - i) = (L.length : Int) - 1 - j by (have := hi.out; have := HVl.out; unfold wrap64; omega)]
          · have b2 : (rd vs i == m) = false := beq_eq_false_iff_ne.2 hm
            have HF2 := HRest.out
            rw [stFind, if_neg hm] at HF2
            have HF3 := Aside0.mk HF2
            clear HF2 hm
            go_wp2
            go_roundg k2
            case measure => omega
            case rel => exact ⟨i + 1, j + 1, by rw [show wrap64 (i + 1) = i + 1 by (have := HVl.out; unfold wrap64; omega)], ⟨by have := hi.out; omega⟩, ⟨hjl⟩, ⟨by have := hk2.out; omega⟩, rfl, ⟨by rw [← HF3.out]; congr 1; omega⟩⟩
        · have b1 : decide (i < (vs.length : Int)) = false := decide_eq_false hlt
          have hF := HF.out
          rw [List.drop_of_length_le (by have := hi.out; omega), stFind] at hF
          have HF2 := Aside0.mk hF
          clear hF
          go_wp2
          go_ret2
          exact ⟨by show Ending.returned (.tuple #[.int .u32 m, .int .i64 (-1)]) = _; rw [← HVs.out, ← HF2.out], below_step HB.out HB2.out⟩
    | succ j =>
      have q0 : decide (0 ≤ x) = true := decide_eq_true (by have := hx.out; omega)
      have p1 : 0 ≤ x := by have := hx.out; omega
      have q1 : x < (L.length : Int) := by have := hx.out; have := hj.out; omega
      have zr := pw_cell_below hR.out.below z1_
      obtain ⟨ad, A', c', eA, zi, hlc, hCr⟩ := Mine.C_row (Kd.C_below HCr.out hR.out.below) x p1 q1
      cases eA
      obtain ⟨n_, e_, hval⟩ := HV.out (L.getD x.toNat []) (by rw [List.getD_eq_getElem?_getD, List.getElem?_eq_getElem (by omega)]; exact List.getElem_mem _)
      obtain ⟨li, hli⟩ : ∃ li, li = L.getD x.toNat [] := ⟨_, rfl⟩
      rw [← hli] at zi hlc hCr hval
      have HLi := Aside0.mk hli
      clear hli
      have HLc := Aside0.mk hlc
      have HCi := Aside0.mk hCr
      have HVl := Aside0.mk hval
      have HGd := Aside0.mk hR.out.bd
      clear hlc hCr hval
      go_wp2
      have zr_ : wr.drew.cell? ⟨g, 0, none⟩ = some (.slice (some ad) L.length c) := zr
      have zi_ : wr.drew.cell? (ad.add x.toNat) = some (.slice A' li.length c') := zi
      refine start_ (n := 16) (S := fun w' => w'.cell? ⟨g, 0, none⟩ = some (.slice (some ad) L.length c) ∧ w'.cell? (ad.add x.toNat) = some (.slice A' li.length c') ∧ w'.heap[gd]? = some (.cells #[.int .u32 d0, .int .u32 d1, .int .u64 d2, .int .u64 d3, .int .u64 d4, .int .u64 d5, .int .u64 d6, .int .u64 d7, .int .u64 d8] 27 (0, 0))) (ds := []) #[false, false, false, false, false, false, false, false, false, false, false, false, false, false, false, false] (by kernel_rfl) rfl rfl ⟨zr_, zi_, HGd.out⟩ (fun hHeld => ?_)
      refine Mine.pS 0 (some 24) ?_; refine Mine.pS 1 (some 25) ?_; refine Mine.pS 2 (some 26) ?_; refine Mine.pS 4 (some 28) ?_; refine Mine.tS 3 (some 27) hHeld ?_; refine Mine.pS 5 (some 29) ?_; refine Mine.tS 6 (some 30) hHeld ?_
      refine take_ (i := 7) (N := some 31) (v := ?_) (a' := ?_) #[true, true, true, true, true, true, true, true, false, false, false, false, false, false, false, false] rfl rfl (by kernel_rfl) (fun _ _ _ h => h) (Or.inl ⟨by rfl, ?_⟩) hHeld ?_ ?_
      rotate_left
      · rintro w' ⟨s0, s1, s2⟩
        refine Eq.trans (Mine.op_load_row 27 (.tmp 3) (by rfl) gd (by rfl) 27 #[.int .u32 d0, .int .u32 d1, .int .u64 d2, .int .u64 d3, .int .u64 d4, .int .u64 d5, .int .u64 d6, .int .u64 d7, .int .u64 d8] (0, 0) _ s2 hu27_ rfl (by kernel_rfl)) ?_
        with_reducible rfl
      rotate_left
      · simp only [Act.put, List.setIfInBounds_toArray, List.set_cons_zero, List.set_cons_succ, i64_w, i32_w]
        rfl
      refine one_ (i := 8) (N := some 32) #[true, true, true, true, true, true, true, true, true, false, false, false, false, false, false, false] rfl rfl (by kernel_rfl) (by decide) (fun K hK => ?_)
      refine goes_ Try.func25 (by kernel_rfl) rfl #[.slice A' li.length c', .agg #[.int .u32 d0, .int .u32 d1, .int .u64 d2, .int .u64 d3, .int .u64 d4, .int .u64 d5, .int .u64 d6, .int .u64 d7, .int .u64 d8]] (by rfl) rfl rfl (by simp only [List.map_toArray, List.map_cons, List.map_nil]; rfl) ?_
      with_reducible refine (fairleadref06_Run.calls k A' c' li d0 d1 d2 d3 d4 d5 d6 d7 d8 _ n_ e_ wr.drew (Kd.C_drew HCi.out) HLc.out HVl.out).mono ?_
      rintro e w3 ⟨rfl, hb3⟩
      refine ⟨_, rfl, ?_⟩
      have HB3 := Aside0.mk hb3
      have yr := pw_cell_below hb3 zr_
      have yi := pw_cell_below hb3 zi_
      have HG3 := Aside0.mk (blk_below (w := wr.drew) HGd.out hb3)
      clear hb3
      refine hK.out _ _ ⟨yr, yi, HG3.out⟩ (fun hHeld => ?_)
      clear hK K
      refine norm_ (a' := ?_) ?_ ?_
      rotate_left
      · show Act.put _ (some 32) _ = _
        simp only [Act.put, List.setIfInBounds_toArray, List.set_cons_zero, List.set_cons_succ, i64_w, i32_w]
        rfl
      refine Mine.pS 9 (some 23) ?_; refine Mine.pS 10 (some 33) ?_; refine Mine.pS 11 (some 34) ?_; refine Mine.pS 12 (some 35) ?_; refine Mine.pS 13 (some 8) ?_; refine Mine.pS 14 (some 9) ?_; refine Mine.pS 15 (some 10) ?_
      refine done_ (by kernel_rfl) ?_
      go_wp2_with (first | ((with_reducible refine gate_builtin (b := .append) (xs := #[.tmp 36, .tmp 38]) rfl ?_); at_builtin; refine Kd.R_append (Kd.int .u32) (w0 := w) w.heap.size rfl (.tmp 36) (.tmp 38) 61 23 (.int .u32 0) 4 rfl Try.underlying61 info23 rfl (by decide) (by omega) u6 (stVals val (L.drop (j + 1))) (val li) [.int .u32 (val li)] (fun k => k ≠ gd) (fun _ => False) rfl rfl rfl (fun _ hk => hk.elim) (fun k hk e => by have := blk_lt HG3.out; omega) (Kd.R_below (Kd.R_drew hR.out.row) HB3.out) (below_step (below_drew hR.out.below) HB3.out) (below_step (below_drew hR.out.below) HB3.out).size (by rw [stVals_len, List.length_drop]; omega) ?_; intro v9 w9 ho hb hg hat; have HR9 := Aside0.mk (⟨blk_grown HG3.out hg (fun e => (hR.out.row.1 gd e.symm) rfl), ho, hb⟩ : RunK w w9 gd #[.int .u32 d0, .int .u32 d1, .int .u64 d2, .int .u64 d3, .int .u64 d4, .int .u64 d5, .int .u64 d6, .int .u64 d7, .int .u64 d8] v9 (stVals val (L.drop (j + 1)) ++ [val li])); clear ho hb hg hat))
      go_roundg k1
      case measure => omega
      case rel => exact ⟨x - 1, j, by first | rfl | simp, ⟨by have := hx.out; omega⟩, ⟨by have := hj.out; omega⟩, ⟨by have := hjk.out; omega⟩, ⟨by rw [stVals_drop val L j (by have := hj.out; omega), show L.getD j [] = li from by rw [HLi.out, show x.toNat = j by have := hx.out; omega]]; exact HR9.out⟩⟩
end Go.Proofs.Yteojfjlklikaoaa.M
