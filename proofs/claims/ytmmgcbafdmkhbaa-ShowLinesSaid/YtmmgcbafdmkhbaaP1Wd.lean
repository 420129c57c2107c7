import Derived.Test.YtmmgcbafdmkhbaaP1Num
namespace Go.Proofs.Ytmmgcbafdmkhbaa.M
open Go Go.RowKit Go.Proofs.YtmmgcbafdmkhbaaW.PrintWords Go.Proofs.YtmmgcbafdmkhbaaW.PrintLast Go.Proofs.YtmmgcbafdmkhbaaW.PrintMore Go.Proofs
set_option linter.unusedVariables false
set_option linter.unusedSimpArgs false
def bs (l : List UInt8) : ByteArray := ⟨l.toArray⟩
theorem bs_size (l : List UInt8) : (bs l).size = l.length := by simp [bs, ByteArray.size]
theorem num_size (T : Nat → Int) (u : Nat) (h : u < 18446744073709551616) : (NUM T u).size ≤ 20 := by
  unfold NUM
  by_cases hs : u < 100
  · rw [if_pos hs]
    show (bs (Lib.decDigits u)).size ≤ 20
    rw [bs_size, Lib.decDigits_length]
    rcases Nat.eq_zero_or_pos u with rfl | h1
    · unfold Lib.nDigits; simp
    · obtain ⟨hnd, h19⟩ := Lib.numDigits_eq u h1 h
      split at hnd <;> omega
  · rw [if_neg hs]
    show (bs (FBU (ND T u) u)).size ≤ 20
    rw [bs_size]
    unfold FBU
    rw [List.length_map, fbl_len]
    exact (nd_le T u (by omega) h).1
/-- An act's word. -/
def AWORD (k : Int) : ByteArray := if k = 1 then bs [107, 105, 108, 108] else if k = 2 then bs [116, 104, 114, 101, 97, 100] else if k = 3 then bs [116, 114, 97, 112] else if k = 4 then bs [101, 114, 114, 110, 111] else if k = 5 then bs [110, 111, 116, 105, 102, 121] else if k = 6 then bs [116, 114, 97, 99, 101] else if k = 7 then bs [108, 111, 103] else bs [97, 108, 108, 111, 119]
/-- An act's words. -/
def ACTW (T : Nat → Int) (k a : Int) : ByteArray := if k = 3 ∨ k = 4 ∨ k = 6 then AWORD k ++ (bs [32] ++ NUM T a.toNat) else AWORD k
set_option maxHeartbeats 8000000 in
set_option maxRecDepth 100000 in
theorem act_words (k a : Int) (hk : 1 ≤ k ∧ k ≤ 8) (ha : 0 ≤ a ∧ a ≤ 65535) (T : Nat → Int) (w : World) (ht : TB w T) :
    Calls Try.prog 70 #[.agg #[.int .i64 k, .int .i64 a]] w fun e w' => e = .returned (.string (ACTW T k a)) ∧ Below w.heap.size w w' := by
  have HT := Aside0.mk ht
  obtain ⟨n, rfl⟩ : ∃ n : Nat, a = n := ⟨a.toNat, by omega⟩
  have HN := Aside0.mk (show n < 9223372036854775808 by omega)
  have hsz := num_size T n (by omega)
  have hc8 : k = 1 ∨ k = 2 ∨ k = 3 ∨ k = 4 ∨ k = 5 ∨ k = 6 ∨ k = 7 ∨ k = 8 := by omega
  clear ht ha hk
  have hu44 := Try.underlying44
  rcases hc8 with rfl | rfl | rfl | rfl | rfl | rfl | rfl | rfl
  all_goals
    go_enter Try.func70, Try.ntmps70
    go_wp2_with (go_at_call 71; (with_reducible refine (strconv_Itoa_any n HN.out T _ ((HT.out.alloc _).alloc _)).mono ?_); rintro e w' ⟨rfl, hb⟩)
    all_goals first
      | (exfalso; omega)
      | (go_ret; exact ⟨rfl, below_alloc (below_alloc (Below.refl _ _) _) _⟩)
      | (go_ret; exact ⟨rfl, (below_alloc (below_alloc (Below.refl _ _) _) _).trans (hb.mono (by simp only [World.size_alloc]; omega))⟩)
/-- An operator's sign. -/
def SIGN (o : Int) : ByteArray := if o = 1 then bs [61, 61] else if o = 2 then bs [33, 61] else if o = 3 then bs [60] else if o = 4 then bs [60, 61] else if o = 5 then bs [62] else bs [62, 61]
/-- A condition's words, up to its sign. -/
def CONDA (T : Nat → Int) (c : S39) : ByteArray := if c.f2 = 18446744073709551615 then bs [97, 114, 103] ++ NUM T c.f0.toNat else bs [97, 114, 103] ++ NUM T c.f0.toNat ++ (bs [32, 38, 32] ++ NUM T c.f2.toNat)
/-- A condition's words. -/
def CONDW (T : Nat → Int) (c : S39) : ByteArray := CONDA T c ++ bs [32] ++ SIGN c.f1 ++ bs [32] ++ NUM T c.f3.toNat
/-- A call's box and its row of texts, in the blocks that it made. -/
structure CW (w w' : World) (cs ss : Array Value) (t : Nat) : Prop where
  below : Below w.heap.size w w'
  box : w'.heap[w.heap.size]? = some (.cells cs t (0, 0))
  row : w'.heap[w.heap.size + 1]? = some (.cells ss 9 (0, 0))
theorem CW.init (w : World) (cs ss : Array Value) (t : Nat) : CW w ((w.alloc (.cells cs t)).alloc (.cells ss 9)) cs ss t := by
  refine ⟨below_alloc (below_alloc (Below.refl _ _) _) _, ?_, ?_⟩
  · rw [Below.heap_alloc _ _ _ (by simp)]; exact blk_new _ _
  · have := blk_new (w.alloc (.cells cs t)) (.cells ss 9)
    rwa [World.size_alloc] at this
theorem CW.step {w w1 w2 : World} {cs ss : Array Value} {t : Nat} (h : CW w w1 cs ss t) (hb : Below w1.heap.size w1 w2) : CW w w2 cs ss t :=
  ⟨below_step h.below hb, (hb.block _ (blk_lt h.box)).trans h.box, (hb.block _ (blk_lt h.row)).trans h.row⟩
theorem CW.drew {w w1 : World} {cs ss : Array Value} {t : Nat} (h : CW w w1 cs ss t) : CW w w1.drew cs ss t := h.step (below_drew (Below.refl _ _))
theorem CW.tb {w w1 : World} {cs ss : Array Value} {t : Nat} (h : CW w w1 cs ss t) {T : Nat → Int} (ht : TB w T) : TB w1 T := ht.below h.below ht.pos
theorem CW.cell {w w1 : World} {cs ss : Array Value} {t : Nat} (h : CW w w1 cs ss t) (i : Nat) : w1.cell? ⟨w.heap.size, i, none⟩ = cs[i]? := blk_cell h.box i
theorem CW.cells {w w1 : World} {cs ss : Array Value} {t : Nat} (h : CW w w1 cs ss t) (i : Nat) : w1.cell? ⟨w.heap.size + 1, i, none⟩ = ss[i]? := blk_cell h.row i
set_option maxHeartbeats 8000000 in
set_option maxRecDepth 100000 in
theorem cond_words (c : S39) (h0 : 0 ≤ c.f0 ∧ c.f0 ≤ 5) (h1 : 1 ≤ c.f1 ∧ c.f1 ≤ 6) (h2 : 0 ≤ c.f2 ∧ c.f2 ≤ 18446744073709551615) (h3 : 0 ≤ c.f3 ∧ c.f3 ≤ 18446744073709551615) (T : Nat → Int) (w : World) (ht : TB w T) :
    Calls Try.prog 87 #[.agg #[.int .i64 c.f0, .int .i64 c.f1, .int .u64 c.f2, .int .u64 c.f3]] w fun e w' => e = .returned (.string (CONDW T c)) ∧ Below w.heap.size w w' := by
  obtain ⟨a, o, m, v⟩ := c
  simp only at h0 h1 h2 h3 ⊢
  have HT := Aside0.mk ht
  obtain ⟨na, rfl⟩ : ∃ n : Nat, a = n := ⟨a.toNat, by omega⟩
  obtain ⟨nm, rfl⟩ : ∃ n : Nat, m = n := ⟨m.toNat, by omega⟩
  obtain ⟨nv, rfl⟩ : ∃ n : Nat, v = n := ⟨v.toNat, by omega⟩
  have HNa := Aside0.mk (show na < 9223372036854775808 by omega)
  have HNm := Aside0.mk (show nm < 18446744073709551616 by omega)
  have HNv := Aside0.mk (show nv < 18446744073709551616 by omega)
  have hza := num_size T na (by omega)
  have hzm := num_size T nm (by omega)
  have hzv := num_size T nv (by omega)
  have ho : Aside0 (1 ≤ o ∧ o ≤ 6) := ⟨h1⟩
  have hwo : wrap64 (o - 1) = o - 1 := by unfold wrap64; omega
  have ho0 : (0 : Int) ≤ o - 1 := by omega
  have ho2 : (1 : Int) ≤ o := by omega
  have ho1 : o - 1 < 6 := by omega
  clear ht h0 h1 h2 h3
  have hu117 := Try.underlying117
  obtain ⟨SG, hSG⟩ : ∃ SG, SG = SIGN o := ⟨_, rfl⟩
  have HSG := Aside0.mk hSG
  have hzs : SG.size ≤ 2 := by rw [hSG]; unfold SIGN; (repeat' split) <;> (rw [bs_size]; decide)
  have hsg : ∀ w1 : World, CW w w1 #[.int .i64 (na : Int), .int .i64 o, .int .u64 (nm : Int), .int .u64 (nv : Int)] #[.string ⟨#[61, 61]⟩, .string ⟨#[33, 61]⟩, .string ⟨#[60]⟩, .string ⟨#[60, 61]⟩, .string ⟨#[62]⟩, .string ⟨#[62, 61]⟩] 117 → w1.cell? ⟨w.heap.size + 1, o.toNat - 1, none⟩ = some (.string SG) := fun w1 h => by
    rw [h.cells, hSG]
    have hc6 : o = 1 ∨ o = 2 ∨ o = 3 ∨ o = 4 ∨ o = 5 ∨ o = 6 := by omega
    rcases hc6 with rfl | rfl | rfl | rfl | rfl | rfl <;> rfl
  have HSg := Aside0.mk hsg
  clear hsg hSG
  by_cases hm : (nm : Int) = 18446744073709551615
  · have q0 : ((nm : Int) != 18446744073709551615) = false := by simp [hm]
    have HA := Aside0.mk (show CONDA T ⟨(na : Int), o, (nm : Int), (nv : Int)⟩ = bs [97, 114, 103] ++ NUM T na from if_pos hm)
    clear hm
    go_enter Try.func87, Try.ntmps87
    go_wp2_with (first | (go_at_call 71; (with_reducible refine (strconv_Itoa_any na HNa.out T _ ((HT.out.alloc _).alloc _)).mono ?_); rintro e w1 ⟨rfl, hb⟩; have C1 := Aside0.mk ((CW.init w _ _ _).step hb); have z1 := (C1.out.cell 1).trans (show _ = some (.int .i64 o : Value) from rfl); have z2 := (C1.out.cell 2).trans (show _ = some (.int .u64 (nm : Int) : Value) from rfl); have z3 := (C1.out.cell 3).trans (show _ = some (.int .u64 (nv : Int) : Value) from rfl); have zs := HSg.out w1 C1.out; clear hb))
    generalize hPX : (⟨#[97, 114, 103]⟩ ++ NUM T na : ByteArray) = PX
    have HPX := Aside0.mk (show CONDA T ⟨(na : Int), o, (nm : Int), (nv : Int)⟩ = PX by rw [HA.out, ← hPX]; rfl)
    have hpz : PX.size ≤ 60 := by rw [← hPX]; simp only [ByteArray.size_append]; first | (simp; omega) | (have e1 : (⟨#[97, 114, 103]⟩ : ByteArray).size = 3 := rfl; have e2 : (⟨#[32, 38, 32]⟩ : ByteArray).size = 3 := rfl; omega)
    have p1 : ¬ 9223372036854775807 < PX.size + 1 := by omega
    have p2 : ¬ 9223372036854775807 < PX.size + 1 + SG.size := by omega
    have p3 : ¬ 9223372036854775807 < PX.size + 1 + SG.size + 1 := by omega
    have p4 : ¬ 9223372036854775807 < PX.size + 1 + SG.size + 1 + (NUM T nv).size := by omega
    clear hPX
    refine start_ (n := 15) (S := fun w' => w'.cell? ⟨w.heap.size, 1, none⟩ = some (.int .i64 o) ∧ w'.cell? ⟨w.heap.size, 3, none⟩ = some (.int .u64 (nv : Int)) ∧ w'.cell? ⟨w.heap.size + 1, o.toNat - 1, none⟩ = some (.string SG)) (ds := []) #[false, false, false, false, false, false, false, false, false, false, false, false, false, false, false] (by kernel_rfl) rfl rfl ⟨z1, z3, zs⟩ (fun hHeld => ?_)
    refine pure_ (i := 0) (N := some 19) (v := ?_) (a' := ?_) #[true, false, false, false, false, false, false, false, false, false, false, false, false, false, false] rfl rfl (by kernel_rfl) (fun _ _ _ h => h) (Or.inl ⟨by rfl, ?_⟩) ?_ ?_
    rotate_left
    · intro w'
      go_simp
      with_reducible rfl
    rotate_left
    · simp only [Act.put, List.setIfInBounds_toArray, List.set_cons_zero, List.set_cons_succ, i64_w, i32_w]
      rfl
    refine pure_ (i := 1) (N := some 20) (v := ?_) (a' := ?_) #[true, true, false, false, false, false, false, false, false, false, false, false, false, false, false] rfl rfl (by kernel_rfl) (fun _ _ _ h => h) (Or.inl ⟨by rfl, ?_⟩) ?_ ?_
    rotate_left
    · intro w'
      go_simp
      with_reducible rfl
    rotate_left
    · simp only [Act.put, List.setIfInBounds_toArray, List.set_cons_zero, List.set_cons_succ, i64_w, i32_w]
      rfl
    refine pure_ (i := 2) (N := some 21) (v := ?_) (a' := ?_) #[true, true, true, false, false, false, false, false, false, false, false, false, false, false, false] rfl rfl (by kernel_rfl) (fun _ _ _ h => h) (Or.inl ⟨by rfl, ?_⟩) ?_ ?_
    rotate_left
    · intro w'
      go_simp
      with_reducible rfl
    rotate_left
    · simp only [Act.put, List.setIfInBounds_toArray, List.set_cons_zero, List.set_cons_succ, i64_w, i32_w]
      rfl
    refine pure_ (i := 3) (N := some 22) (v := ?_) (a' := ?_) #[true, true, true, true, false, false, false, false, false, false, false, false, false, false, false] rfl rfl (by kernel_rfl) (fun _ _ _ h => h) (Or.inl ⟨by rfl, ?_⟩) ?_ ?_
    rotate_left
    · intro w'
      go_simp
      with_reducible rfl
    rotate_left
    · simp only [Act.put, List.setIfInBounds_toArray, List.set_cons_zero, List.set_cons_succ, i64_w, i32_w]
      rfl
    refine pure_ (i := 10) (N := some 29) (v := ?_) (a' := ?_) #[true, true, true, true, false, false, false, false, false, false, true, false, false, false, false] rfl rfl (by kernel_rfl) (fun _ _ _ h => h) (Or.inl ⟨by rfl, ?_⟩) ?_ ?_
    rotate_left
    · intro w'
      go_simp
      with_reducible rfl
    rotate_left
    · simp only [Act.put, List.setIfInBounds_toArray, List.set_cons_zero, List.set_cons_succ, i64_w, i32_w]
      rfl
    refine take_ (i := 4) (N := some 23) (v := ?_) (a' := ?_) #[true, true, true, true, true, false, false, false, false, false, true, false, false, false, false] rfl rfl (by kernel_rfl) (fun _ _ _ h => h) (Or.inl ⟨by rfl, ?_⟩) hHeld ?_ ?_
    rotate_left
    · rintro w' ⟨s0, s1, s2⟩
      go_simp
      with_reducible rfl
    rotate_left
    · simp only [Act.put, List.setIfInBounds_toArray, List.set_cons_zero, List.set_cons_succ, i64_w, i32_w]
      rfl
    refine pure_ (i := 5) (N := some 24) (v := ?_) (a' := ?_) #[true, true, true, true, true, true, false, false, false, false, true, false, false, false, false] rfl rfl (by kernel_rfl) (fun _ _ _ h => h) (Or.inl ⟨by rfl, ?_⟩) ?_ ?_
    rotate_left
    · intro w'
      go_simp
      with_reducible rfl
    rotate_left
    · simp only [Act.put, List.setIfInBounds_toArray, List.set_cons_zero, List.set_cons_succ, i64_w, i32_w]
      rfl
    refine pure_ (i := 6) (N := some 25) (v := ?_) (a' := ?_) #[true, true, true, true, true, true, true, false, false, false, true, false, false, false, false] rfl rfl (by kernel_rfl) (fun _ _ _ h => h) (Or.inl ⟨by rfl, ?_⟩) ?_ ?_
    rotate_left
    · intro w'
      go_simp
      with_reducible rfl
    rotate_left
    · simp only [Act.put, List.setIfInBounds_toArray, List.set_cons_zero, List.set_cons_succ, i64_w, i32_w]
      rfl
    refine take_ (i := 7) (N := some 26) (v := ?_) (a' := ?_) #[true, true, true, true, true, true, true, true, false, false, true, false, false, false, false] rfl rfl (by kernel_rfl) (fun _ _ _ h => h) (Or.inl ⟨by rfl, ?_⟩) hHeld ?_ ?_
    rotate_left
    · rintro w' ⟨s0, s1, s2⟩
      go_simp
      with_reducible rfl
    rotate_left
    · simp only [Act.put, List.setIfInBounds_toArray, List.set_cons_zero, List.set_cons_succ, i64_w, i32_w]
      rfl
    refine pure_ (i := 8) (N := some 27) (v := ?_) (a' := ?_) #[true, true, true, true, true, true, true, true, true, false, true, false, false, false, false] rfl rfl (by kernel_rfl) (fun _ _ _ h => h) (Or.inl ⟨by rfl, ?_⟩) ?_ ?_
    rotate_left
    · intro w'
      go_simp
      with_reducible rfl
    rotate_left
    · simp only [Act.put, List.setIfInBounds_toArray, List.set_cons_zero, List.set_cons_succ, i64_w, i32_w]
      rfl
    refine pure_ (i := 9) (N := some 28) (v := ?_) (a' := ?_) #[true, true, true, true, true, true, true, true, true, true, true, false, false, false, false] rfl rfl (by kernel_rfl) (fun _ _ _ h => h) (Or.inl ⟨by rfl, ?_⟩) ?_ ?_
    rotate_left
    · intro w'
      go_simp
      with_reducible rfl
    rotate_left
    · simp only [Act.put, List.setIfInBounds_toArray, List.set_cons_zero, List.set_cons_succ, i64_w, i32_w]
      rfl
    refine take_ (i := 11) (N := some 30) (v := ?_) (a' := ?_) #[true, true, true, true, true, true, true, true, true, true, true, true, false, false, false] rfl rfl (by kernel_rfl) (fun _ _ _ h => h) (Or.inl ⟨by rfl, ?_⟩) hHeld ?_ ?_
    rotate_left
    · rintro w' ⟨s0, s1, s2⟩
      go_simp
      with_reducible rfl
    rotate_left
    · simp only [Act.put, List.setIfInBounds_toArray, List.set_cons_zero, List.set_cons_succ, i64_w, i32_w]
      rfl
    refine one_ (i := 12) (N := some 31) #[true, true, true, true, true, true, true, true, true, true, true, true, true, false, false] rfl rfl (by kernel_rfl) (by decide) (fun K hK => ?_)
    refine goes_ Try.func91 (by kernel_rfl) rfl #[.int .u64 (nv : Int), .int .i64 10] (by rfl) rfl rfl (by simp only [List.map_toArray, List.map_cons, List.map_nil]; rfl) ?_
    with_reducible refine (strconv_FormatUint_any nv HNv.out T w1.drew (C1.out.drew.tb HT.out)).mono ?_
    rintro e w5 ⟨rfl, hb5⟩
    refine ⟨_, rfl, ?_⟩
    have C5 := Aside0.mk (C1.out.drew.step hb5)
    have y1 := (C5.out.cell 1).trans (show _ = some (.int .i64 o : Value) from rfl)
    have y3 := (C5.out.cell 3).trans (show _ = some (.int .u64 (nv : Int) : Value) from rfl)
    have ys := HSg.out w5 C5.out
    clear hb5
    refine hK.out _ _ ⟨y1, y3, ys⟩ (fun hHeld => ?_)
    clear hK K
    refine norm_ (a' := ?_) ?_ ?_
    rotate_left
    · show Act.put _ (some 31) _ = _
      simp only [Act.put, List.setIfInBounds_toArray, List.set_cons_zero, List.set_cons_succ, i64_w, i32_w]
      rfl
    refine pure_ (i := 13) (N := some 32) (v := ?_) (a' := ?_) #[true, true, true, true, true, true, true, true, true, true, true, true, true, true, false] rfl rfl (by kernel_rfl) (fun _ _ _ h => h) (Or.inl ⟨by rfl, ?_⟩) ?_ ?_
    rotate_left
    · intro w'
      go_simp
      with_reducible rfl
    rotate_left
    · simp only [Act.put, List.setIfInBounds_toArray, List.set_cons_zero, List.set_cons_succ, i64_w, i32_w]
      rfl
    refine pure_ (i := 14) (N := some 2) (v := ?_) (a' := ?_) #[true, true, true, true, true, true, true, true, true, true, true, true, true, true, true] rfl rfl (by kernel_rfl) (fun _ _ _ h => h) (Or.inl ⟨by rfl, ?_⟩) ?_ ?_
    rotate_left
    · intro w'
      go_simp
      with_reducible rfl
    rotate_left
    · simp only [Act.put, List.setIfInBounds_toArray, List.set_cons_zero, List.set_cons_succ, i64_w, i32_w]
      rfl
    refine done_ (by kernel_rfl) ?_
    go_wp2
    go_ret
    exact ⟨by unfold CONDW; rw [HPX.out, ← HSG.out]; rfl, C5.out.below⟩
  · have q0 : ((nm : Int) != 18446744073709551615) = true := by simp [hm]
    have HA := Aside0.mk (show CONDA T ⟨(na : Int), o, (nm : Int), (nv : Int)⟩ = bs [97, 114, 103] ++ NUM T na ++ (bs [32, 38, 32] ++ NUM T nm) from if_neg hm)
    have r1 : ¬ 9223372036854775807 < 3 + (NUM T na).size := by omega
    have r2 : ¬ 9223372036854775807 < 3 + (NUM T nm).size := by omega
    have r3 : ¬ 9223372036854775807 < 3 + (NUM T na).size + (3 + (NUM T nm).size) := by omega
    clear hm
    go_enter Try.func87, Try.ntmps87
    go_wp2_with (first | (go_at_call 71; (with_reducible refine (strconv_Itoa_any na HNa.out T _ ((HT.out.alloc _).alloc _)).mono ?_); rintro e w1 ⟨rfl, hb⟩; have C1 := Aside0.mk ((CW.init w _ _ _).step hb); have z1 := (C1.out.cell 1).trans (show _ = some (.int .i64 o : Value) from rfl); have z2 := (C1.out.cell 2).trans (show _ = some (.int .u64 (nm : Int) : Value) from rfl); have z3 := (C1.out.cell 3).trans (show _ = some (.int .u64 (nv : Int) : Value) from rfl); have zs := HSg.out w1 C1.out; clear hb) | (go_at_call 91; (with_reducible refine (strconv_FormatUint_any nm HNm.out T _ (C1.out.tb HT.out)).mono ?_); rintro e w2 ⟨rfl, hb⟩; have C2 := Aside0.mk (C1.out.step hb); clear z1 z2 z3 zs; have z1 := (C2.out.cell 1).trans (show _ = some (.int .i64 o : Value) from rfl); have z3 := (C2.out.cell 3).trans (show _ = some (.int .u64 (nv : Int) : Value) from rfl); have zs := HSg.out w2 C2.out; clear hb))
    generalize hPX : (⟨#[97, 114, 103]⟩ ++ NUM T na ++ (⟨#[32, 38, 32]⟩ ++ NUM T nm) : ByteArray) = PX
    have HPX := Aside0.mk (show CONDA T ⟨(na : Int), o, (nm : Int), (nv : Int)⟩ = PX by rw [HA.out, ← hPX]; rfl)
    have hpz : PX.size ≤ 60 := by rw [← hPX]; simp only [ByteArray.size_append]; first | (simp; omega) | (have e1 : (⟨#[97, 114, 103]⟩ : ByteArray).size = 3 := rfl; have e2 : (⟨#[32, 38, 32]⟩ : ByteArray).size = 3 := rfl; omega)
    have p1 : ¬ 9223372036854775807 < PX.size + 1 := by omega
    have p2 : ¬ 9223372036854775807 < PX.size + 1 + SG.size := by omega
    have p3 : ¬ 9223372036854775807 < PX.size + 1 + SG.size + 1 := by omega
    have p4 : ¬ 9223372036854775807 < PX.size + 1 + SG.size + 1 + (NUM T nv).size := by omega
    clear hPX
    refine start_ (n := 15) (S := fun w' => w'.cell? ⟨w.heap.size, 1, none⟩ = some (.int .i64 o) ∧ w'.cell? ⟨w.heap.size, 3, none⟩ = some (.int .u64 (nv : Int)) ∧ w'.cell? ⟨w.heap.size + 1, o.toNat - 1, none⟩ = some (.string SG)) (ds := []) #[false, false, false, false, false, false, false, false, false, false, false, false, false, false, false] (by kernel_rfl) rfl rfl ⟨z1, z3, zs⟩ (fun hHeld => ?_)
    refine pure_ (i := 0) (N := some 19) (v := ?_) (a' := ?_) #[true, false, false, false, false, false, false, false, false, false, false, false, false, false, false] rfl rfl (by kernel_rfl) (fun _ _ _ h => h) (Or.inl ⟨by rfl, ?_⟩) ?_ ?_
    rotate_left
    · intro w'
      go_simp
      with_reducible rfl
    rotate_left
    · simp only [Act.put, List.setIfInBounds_toArray, List.set_cons_zero, List.set_cons_succ, i64_w, i32_w]
      rfl
    refine pure_ (i := 1) (N := some 20) (v := ?_) (a' := ?_) #[true, true, false, false, false, false, false, false, false, false, false, false, false, false, false] rfl rfl (by kernel_rfl) (fun _ _ _ h => h) (Or.inl ⟨by rfl, ?_⟩) ?_ ?_
    rotate_left
    · intro w'
      go_simp
      with_reducible rfl
    rotate_left
    · simp only [Act.put, List.setIfInBounds_toArray, List.set_cons_zero, List.set_cons_succ, i64_w, i32_w]
      rfl
    refine pure_ (i := 2) (N := some 21) (v := ?_) (a' := ?_) #[true, true, true, false, false, false, false, false, false, false, false, false, false, false, false] rfl rfl (by kernel_rfl) (fun _ _ _ h => h) (Or.inl ⟨by rfl, ?_⟩) ?_ ?_
    rotate_left
    · intro w'
      go_simp
      with_reducible rfl
    rotate_left
    · simp only [Act.put, List.setIfInBounds_toArray, List.set_cons_zero, List.set_cons_succ, i64_w, i32_w]
      rfl
    refine pure_ (i := 3) (N := some 22) (v := ?_) (a' := ?_) #[true, true, true, true, false, false, false, false, false, false, false, false, false, false, false] rfl rfl (by kernel_rfl) (fun _ _ _ h => h) (Or.inl ⟨by rfl, ?_⟩) ?_ ?_
    rotate_left
    · intro w'
      go_simp
      with_reducible rfl
    rotate_left
    · simp only [Act.put, List.setIfInBounds_toArray, List.set_cons_zero, List.set_cons_succ, i64_w, i32_w]
      rfl
    refine pure_ (i := 10) (N := some 29) (v := ?_) (a' := ?_) #[true, true, true, true, false, false, false, false, false, false, true, false, false, false, false] rfl rfl (by kernel_rfl) (fun _ _ _ h => h) (Or.inl ⟨by rfl, ?_⟩) ?_ ?_
    rotate_left
    · intro w'
      go_simp
      with_reducible rfl
    rotate_left
    · simp only [Act.put, List.setIfInBounds_toArray, List.set_cons_zero, List.set_cons_succ, i64_w, i32_w]
      rfl
    refine take_ (i := 4) (N := some 23) (v := ?_) (a' := ?_) #[true, true, true, true, true, false, false, false, false, false, true, false, false, false, false] rfl rfl (by kernel_rfl) (fun _ _ _ h => h) (Or.inl ⟨by rfl, ?_⟩) hHeld ?_ ?_
    rotate_left
    · rintro w' ⟨s0, s1, s2⟩
      go_simp
      with_reducible rfl
    rotate_left
    · simp only [Act.put, List.setIfInBounds_toArray, List.set_cons_zero, List.set_cons_succ, i64_w, i32_w]
      rfl
    refine pure_ (i := 5) (N := some 24) (v := ?_) (a' := ?_) #[true, true, true, true, true, true, false, false, false, false, true, false, false, false, false] rfl rfl (by kernel_rfl) (fun _ _ _ h => h) (Or.inl ⟨by rfl, ?_⟩) ?_ ?_
    rotate_left
    · intro w'
      go_simp
      with_reducible rfl
    rotate_left
    · simp only [Act.put, List.setIfInBounds_toArray, List.set_cons_zero, List.set_cons_succ, i64_w, i32_w]
      rfl
    refine pure_ (i := 6) (N := some 25) (v := ?_) (a' := ?_) #[true, true, true, true, true, true, true, false, false, false, true, false, false, false, false] rfl rfl (by kernel_rfl) (fun _ _ _ h => h) (Or.inl ⟨by rfl, ?_⟩) ?_ ?_
    rotate_left
    · intro w'
      go_simp
      with_reducible rfl
    rotate_left
    · simp only [Act.put, List.setIfInBounds_toArray, List.set_cons_zero, List.set_cons_succ, i64_w, i32_w]
      rfl
    refine take_ (i := 7) (N := some 26) (v := ?_) (a' := ?_) #[true, true, true, true, true, true, true, true, false, false, true, false, false, false, false] rfl rfl (by kernel_rfl) (fun _ _ _ h => h) (Or.inl ⟨by rfl, ?_⟩) hHeld ?_ ?_
    rotate_left
    · rintro w' ⟨s0, s1, s2⟩
      go_simp
      with_reducible rfl
    rotate_left
    · simp only [Act.put, List.setIfInBounds_toArray, List.set_cons_zero, List.set_cons_succ, i64_w, i32_w]
      rfl
    refine pure_ (i := 8) (N := some 27) (v := ?_) (a' := ?_) #[true, true, true, true, true, true, true, true, true, false, true, false, false, false, false] rfl rfl (by kernel_rfl) (fun _ _ _ h => h) (Or.inl ⟨by rfl, ?_⟩) ?_ ?_
    rotate_left
    · intro w'
      go_simp
      with_reducible rfl
    rotate_left
    · simp only [Act.put, List.setIfInBounds_toArray, List.set_cons_zero, List.set_cons_succ, i64_w, i32_w]
      rfl
    refine pure_ (i := 9) (N := some 28) (v := ?_) (a' := ?_) #[true, true, true, true, true, true, true, true, true, true, true, false, false, false, false] rfl rfl (by kernel_rfl) (fun _ _ _ h => h) (Or.inl ⟨by rfl, ?_⟩) ?_ ?_
    rotate_left
    · intro w'
      go_simp
      with_reducible rfl
    rotate_left
    · simp only [Act.put, List.setIfInBounds_toArray, List.set_cons_zero, List.set_cons_succ, i64_w, i32_w]
      rfl
    refine take_ (i := 11) (N := some 30) (v := ?_) (a' := ?_) #[true, true, true, true, true, true, true, true, true, true, true, true, false, false, false] rfl rfl (by kernel_rfl) (fun _ _ _ h => h) (Or.inl ⟨by rfl, ?_⟩) hHeld ?_ ?_
    rotate_left
    · rintro w' ⟨s0, s1, s2⟩
      go_simp
      with_reducible rfl
    rotate_left
    · simp only [Act.put, List.setIfInBounds_toArray, List.set_cons_zero, List.set_cons_succ, i64_w, i32_w]
      rfl
    refine one_ (i := 12) (N := some 31) #[true, true, true, true, true, true, true, true, true, true, true, true, true, false, false] rfl rfl (by kernel_rfl) (by decide) (fun K hK => ?_)
    refine goes_ Try.func91 (by kernel_rfl) rfl #[.int .u64 (nv : Int), .int .i64 10] (by rfl) rfl rfl (by simp only [List.map_toArray, List.map_cons, List.map_nil]; rfl) ?_
    with_reducible refine (strconv_FormatUint_any nv HNv.out T w2.drew (C2.out.drew.tb HT.out)).mono ?_
    rintro e w5 ⟨rfl, hb5⟩
    refine ⟨_, rfl, ?_⟩
    have C5 := Aside0.mk (C2.out.drew.step hb5)
    have y1 := (C5.out.cell 1).trans (show _ = some (.int .i64 o : Value) from rfl)
    have y3 := (C5.out.cell 3).trans (show _ = some (.int .u64 (nv : Int) : Value) from rfl)
    have ys := HSg.out w5 C5.out
    clear hb5
    refine hK.out _ _ ⟨y1, y3, ys⟩ (fun hHeld => ?_)
    clear hK K
    refine norm_ (a' := ?_) ?_ ?_
    rotate_left
    · show Act.put _ (some 31) _ = _
      simp only [Act.put, List.setIfInBounds_toArray, List.set_cons_zero, List.set_cons_succ, i64_w, i32_w]
      rfl
    refine pure_ (i := 13) (N := some 32) (v := ?_) (a' := ?_) #[true, true, true, true, true, true, true, true, true, true, true, true, true, true, false] rfl rfl (by kernel_rfl) (fun _ _ _ h => h) (Or.inl ⟨by rfl, ?_⟩) ?_ ?_
    rotate_left
    · intro w'
      go_simp
      with_reducible rfl
    rotate_left
    · simp only [Act.put, List.setIfInBounds_toArray, List.set_cons_zero, List.set_cons_succ, i64_w, i32_w]
      rfl
    refine pure_ (i := 14) (N := some 2) (v := ?_) (a' := ?_) #[true, true, true, true, true, true, true, true, true, true, true, true, true, true, true] rfl rfl (by kernel_rfl) (fun _ _ _ h => h) (Or.inl ⟨by rfl, ?_⟩) ?_ ?_
    rotate_left
    · intro w'
      go_simp
      with_reducible rfl
    rotate_left
    · simp only [Act.put, List.setIfInBounds_toArray, List.set_cons_zero, List.set_cons_succ, i64_w, i32_w]
      rfl
    refine done_ (by kernel_rfl) ?_
    go_wp2
    go_ret
    exact ⟨by unfold CONDW; rw [HPX.out, ← HSG.out]; rfl, C5.out.below⟩
end Go.Proofs.Ytmmgcbafdmkhbaa.M
