-- Laid by a program (wip/tools/myprint.py) out of the loaded program's own print: for each Go function a Lean function and the proof of its contract.
import Derived.Test.YtcomfhfednieoaaMx0
namespace Go.Proofs.Ytcomfhfednieoaa.M
open Go.RowKit Go.Proofs.YtcomfhfednieoaaW.PrintWords Go.Proofs.YtcomfhfednieoaaW.PrintLast Go.Proofs.YtcomfhfednieoaaW.PrintMore
attribute [local go_sem] max2_int min2_int max_two min_two max_three min_three max_four min_four   -- for this text's walks alone
set_option linter.unusedVariables false
set_option linter.unusedSimpArgs false

/-! ### fairleadlaw02_laid: function 11 -/
-- HAND rounds=False making=True
set_option maxHeartbeats 8000000 in
set_option maxRecDepth 100000 in
theorem pkw_fail.calls (B g : Nat) (L : List Int) (e a : Int) (w : World) (h : Mine.IsW 46 5 B w g L e) :
    Calls Try.prog 26 #[.pointer (some ⟨g, 0, none⟩), .int .i64 a] w fun r w' => r = .returned (.tuple #[]) ∧ Mine.IsW 46 5 B w' g L (if e = 0 then a else e) ∧ Below B w w' := by
  obtain ⟨⟨v, hb, hR⟩, hg⟩ := h
  obtain ⟨A1, cp, ev⟩ := Kd.R_slice hR
  subst ev
  have HB := Aside0.mk hb
  have HR := Aside0.mk hR
  have HG := Aside0.mk hg
  have c1 : w.cell? ⟨g, 1, none⟩ = some (.int .i64 e) := (blk_cell hb 1).trans rfl
  have f1 := blk_frozen hb 1
  clear hb hR hg
  by_cases he : e = 0
  · subst he
    go_enter Try.func26, Try.ntmps26
    go_wp2
    first | go_end0 | ((try simp only [Exit.inBlock, Exit.then]); refine bodyPost_ret (results_none rfl _ _ _) rfl ?_)
    exact ⟨rfl, ⟨⟨_, blk_put HB.out 1 _ rfl, Kd.R_far HR.out (fun k hk => hk) _⟩, HG.out⟩, (Below.refl _ _).setCell HG.out _⟩
  · rw [if_neg he]
    have he1 := beq_eq_false_iff_ne.2 he
    go_enter Try.func26, Try.ntmps26
    go_wp2
    first | go_end0 | ((try simp only [Exit.inBlock, Exit.then]); refine bodyPost_ret (results_none rfl _ _ _) rfl ?_)
    exact ⟨rfl, ⟨⟨_, HB.out, HR.out⟩, HG.out⟩, Below.refl _ _⟩
/-- A number's last m bytes, the great ones ahead. -/
def pack_bytes (n : Int) : Nat → List Int
  | 0 => []
  | m + 1 => IntKind.u8.wrap (n / 2 ^ (8 * (m : Int)).toNat) :: pack_bytes n m
set_option maxHeartbeats 8000000 in
set_option maxRecDepth 100000 in
theorem pkw_Num.lays (B g : Nat) (L : List Int) (e n size : Int) (w : World) (h : Mine.IsW 46 5 B w g L e) (hB : B ≤ w.heap.size) (hl : L.length + 8 ≤ 140737488355328) (h1 : 1 ≤ size) (h2 : size ≤ 8) (hq : size < 8 → n / 2 ^ (8 * size).toNat = 0) :
    Calls Try.prog 20 #[.pointer (some ⟨g, 0, none⟩), .int .u64 n, .int .i64 size] w fun r w' => r = .returned (.tuple #[]) ∧ Mine.IsW 46 5 B w' g (L ++ pack_bytes n size.toNat) e ∧ Below B w w' := by
  have d1 : decide (size < 1) = false := decide_eq_false (by omega)
  have d2 : decide (8 < size) = false := decide_eq_false (by omega)
  have w1 : IntKind.i64.wrap (8 * size) = 8 * size := by rw [i64_w]; simp only [wrap64, IntKind.wrap]; (try simp [IntKind.bits, IntKind.signed]); omega
  have s1 : 0 ≤ 8 * size := by omega
  have s2 : 8 * size ≤ 64 := by omega
  have HW := Aside0.mk h
  have HB := Aside0.mk hB
  have HL := Aside0.mk hl
  clear h hB hl
  by_cases h8 : size < 8
  all_goals
    first
      | (have d3 : decide (size < 8) = true := decide_eq_true h8; have q1 : (n / 2 ^ (8 * size).toNat != 0) = false := bne_eq_false_iff_eq.2 (hq h8))
      | have d3 : decide (size < 8) = false := decide_eq_false h8
    clear hq
    go_enter Try.func20, Try.ntmps20
    go_wp2
    (repeat (go_step3; (try go_wp2)))
    go_loopg [6] 9 (fun kq v6 w' => ∃ (m : Nat) (L' : List Int), v6 = .int .i64 (m : Int) ∧ m < kq ∧ m ≤ 8 ∧ Aside0 (L' ++ pack_bytes n m = L ++ pack_bytes n size.toNat) ∧ Aside0 (L'.length + m ≤ L.length + 8) ∧ Aside0 (Mine.IsW 46 5 B w' g L' e) ∧ Aside0 (Below B w w'))
    case atStart => exact ⟨size.toNat, L, by rw [Int.toNat_of_nonneg (by omega)], by omega, by omega, ⟨rfl⟩, ⟨by omega⟩, HW, ⟨Below.refl _ _⟩⟩
    case round =>
      obtain ⟨m, L', rfl, hmk, hm8, hLL, hlen, hM, hBr⟩ := hrel
      cases m with
      | zero =>
        have z1 : ((((0 : Nat) : Int)) == 0) = true := rfl
        go_wp2
        (try simp only [Exit.noGoto])
        go_end0
        have hLL := hLL.out
        rw [pack_bytes, List.append_nil] at hLL
        exact ⟨rfl, by rw [← hLL]; exact hM.out, hBr.out⟩
      | succ m =>
        have z1 : ((((m + 1 : Nat) : Int)) == 0) = false := beq_eq_false_iff_ne.2 (by omega)
        have z2 : IntKind.i64.wrap ((((m + 1 : Nat) : Int)) - 1) = (m : Int) := by rw [i64_w]; simp only [wrap64, IntKind.wrap]; (try simp [IntKind.bits, IntKind.signed]); omega
        have z3 : IntKind.i64.wrap (8 * (m : Int)) = 8 * (m : Int) := by rw [i64_w]; simp only [wrap64, IntKind.wrap]; (try simp [IntKind.bits, IntKind.signed]); omega
        have z4 : 0 ≤ 8 * (m : Int) := by omega
        have z5 : 8 * (m : Int) ≤ 64 := by omega
        obtain ⟨k1, rfl⟩ : ∃ k1, gk = k1 + 1 := ⟨gk - 1, by omega⟩
        obtain ⟨⟨v, hb, hR⟩, hg⟩ := hM.out
        obtain ⟨A1, cp, ev⟩ := Kd.R_slice hR
        subst ev
        have c0 : wr.cell? ⟨g, 0, none⟩ = some (.slice A1 L'.length cp) := (blk_cell hb 0).trans rfl
        have f0 := blk_frozen hb 0
        have hn0 := World.new_ne wr _ c0
        have HBk := Aside0.mk hb
        have HR := Aside0.mk hR
        have hsz := Aside0.mk (Nat.le_trans HB.out hBr.out.size)
        go_wp2
        clear hb hR
        have ca : (wr.alloc (.cells #[.int .u8 (IntKind.u8.wrap (n / 2 ^ (8 * (m : Int)).toNat))] 5)).cell? ⟨g, 0, none⟩ = some (.slice A1 L'.length cp) := (blk_cell (blk_alloc HBk.out _) 0).trans rfl
        go_region_law ((refine Mine.W_append_step (B := B) (g := g) 46 rfl (.tmp 35) (.tmp 41) 25 rfl Try.underlying25 info5 (.slice A1 L'.length cp) L' (IntKind.u8.wrap (n / 2 ^ (8 * (m : Int)).toNat)) rfl rfl HBk.out HR.out hBr.out hsz.out (by have := HL.out; have := hlen.out; omega) ?_; intro A2 cp2 w1 e0 ho hb; have c0x := (blk_cell e0 0).trans rfl; have f0x := blk_frozen e0 0; have HE := Aside0.mk e0; have HO1 := Aside0.mk ho; have HB1 := Aside0.mk hb; clear e0 ho hb))
        all_goals
          go_wp2
          go_roundg k1
          case measure => omega
          case rel => exact ⟨m, L' ++ [IntKind.u8.wrap (n / 2 ^ (8 * (m : Int)).toNat)], rfl, by omega, by omega, ⟨by rw [List.append_assoc]; exact hLL.out⟩, ⟨by have := hlen.out; rw [List.length_append]; simp; omega⟩, ⟨⟨_, blk_put HE.out 0 _ rfl, Kd.R_far (by have h_ := HO1.out; rw [List.length_append] at h_; exact h_) (fun k hk => hk) _⟩, hg⟩, ⟨HB1.out.setCell hg _⟩⟩
set_option maxHeartbeats 8000000 in
set_option maxRecDepth 100000 in
theorem pkw_Num.fails (B g : Nat) (L : List Int) (e n size : Int) (w : World) (h : Mine.IsW 46 5 B w g L e) (hb : size < 1 ∨ 8 < size ∨ (size < 8 ∧ n / 2 ^ (8 * size).toNat ≠ 0)) :
    Calls Try.prog 20 #[.pointer (some ⟨g, 0, none⟩), .int .u64 n, .int .i64 size] w fun r w' => r = .returned (.tuple #[]) ∧ Mine.IsW 46 5 B w' g L (if e = 0 then 1 else e) ∧ Below B w w' := by
  have HW := Aside0.mk h
  clear h
  by_cases c1 : size < 1
  · have d1 : decide (size < 1) = true := decide_eq_true c1
    clear hb c1
    go_enter Try.func20, Try.ntmps20
    go_wp2
    (repeat (go_step3; (try go_wp2_with (first | (go_at_call 26; (refine (pkw_fail.calls B g L e 1 _ HW.out).mono ?_); rintro r w1 ⟨rfl, hW1, hB1⟩)))))
    (try rw [Exit.noGoto_ret])
    first | go_end0 | ((try simp only [Exit.inBlock, Exit.then]); refine bodyPost_ret (results_none rfl _ _ _) rfl ?_)
    exact ⟨rfl, hW1, hB1⟩
  · have d1 : decide (size < 1) = false := decide_eq_false c1
    by_cases c2 : 8 < size
    · have d2 : decide (8 < size) = true := decide_eq_true c2
      clear hb c1 c2
      go_enter Try.func20, Try.ntmps20
      go_wp2
      (repeat (go_step3; (try go_wp2_with (first | (go_at_call 26; (refine (pkw_fail.calls B g L e 1 _ HW.out).mono ?_); rintro r w1 ⟨rfl, hW1, hB1⟩)))))
      (try rw [Exit.noGoto_ret])
      first | go_end0 | ((try simp only [Exit.inBlock, Exit.then]); refine bodyPost_ret (results_none rfl _ _ _) rfl ?_)
      exact ⟨rfl, hW1, hB1⟩
    · have d2 : decide (8 < size) = false := decide_eq_false c2
      obtain ⟨h8, hq⟩ : size < 8 ∧ n / 2 ^ (8 * size).toNat ≠ 0 := by omega
      have d3 : decide (size < 8) = true := decide_eq_true h8
      have w1 : IntKind.i64.wrap (8 * size) = 8 * size := by rw [i64_w]; simp only [wrap64, IntKind.wrap]; (try simp [IntKind.bits, IntKind.signed]); omega
      have s1 : 0 ≤ 8 * size := by omega
      have s2 : 8 * size ≤ 64 := by omega
      have q1 : (n / 2 ^ (8 * size).toNat != 0) = true := bne_iff_ne.2 hq
      clear hb hq
      go_enter Try.func20, Try.ntmps20
      go_wp2
      (repeat (go_step3; (try go_wp2_with (first | (go_at_call 26; (refine (pkw_fail.calls B g L e 1 _ HW.out).mono ?_); rintro r w1 ⟨rfl, hW1, hB1⟩)))))
      (try rw [Exit.noGoto_ret])
      first | go_end0 | ((try simp only [Exit.inBlock, Exit.then]); refine bodyPost_ret (results_none rfl _ _ _) rfl ?_)
      exact ⟨rfl, hW1, hB1⟩
/-- What a writer is behind a number. -/
def pack_num (s : List Int × Int) (n size : Int) : List Int × Int := if size < 1 ∨ 8 < size ∨ (size < 8 ∧ n / 2 ^ (8 * size).toNat ≠ 0) then (s.1, if s.2 = 0 then 1 else s.2) else (s.1 ++ pack_bytes n size.toNat, s.2)
theorem pkw_Num.calls (B g : Nat) (L : List Int) (e n size : Int) (w : World) (h : Mine.IsW 46 5 B w g L e) (hB : B ≤ w.heap.size) (hl : L.length + 8 ≤ 140737488355328) :
    Calls Try.prog 20 #[.pointer (some ⟨g, 0, none⟩), .int .u64 n, .int .i64 size] w fun r w' => r = .returned (.tuple #[]) ∧ Mine.IsW 46 5 B w' g (pack_num (L, e) n size).1 (pack_num (L, e) n size).2 ∧ Below B w w' := by
  unfold pack_num
  by_cases hb : size < 1 ∨ 8 < size ∨ (size < 8 ∧ n / 2 ^ (8 * size).toNat ≠ 0)
  · rw [if_pos hb]
    exact pkw_Num.fails B g L e n size w h hb
  · rw [if_neg hb]
    exact pkw_Num.lays B g L e n size w h hB hl (by omega) (by omega) (fun h8 => Decidable.byContradiction fun hq => hb (.inr (.inr ⟨h8, hq⟩)))
/-- What a writer is behind a text. -/
def pack_text (s : List Int × Int) (t : ByteArray) : List Int × Int := if (t.size : Int) > 65535 then (s.1, if s.2 = 0 then 4 else s.2) else ((pack_num s (IntKind.u64.wrap (t.size : Int)) 2).1 ++ bytesOf t, (pack_num s (IntKind.u64.wrap (t.size : Int)) 2).2)
theorem pack_bytes_length (n : Int) : ∀ m : Nat, (pack_bytes n m).length = m
  | 0 => rfl
  | m + 1 => by rw [pack_bytes, List.length_cons, pack_bytes_length n m]
theorem pack_num_length (s : List Int × Int) (n size : Int) : (pack_num s n size).1.length ≤ s.1.length + 8 := by
  unfold pack_num
  split
  · simp
  · simp only [List.length_append, pack_bytes_length]
    omega
set_option maxHeartbeats 8000000 in
set_option maxRecDepth 100000 in
theorem pkw_Text.calls (B g : Nat) (L : List Int) (e : Int) (t : ByteArray) (w : World) (h : Mine.IsW 46 5 B w g L e) (hB : B ≤ w.heap.size) (hl : L.length + 65600 ≤ 140737488355328) :
    Calls Try.prog 22 #[.pointer (some ⟨g, 0, none⟩), .string t] w fun r w' => r = .returned (.tuple #[]) ∧ Mine.IsW 46 5 B w' g (pack_text (L, e) t).1 (pack_text (L, e) t).2 ∧ Below B w w' := by
  have HW := Aside0.mk h
  have HB := Aside0.mk hB
  have HL := Aside0.mk hl
  clear h hB hl
  unfold pack_text
  by_cases c1 : (t.size : Int) > 65535
  · rw [if_pos c1]
    have d1 : decide (65535 < (t.size : Int)) = true := decide_eq_true c1
    have d2 : decide (65535 < t.size) = true := decide_eq_true (by omega)
    clear c1
    simp only
    generalize hee : (if e = 0 then (4 : Int) else e) = ee
    go_enter Try.func22, Try.ntmps22
    go_wp2_with (first | (go_at_call 26; (refine (pkw_fail.calls B g L e 4 _ HW.out).mono ?_); rintro r w1 ⟨rfl, hW1, hB1⟩; rw [hee] at hW1))
    first | go_end0 | ((try simp only [Exit.inBlock, Exit.then]); refine bodyPost_ret (results_none rfl _ _ _) rfl ?_)
    exact ⟨rfl, hW1, hB1⟩
  · rw [if_neg c1]
    have d1 : decide (65535 < (t.size : Int)) = false := decide_eq_false c1
    have d2 : decide (65535 < t.size) = false := decide_eq_false (by omega)
    have c1' := Aside0.mk c1
    clear c1
    generalize hnn : IntKind.u64.wrap (t.size : Int) = nn
    have hq := Aside0.mk (pack_num_length (L, e) nn 2)
    generalize hqq : pack_num (L, e) nn 2 = qq at hq
    obtain ⟨L1, e1⟩ := qq
    go_enter Try.func22, Try.ntmps22
    go_wp2_with (first | (go_at_call 20; (refine (pkw_Num.calls B g L e nn 2 _ HW.out HB.out (by have := HL.out; omega)).mono ?_); rintro r w1 ⟨rfl, hW1, hB1⟩; rw [hqq] at hW1; obtain ⟨⟨v, hb, hR⟩, hg⟩ := hW1; obtain ⟨A1, cp, ev⟩ := Kd.R_slice hR; subst ev; have c0 : w1.cell? ⟨g, 0, none⟩ = some (.slice A1 L1.length cp) := (blk_cell hb 0).trans rfl; have HBk := Aside0.mk hb; have HR := Aside0.mk hR; have HB1 := Aside0.mk hB1; have HG := Aside0.mk hg; clear hb hR hB1 hg) | (at_builtin; refine print_append_str (w0 := w) B rfl (.tmp 18) (.tmp 19) 25 9 5 rfl Try.underlying25 Try.underlying9 info5 (.slice A1 L1.length cp) L1 t rfl rfl (Kd.own_of_R HR.out) HB1.out (Nat.le_trans HB.out HB1.out.size) (by have := HL.out; have h9 : L1.length ≤ L.length + 8 := hq.out; have := c1'.out; omega) ?_; intro v1 w2 ho hb hg; obtain ⟨A2, cp2, ev2⟩ := own_slice ho; subst ev2; have e0 := blk_grown HBk.out hg (fun e_ => HR.out.1 g e_.symm rfl); have ho2 := Kd.R_types (Kd.R_of_own (h1 := fun _ => rfl) (ok := fun _ => True) ho (fun _ _ => trivial)) e0 (by decide); have f0 := blk_frozen e0 0; have c02 : w2.cell? ⟨g, 0, none⟩ = some (.slice A1 L1.length cp) := (blk_cell e0 0).trans rfl; have HE := Aside0.mk e0; have HO := Aside0.mk ho2; have HB2 := Aside0.mk hb; clear e0 ho2 ho hb hg))
    first | go_end0 | ((try simp only [Exit.inBlock, Exit.then]); refine bodyPost_ret (results_none rfl _ _ _) rfl ?_)
    exact ⟨rfl, ⟨⟨_, blk_put HE.out 0 _ rfl, (by have h_ := HO.out; rw [List.length_append] at h_; exact Kd.R_far (Kd.R_mono h_ (fun _ hk => hk.2)) (p := ⟨g, 0, none⟩) (fun k hk => hk) _)⟩, HG.out⟩, HB2.out.setCell HG.out _⟩
set_option maxHeartbeats 8000000 in
set_option maxRecDepth 100000 in
theorem pkw_Bytes.calls (B g : Nat) (L : List Int) (e : Int) (w : World) (h : Mine.IsW 46 5 B w g L e) (hl : L.length ≤ 140737488355328) :
    Calls Try.prog 21 #[.pointer (some ⟨g, 0, none⟩)] w fun r w' => ∃ v_ : Value, r = .returned (.tuple #[v_, .int .i64 e]) ∧ Kd.R (Kd.int .u8) 5 w' w.heap.size (fun _ => True) v_ (if e = 0 then L else []) ∧ Below w.heap.size w w' := by
  obtain ⟨⟨v, hb, hR⟩, hg⟩ := h
  obtain ⟨A1, cp, ev, hcp, hC⟩ := Kd.R_reads hR
  subst ev
  have c0 : w.cell? ⟨g, 0, none⟩ = some (.slice A1 L.length cp) := (blk_cell hb 0).trans rfl
  have c1 : w.cell? ⟨g, 1, none⟩ = some (.int .i64 e) := (blk_cell hb 1).trans rfl
  have HR := Aside0.mk hR
  have HC := Aside0.mk hC
  clear hb hg hR hC
  by_cases he : e = 0
  · rw [if_pos he]
    subst he
    go_enter Try.func21, Try.ntmps21
    go_wp2_with (first | ((with_reducible refine gate_dst (N := 13) rfl ?_); refine Kd.R_lit (Kd.int .u8) w.heap.size 5 ?hg (N := 13) ?hd (xs := ([] : List Int)) (inner := []) (ok := fun _ => True) (okp := fun _ => True) ?hr ?hp (fun _ hk => hk) trivial (Below.refl _ _) (Nat.le_refl _) (by simp) ?_; (case hd => rfl); (case hg => rfl); (case hr => first | (go_simp; done) | (go_simp; rfl)); (case hp => exact (Reps.none _ _)); intro v2 w2 ho hb hg_ hnew_; have c02 : w2.cell? ⟨g, 0, none⟩ = some (.slice A1 L.length cp) := hb.cell (World.block_lt_of_cell? w _ c0) |>.trans c0; have HC2 := Aside0.mk (Kd.C_below HC.out hb); have HO := Aside0.mk ho; have HB2 := Aside0.mk hb; clear ho hb hg_ hnew_) | (at_builtin; refine Kd.R_append_row (Value.int .u8) 0 (w0 := w) w.heap.size rfl (.tmp 13) (.tmp 17) 25 5 (.int .u8 0) 1 rfl Try.underlying25 info5 rfl (by decide) v2 [] L A1 L.length cp (fun _ => True) rfl rfl (fun _ _ => trivial) HO.out HC2.out HB2.out HB2.out.size (by simp; omega) ?_; intro v3 w3 ho hb hg hat; have HO3 := Aside0.mk ho; have HB3 := Aside0.mk hb; clear ho hb hg hat))
    go_ret2
    exact ⟨_, rfl, HO3.out, HB3.out⟩
  · rw [if_neg he]
    have he1 := beq_eq_false_iff_ne.2 he
    have he2 := bne_iff_ne.2 he
    go_enter Try.func21, Try.ntmps21
    go_wp2
    repeat (go_quiet (fail); try go_wp2)
    go_ret2
    exact ⟨_, rfl, Kd.R_nil _ _ _ _ _, pw_below_drewN (Below.refl _ _) _⟩
def laid_step (s : List Int × Int) (x : S32) : List Int × Int := if x.f2 = true then pack_text s x.f3 else pack_num s x.f0 x.f1
def laid_go : List S32 → List Int × Int → Option (List Int × Int)
  | [], s => if s.1.length ≤ 140737480000000 then some (if s.2 = 0 then s.1 else [], s.2) else none
  | x :: r, s => if s.1.length ≤ 140737480000000 then laid_go r (laid_step s x) else none
def fairleadlaw02_laid.f (l0 : List S32) : Option (List Int × Int) := laid_go l0 ([], 0)
set_option maxHeartbeats 8000000 in
set_option maxRecDepth 100000 in
theorem fairleadlaw02_laid.calls (A0 : Option Addr) (c0 : Nat) (l0 : List S32) (r1 : List Int) (r2 : Int) (w : World) (hr0 : Kd.C k32 w A0 l0.length l0) (hc0 : l0.length ≤ c0) (h : fairleadlaw02_laid.f l0 = some (r1, r2)) :
    Calls Try.prog 11 #[.slice A0 l0.length c0] w fun e w' => ∃ v0_ : Value, e = .returned (.tuple #[v0_, .int .i64 r2]) ∧ Kd.R (Kd.int .u8) 5 w' w.heap.size (fun _ => True) v0_ r1 ∧ Below w.heap.size w w' := by
  have HR0 := Aside0.mk hr0
  have HC0 := Aside0.mk hc0
  have hmx := hr0.2.1
  have H' := Aside0.mk h
  have huW := Try.underlying46
  clear hr0 hc0 h
  go_enter Try.func11, Try.ntmps11
  go_wp2_with (first | ((with_reducible refine gate_dst (N := 4) rfl ?_); refine box_event ?hg (N := 4) ?hd (cs := #[.slice none 0 0, .int .i64 0]) (t := 46) ?hr ?_; (case hd => rfl); (case hg => rfl); (case hr => first | (go_simp; done) | (go_simp; rfl)); intro gb GE wb hbk hbb; have GE2 := Aside0.mk GE; have HBK := Aside0.mk hbk; have HBB := Aside0.mk hbb; clear GE hbk hbb))
  go_loopg [5] (l0.length + 1) (fun kq v5 w' => ∃ (i : Int) (s : List Int × Int), v5 = .int .i64 i ∧ 0 ≤ i ∧ i ≤ (l0.length : Int) ∧ l0.length - i.toNat < kq ∧ Aside0 (laid_go (l0.drop i.toNat) s = some (r1, r2)) ∧ Aside0 (Mine.IsW 46 5 w.heap.size w' gb s.1 s.2) ∧ Aside0 (Below w.heap.size w w'))
  case atStart => exact ⟨0, ([], 0), rfl, Int.le_refl _, by omega, by simp, H', ⟨⟨_, HBK.out, Kd.R_nil _ _ _ _ _⟩, Nat.le_of_eq GE2.out.symm⟩, HBB⟩
  case round =>
    clear H' HBK HBB
    obtain ⟨i, s, rfl, hi0, hil, hik, HA, hM, hBr⟩ := hrel
    obtain ⟨k1, rfl⟩ : ∃ k1, gk = k1 + 1 := ⟨gk - 1, by omega⟩
    by_cases hi : i < (l0.length : Int)
    · have hH := HA.out
      have hi2 : i.toNat < l0.length := by omega
      have hd2 : l0.drop i.toNat = rd_T32 l0 i :: l0.drop (i + 1).toNat := by
        rw [List.drop_eq_getElem_cons hi2, show (i + 1).toNat = i.toNat + 1 by omega]
        simp [rd_T32, List.getElem?_eq_getElem hi2, List.getD_eq_getElem?_getD]
      rw [hd2, laid_go] at hH
      by_cases hlen : s.1.length ≤ 140737480000000
      · rw [if_pos hlen] at hH
        have HH := Aside0.mk hH
        have HL := Aside0.mk hlen
        have b1 : decide (i < (l0.length : Int)) = true := decide_eq_true (by omega)
        have p1 : 0 ≤ i := hi0
        have q1 : i < (l0.length : Int) := hi
        have p2 := eq_true p1
        have q2 := eq_true q1
        have z1 : IntKind.i64.wrap (i + 1) = i + 1 := by rw [i64_w]; simp only [wrap64, IntKind.wrap]; (try simp [IntKind.bits, IntKind.signed]); omega
        clear hH hlen hd2 HA
        obtain ⟨ad, e0, x0, x1, x2, x3⟩ := at_T32 (Kd.C_below HR0.out hBr.out) i p1 q1
        cases e0
        by_cases ht : (rd_T32 l0 i).f2 = true
        · rw [ht] at x2
          have hst : laid_step s (rd_T32 l0 i) = pack_text s (rd_T32 l0 i).f3 := by unfold laid_step; rw [if_pos ht]
          have HH2 := HH.out
          rw [hst] at HH2
          have HH3 := Aside0.mk HH2
          clear HH HH2 ht hst
          go_wp2_with (first | (go_at_call 22; (refine (pkw_Text.calls w.heap.size gb s.1 s.2 (rd_T32 l0 i).f3 _ hM.out hBr.out.size (by have := HL.out; omega)).mono ?_); rintro e w2 ⟨rfl, hM2, hB2⟩; have HM2 := Aside0.mk hM2; have HB2 := Aside0.mk (hBr.out.trans hB2); clear hM2 hB2))
          go_roundg k1
          case measure => omega
          case rel => exact ⟨i + 1, _, rfl, by omega, by omega, by omega, HH3, HM2, HB2⟩
        · rw [Bool.eq_false_iff.mpr ht] at x2
          have hst : laid_step s (rd_T32 l0 i) = pack_num s (rd_T32 l0 i).f0 (rd_T32 l0 i).f1 := by unfold laid_step; rw [if_neg ht]
          have HH2 := HH.out
          rw [hst] at HH2
          have HH3 := Aside0.mk HH2
          clear HH HH2 ht hst
          go_wp2
          go_region_held3 (fun w' => w'.cell? (ad.add (i.toNat * 4)) = some (.int .u64 (rd_T32 l0 i).f0) ∧ w'.cell? ⟨(ad.add (i.toNat * 4)).block, (ad.add (i.toNat * 4)).off + 1, none⟩ = some (.int .i64 (rd_T32 l0 i).f1)) (first | go_keep | exact ⟨y0, y1⟩) ((go_at_call 20; (refine (pkw_Num.calls w.heap.size gb s.1 s.2 (rd_T32 l0 i).f0 (rd_T32 l0 i).f1 _ (by first | exact hM.out | exact hM.out.drewN 1) (by exact hBr.out.size) (by have := HL.out; omega)).mono ?_); rintro e w2 ⟨rfl, hM2, hB2⟩; have HM2 := Aside0.mk hM2; have HB2 := Aside0.mk ((below_drew hBr.out).trans hB2); obtain ⟨ad2, e2, y0, y1, y2, y3⟩ := at_T32 (Kd.C_below HR0.out HB2.out) i p1 q1; cases e2; clear hM2 hB2))
          go_wp2
          go_roundg k1
          case measure => omega
          case rel => exact ⟨i + 1, _, rfl, by omega, by omega, by omega, HH3, HM2, HB2⟩
      · rw [if_neg hlen] at hH
        cases hH
    · have hH := HA.out
      have b1 : decide (i < (l0.length : Int)) = false := decide_eq_false (by omega)
      rw [List.drop_of_length_le (by omega), laid_go] at hH
      by_cases hlen : s.1.length ≤ 140737480000000
      · rw [if_pos hlen] at hH
        simp only [Option.some.injEq, Prod.mk.injEq] at hH
        obtain ⟨h1, h2⟩ := hH
        have E1 := Aside0.mk h1
        have E2 := Aside0.mk h2
        have HL := Aside0.mk hlen
        clear h1 h2 HA hlen
        go_wp2_with (first | (go_at_call 21; (refine (pkw_Bytes.calls w.heap.size gb s.1 s.2 _ hM.out (by have := HL.out; omega)).mono ?_); rintro e w2 ⟨v2, rfl, hR2, hB2⟩; have HR2 := Aside0.mk hR2; have HB2 := Aside0.mk hB2; clear hR2 hB2))
        go_ret2
        refine ⟨v2, by first | rfl | (rw [E2.out]; rfl), ?_, hBr.out.trans (HB2.out.mono hBr.out.size)⟩
        rw [← E1.out]
        exact Kd.R_lower HR2.out hBr.out.size
      · rw [if_neg hlen] at hH
        cases hH

end Go.Proofs.Ytcomfhfednieoaa.M
