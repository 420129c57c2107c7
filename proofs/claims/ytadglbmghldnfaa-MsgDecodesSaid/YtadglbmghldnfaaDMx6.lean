-- Laid by a program (wip/tools/myprint.py) out of the loaded program's own print: for each Go function a Lean function and the proof of its contract.
import Derived.Test.YtadglbmghldnfaaDMx0
import Derived.Test.YtadglbmghldnfaaDMx4
import Derived.Test.YtadglbmghldnfaaDMx5
namespace Go.Proofs.Ytadglbmghldnfaa.M
open Go.RowKit Go.Proofs.YtadglbmghldnfaaW.PrintWords Go.Proofs.YtadglbmghldnfaaW.PrintLast Go.Proofs.YtadglbmghldnfaaW.PrintMore
attribute [local go_sem] max2_int min2_int max_two min_two max_three min_three max_four min_four   -- for this text's walks alone
set_option linter.unusedVariables false
set_option linter.unusedSimpArgs false
-- HAND rounds=True making=True
theorem mine_C_one (k : IntKind) (t : TypeId) (w : World) (n : Int) : Kd.C (Kd.int k) (w.alloc (.cells #[.int k n] t)) (some ⟨w.heap.size, 0, none⟩) 1 [n] :=
  Kd.C_of_reads (d := (0 : Int)) ⟨rfl, by decide, fun _ => ⟨_, rfl, fun j hj => by
    obtain rfl : j = 0 := by omega
    exact (blk_cell (blk_new w _) 0).trans rfl⟩⟩
theorem mine_Bts_of_R {U : Nat} {v : Value} {L : List Int} {base : Nat} {ok : Nat → Prop} {w : World} {g T : Nat} {cs : Array Value} (HR : Kd.R (Kd.int .u8) U w base ok v L) (hb : w.heap[g]? = some (.cells cs T (0, 0))) (ht : T ≠ U) : ∃ A c, v = .slice A L.length c ∧ Mine.Bts U w g A c L := by
  obtain ⟨A, c, e, hl, hC⟩ := Kd.R_reads HR
  obtain ⟨inner, ho⟩ := Kd.R_own HR
  subst e
  refine ⟨A, c, rfl, hl, hC, fun ad ea => ?_⟩
  subst ea
  rcases ho.2 with ⟨h1, _⟩ | ⟨g1, cap, cur, h1, _, h2, _⟩
  · cases h1
  · injection h1 with h1 _ _
    injection h1 with h1
    subst h1
    exact ⟨fun e_ => Mine.two_types h2 (by rw [← e_] at hb; exact hb) (Ne.symm ht), cur, h2⟩
set_option maxHeartbeats 8000000 in
set_option maxRecDepth 100000 in
theorem pkv_fail.calls (B : Nat) (O : Nat → Prop) (g : Nat) (L : List Int) (e a : Int) (w : World) (h : Mine.IsV 47 5 B O w g L e) :
    Calls Try.prog 32 #[.pointer (some ⟨g, 0, none⟩), .int .i64 a] w fun r w' => r = .returned (.tuple #[]) ∧ Mine.IsV 47 5 B O w' g L (if e = 0 then a else e) ∧ Mine.Bar (Mine.Wb B O g) w w' := by
  obtain ⟨⟨v, hb, hR⟩, hg, hog⟩ := h
  obtain ⟨A1, cp, ev⟩ := Kd.R_slice hR
  subst ev
  have HB := Aside0.mk hb
  have HR := Aside0.mk hR
  have HG := Aside0.mk hg
  have c1 : w.cell? ⟨g, 1, none⟩ = some (.int .i64 e) := (blk_cell hb 1).trans rfl
  have f1 := blk_frozen hb 1
  clear hb hR hg
  by_cases he : e = 0
  · subst he
    go_enter Try.func32, Try.ntmps32
    go_wp2
    first | go_end0 | ((try simp only [Exit.inBlock, Exit.then]); refine bodyPost_ret (results_none rfl _ _ _) rfl ?_)
    exact ⟨rfl, ⟨⟨_, blk_put HB.out 1 _ rfl, Kd.R_far HR.out (p := ⟨g, 1, none⟩) (fun k hk (e_ : k = g) => hog (e_ ▸ hk)) _⟩, HG.out, hog⟩, (Mine.Bar.refl _ _).setCell (Or.inl rfl) _ _⟩
  · rw [if_neg he]
    have he1 := beq_eq_false_iff_ne.2 he
    go_enter Try.func32, Try.ntmps32
    go_wp2
    first | go_end0 | ((try simp only [Exit.inBlock, Exit.then]); refine bodyPost_ret (results_none rfl _ _ _) rfl ?_)
    exact ⟨rfl, ⟨⟨_, HB.out, HR.out⟩, HG.out, hog⟩, Mine.Bar.refl _ _⟩
/-- A number's last m bytes, the great ones ahead. -/
def pack_bytes (n : Int) : Nat → List Int
  | 0 => []
  | m + 1 => IntKind.u8.wrap (n / 2 ^ (8 * (m : Int)).toNat) :: pack_bytes n m
set_option maxHeartbeats 8000000 in
set_option maxRecDepth 100000 in
theorem pkv_Num.lays (B : Nat) (O : Nat → Prop) (g : Nat) (L : List Int) (e n size : Int) (w : World) (h : Mine.IsV 47 5 B O w g L e) (hB : B ≤ w.heap.size) (hO : ∀ k, w.heap.size ≤ k → O k) (hl : L.length + 8 ≤ 140737488355328) (h1 : 1 ≤ size) (h2 : size ≤ 8) (hq : size < 8 → n / 2 ^ (8 * size).toNat = 0) :
    Calls Try.prog 16 #[.pointer (some ⟨g, 0, none⟩), .int .u64 n, .int .i64 size] w fun r w' => r = .returned (.tuple #[]) ∧ Mine.IsV 47 5 B O w' g (L ++ pack_bytes n size.toNat) e ∧ Mine.Bar (Mine.Wb B O g) w w' := by
  have d1 : decide (size < 1) = false := decide_eq_false (by omega)
  have d2 : decide (8 < size) = false := decide_eq_false (by omega)
  have w1 : IntKind.i64.wrap (8 * size) = 8 * size := by rw [i64_w]; simp only [wrap64, IntKind.wrap]; (try simp [IntKind.bits, IntKind.signed]); omega
  have s1 : 0 ≤ 8 * size := by omega
  have s2 : 8 * size ≤ 64 := by omega
  have HW := Aside0.mk h
  have HB := Aside0.mk hB
  have HL := Aside0.mk hl
  clear h hB hl
  by_cases h8 : size < 8
  all_goals
    first
      | (have d3 : decide (size < 8) = true := decide_eq_true h8; have q1 : (n / 2 ^ (8 * size).toNat != 0) = false := bne_eq_false_iff_eq.2 (hq h8))
      | have d3 : decide (size < 8) = false := decide_eq_false h8
    clear hq
    go_enter Try.func16, Try.ntmps16
    go_wp2
    (repeat (go_step3; (try go_wp2)))
    go_loopg [6] 9 (fun kq v6 w' => ∃ (m : Nat) (L' : List Int), v6 = .int .i64 (m : Int) ∧ m < kq ∧ m ≤ 8 ∧ Aside0 (L' ++ pack_bytes n m = L ++ pack_bytes n size.toNat) ∧ Aside0 (L'.length + m ≤ L.length + 8) ∧ Aside0 (Mine.IsV 47 5 B O w' g L' e) ∧ Aside0 (Mine.Bar (Mine.Wb B O g) w w'))
    case atStart => exact ⟨size.toNat, L, by rw [Int.toNat_of_nonneg (by omega)], by omega, by omega, ⟨rfl⟩, ⟨by omega⟩, HW, ⟨Mine.Bar.refl _ _⟩⟩
    case round =>
      obtain ⟨m, L', rfl, hmk, hm8, hLL, hlen, hM, hBr⟩ := hrel
      cases m with
      | zero =>
        have z1 : ((((0 : Nat) : Int)) == 0) = true := rfl
        go_wp2
        (try simp only [Exit.noGoto])
        go_end0
        have hLL := hLL.out
        rw [pack_bytes, List.append_nil] at hLL
        exact ⟨rfl, by rw [← hLL]; exact hM.out, hBr.out⟩
      | succ m =>
        have z1 : ((((m + 1 : Nat) : Int)) == 0) = false := beq_eq_false_iff_ne.2 (by omega)
        have z2 : IntKind.i64.wrap ((((m + 1 : Nat) : Int)) - 1) = (m : Int) := by rw [i64_w]; simp only [wrap64, IntKind.wrap]; (try simp [IntKind.bits, IntKind.signed]); omega
        have z3 : IntKind.i64.wrap (8 * (m : Int)) = 8 * (m : Int) := by rw [i64_w]; simp only [wrap64, IntKind.wrap]; (try simp [IntKind.bits, IntKind.signed]); omega
        have z4 : 0 ≤ 8 * (m : Int) := by omega
        have z5 : 8 * (m : Int) ≤ 64 := by omega
        obtain ⟨k1, rfl⟩ : ∃ k1, gk = k1 + 1 := ⟨gk - 1, by omega⟩
        obtain ⟨⟨v, hb, hR⟩, hg, hog⟩ := hM.out
        obtain ⟨A1, cp, ev⟩ := Kd.R_slice hR
        subst ev
        have c0 : wr.cell? ⟨g, 0, none⟩ = some (.slice A1 L'.length cp) := (blk_cell hb 0).trans rfl
        have f0 := blk_frozen hb 0
        have hn0 := World.new_ne wr _ c0
        have HBk := Aside0.mk hb
        have HR := Aside0.mk hR
        go_wp2
        clear hb hR
        have ca : (wr.alloc (.cells #[.int .u8 (IntKind.u8.wrap (n / 2 ^ (8 * (m : Int)).toNat))] 5)).cell? ⟨g, 0, none⟩ = some (.slice A1 L'.length cp) := (blk_cell (blk_alloc HBk.out _) 0).trans rfl
        go_region_law ((refine Mine.V_append_step (B := B) (O := O) (g := g) 47 (w := w) rfl (.tmp 35) (.tmp 41) 30 rfl Try.underlying30 info5 (.slice A1 L'.length cp) L' (IntKind.u8.wrap (n / 2 ^ (8 * (m : Int)).toNat)) rfl rfl HBk.out HR.out hog hO hBr.out hg HB.out (by have := HL.out; have := hlen.out; omega) ?_; intro A2 cp2 w1 e0 ho hb; have c0x := (blk_cell e0 0).trans rfl; have f0x := blk_frozen e0 0; have HE := Aside0.mk e0; have HO1 := Aside0.mk ho; have HB1 := Aside0.mk hb; clear e0 ho hb))
        all_goals
          go_wp2
          go_roundg k1
          case measure => omega
          case rel => exact ⟨m, L' ++ [IntKind.u8.wrap (n / 2 ^ (8 * (m : Int)).toNat)], rfl, by omega, by omega, ⟨by rw [List.append_assoc]; exact hLL.out⟩, ⟨by have := hlen.out; rw [List.length_append]; simp; omega⟩, ⟨⟨_, blk_put HE.out 0 _ rfl, Kd.R_far (by have h_ := HO1.out; rw [List.length_append] at h_; exact h_) (p := ⟨g, 0, none⟩) (fun k hk (e_ : k = g) => hog (e_ ▸ hk)) _⟩, hg, hog⟩, ⟨HB1.out.setCell (Or.inl rfl) _ _⟩⟩
set_option maxHeartbeats 8000000 in
set_option maxRecDepth 100000 in
theorem pkv_Num.fails (B : Nat) (O : Nat → Prop) (g : Nat) (L : List Int) (e n size : Int) (w : World) (h : Mine.IsV 47 5 B O w g L e) (hb : size < 1 ∨ 8 < size ∨ (size < 8 ∧ n / 2 ^ (8 * size).toNat ≠ 0)) :
    Calls Try.prog 16 #[.pointer (some ⟨g, 0, none⟩), .int .u64 n, .int .i64 size] w fun r w' => r = .returned (.tuple #[]) ∧ Mine.IsV 47 5 B O w' g L (if e = 0 then 1 else e) ∧ Mine.Bar (Mine.Wb B O g) w w' := by
  have HW := Aside0.mk h
  clear h
  by_cases c1 : size < 1
  · have d1 : decide (size < 1) = true := decide_eq_true c1
    clear hb c1
    go_enter Try.func16, Try.ntmps16
    go_wp2
    (repeat (go_step3; (try go_wp2_with (first | (go_at_call 32; (refine (pkv_fail.calls B O g L e 1 _ HW.out).mono ?_); rintro r w1 ⟨rfl, hW1, hB1⟩)))))
    (try rw [Exit.noGoto_ret])
    first | go_end0 | ((try simp only [Exit.inBlock, Exit.then]); refine bodyPost_ret (results_none rfl _ _ _) rfl ?_)
    exact ⟨rfl, hW1, hB1⟩
  · have d1 : decide (size < 1) = false := decide_eq_false c1
    by_cases c2 : 8 < size
    · have d2 : decide (8 < size) = true := decide_eq_true c2
      clear hb c1 c2
      go_enter Try.func16, Try.ntmps16
      go_wp2
      (repeat (go_step3; (try go_wp2_with (first | (go_at_call 32; (refine (pkv_fail.calls B O g L e 1 _ HW.out).mono ?_); rintro r w1 ⟨rfl, hW1, hB1⟩)))))
      (try rw [Exit.noGoto_ret])
      first | go_end0 | ((try simp only [Exit.inBlock, Exit.then]); refine bodyPost_ret (results_none rfl _ _ _) rfl ?_)
      exact ⟨rfl, hW1, hB1⟩
    · have d2 : decide (8 < size) = false := decide_eq_false c2
      obtain ⟨h8, hq⟩ : size < 8 ∧ n / 2 ^ (8 * size).toNat ≠ 0 := by omega
      have d3 : decide (size < 8) = true := decide_eq_true h8
      have w1 : IntKind.i64.wrap (8 * size) = 8 * size := by rw [i64_w]; simp only [wrap64, IntKind.wrap]; (try simp [IntKind.bits, IntKind.signed]); omega
      have s1 : 0 ≤ 8 * size := by omega
      have s2 : 8 * size ≤ 64 := by omega
      have q1 : (n / 2 ^ (8 * size).toNat != 0) = true := bne_iff_ne.2 hq
      clear hb hq
      go_enter Try.func16, Try.ntmps16
      go_wp2
      (repeat (go_step3; (try go_wp2_with (first | (go_at_call 32; (refine (pkv_fail.calls B O g L e 1 _ HW.out).mono ?_); rintro r w1 ⟨rfl, hW1, hB1⟩)))))
      (try rw [Exit.noGoto_ret])
      first | go_end0 | ((try simp only [Exit.inBlock, Exit.then]); refine bodyPost_ret (results_none rfl _ _ _) rfl ?_)
      exact ⟨rfl, hW1, hB1⟩
/-- What a writer is behind a number. -/
def pack_num (s : List Int × Int) (n size : Int) : List Int × Int := if size < 1 ∨ 8 < size ∨ (size < 8 ∧ n / 2 ^ (8 * size).toNat ≠ 0) then (s.1, if s.2 = 0 then 1 else s.2) else (s.1 ++ pack_bytes n size.toNat, s.2)
theorem pkv_Num.calls (B : Nat) (O : Nat → Prop) (g : Nat) (L : List Int) (e n size : Int) (w : World) (h : Mine.IsV 47 5 B O w g L e) (hB : B ≤ w.heap.size) (hO : ∀ k, w.heap.size ≤ k → O k) (hl : L.length + 8 ≤ 140737488355328) :
    Calls Try.prog 16 #[.pointer (some ⟨g, 0, none⟩), .int .u64 n, .int .i64 size] w fun r w' => r = .returned (.tuple #[]) ∧ Mine.IsV 47 5 B O w' g (pack_num (L, e) n size).1 (pack_num (L, e) n size).2 ∧ Mine.Bar (Mine.Wb B O g) w w' := by
  unfold pack_num
  by_cases hb : size < 1 ∨ 8 < size ∨ (size < 8 ∧ n / 2 ^ (8 * size).toNat ≠ 0)
  · rw [if_pos hb]
    exact pkv_Num.fails B O g L e n size w h hb
  · rw [if_neg hb]
    exact pkv_Num.lays B O g L e n size w h hB hO hl (by omega) (by omega) (fun h8 => Decidable.byContradiction fun hq => hb (.inr (.inr ⟨h8, hq⟩)))
/-- What a writer is behind a text. -/
def pack_text (s : List Int × Int) (t : ByteArray) : List Int × Int := if (t.size : Int) > 65535 then (s.1, if s.2 = 0 then 4 else s.2) else ((pack_num s (IntKind.u64.wrap (t.size : Int)) 2).1 ++ bytesOf t, (pack_num s (IntKind.u64.wrap (t.size : Int)) 2).2)
theorem pack_bytes_length (n : Int) : ∀ m : Nat, (pack_bytes n m).length = m
  | 0 => rfl
  | m + 1 => by rw [pack_bytes, List.length_cons, pack_bytes_length n m]
theorem pack_num_length (s : List Int × Int) (n size : Int) : (pack_num s n size).1.length ≤ s.1.length + 8 := by
  unfold pack_num
  split
  · simp
  · simp only [List.length_append, pack_bytes_length]
    omega
set_option maxHeartbeats 8000000 in
set_option maxRecDepth 100000 in
theorem pkv_Text.calls (B : Nat) (O : Nat → Prop) (g : Nat) (L : List Int) (e : Int) (t : ByteArray) (w : World) (h : Mine.IsV 47 5 B O w g L e) (hB : B ≤ w.heap.size) (hO : ∀ k, w.heap.size ≤ k → O k) (hl : L.length + 65600 ≤ 140737488355328) :
    Calls Try.prog 19 #[.pointer (some ⟨g, 0, none⟩), .string t] w fun r w' => r = .returned (.tuple #[]) ∧ Mine.IsV 47 5 B (fun k => k ≠ g) w' g (pack_text (L, e) t).1 (pack_text (L, e) t).2 ∧ Below B w w' := by
  have hgB := h.bg
  have HW := Aside0.mk h
  have HB := Aside0.mk hB
  have HL := Aside0.mk hl
  clear h hB hl
  unfold pack_text
  by_cases c1 : (t.size : Int) > 65535
  · rw [if_pos c1]
    have d1 : decide (65535 < (t.size : Int)) = true := decide_eq_true c1
    have d2 : decide (65535 < t.size) = true := decide_eq_true (by omega)
    clear c1
    simp only
    generalize hee : (if e = 0 then (4 : Int) else e) = ee
    go_enter Try.func19, Try.ntmps19
    go_wp2_with (first | (go_at_call 32; (refine (pkv_fail.calls B O g L e 4 _ HW.out).mono ?_); rintro r w1 ⟨rfl, hW1, hB1⟩; rw [hee] at hW1; have hB1 := hB1.beneath hgB HB.out; have hW1 := hW1.more (O2 := fun k => k ≠ g) (fun k _ hk e_ => hW1.og (e_ ▸ hk)) (fun h_ => h_ rfl)))
    first | go_end0 | ((try simp only [Exit.inBlock, Exit.then]); refine bodyPost_ret (results_none rfl _ _ _) rfl ?_)
    exact ⟨rfl, hW1, hB1⟩
  · rw [if_neg c1]
    have d1 : decide (65535 < (t.size : Int)) = false := decide_eq_false c1
    have d2 : decide (65535 < t.size) = false := decide_eq_false (by omega)
    have c1' := Aside0.mk c1
    clear c1
    generalize hnn : IntKind.u64.wrap (t.size : Int) = nn
    have hq := Aside0.mk (pack_num_length (L, e) nn 2)
    generalize hqq : pack_num (L, e) nn 2 = qq at hq
    obtain ⟨L1, e1⟩ := qq
    go_enter Try.func19, Try.ntmps19
    go_wp2_with (first | (go_at_call 16; (refine (pkv_Num.calls B O g L e nn 2 _ HW.out HB.out hO (by have := HL.out; omega)).mono ?_); rintro r w1 ⟨rfl, hW1, hB1⟩; rw [hqq] at hW1; have hB1 := hB1.beneath hgB HB.out; have hW1 := hW1.more (O2 := fun k => k ≠ g) (fun k _ hk e_ => hW1.og (e_ ▸ hk)) (fun h_ => h_ rfl); obtain ⟨⟨v, hb, hR⟩, hg, hog⟩ := hW1; obtain ⟨A1, cp, ev⟩ := Kd.R_slice hR; subst ev; have c0 : w1.cell? ⟨g, 0, none⟩ = some (.slice A1 L1.length cp) := (blk_cell hb 0).trans rfl; have HBk := Aside0.mk hb; have HR := Aside0.mk hR; have HB1 := Aside0.mk hB1; have HG := Aside0.mk hg; clear hb hR hB1 hg) | (at_builtin; refine print_append_str (w0 := w) B rfl (.tmp 18) (.tmp 19) 30 9 5 rfl Try.underlying30 Try.underlying9 info5 (.slice A1 L1.length cp) L1 t rfl rfl (Kd.own_of_R HR.out) HB1.out (Nat.le_trans HB.out HB1.out.size) (by have := HL.out; have h9 : L1.length ≤ L.length + 8 := hq.out; have := c1'.out; omega) ?_; intro v1 w2 ho hb hg; obtain ⟨A2, cp2, ev2⟩ := own_slice ho; subst ev2; have e0 := blk_grown HBk.out hg (fun e_ => HR.out.1 g e_.symm rfl); have ho2 := Kd.R_types (Kd.R_of_own (h1 := fun _ => rfl) (ok := fun _ => True) ho (fun _ _ => trivial)) e0 (by decide); have f0 := blk_frozen e0 0; have c02 : w2.cell? ⟨g, 0, none⟩ = some (.slice A1 L1.length cp) := (blk_cell e0 0).trans rfl; have HE := Aside0.mk e0; have HO := Aside0.mk ho2; have HB2 := Aside0.mk hb; clear e0 ho2 ho hb hg))
    first | go_end0 | ((try simp only [Exit.inBlock, Exit.then]); refine bodyPost_ret (results_none rfl _ _ _) rfl ?_)
    exact ⟨rfl, ⟨⟨_, blk_put HE.out 0 _ rfl, (by have h_ := HO.out; rw [List.length_append] at h_; exact Kd.R_far (Kd.R_mono h_ (fun _ hk => hk.2)) (p := ⟨g, 0, none⟩) (fun k hk => hk) _)⟩, HG.out, hog⟩, HB2.out.setCell HG.out _⟩
set_option maxHeartbeats 8000000 in
set_option maxRecDepth 100000 in
theorem pkv_Bytes.calls (B : Nat) (O : Nat → Prop) (g : Nat) (L : List Int) (e : Int) (w : World) (h : Mine.IsV 47 5 B O w g L e) (hl : L.length ≤ 140737488355328) :
    Calls Try.prog 20 #[.pointer (some ⟨g, 0, none⟩)] w fun r w' => ∃ v_ : Value, r = .returned (.tuple #[v_, .int .i64 e]) ∧ Kd.R (Kd.int .u8) 5 w' w.heap.size (fun _ => True) v_ (if e = 0 then L else []) ∧ Below w.heap.size w w' := by
  obtain ⟨⟨v, hb, hR⟩, hg, hog⟩ := h
  obtain ⟨A1, cp, ev, hcp, hC⟩ := Kd.R_reads hR
  subst ev
  have c0 : w.cell? ⟨g, 0, none⟩ = some (.slice A1 L.length cp) := (blk_cell hb 0).trans rfl
  have c1 : w.cell? ⟨g, 1, none⟩ = some (.int .i64 e) := (blk_cell hb 1).trans rfl
  have HR := Aside0.mk hR
  have HC := Aside0.mk hC
  clear hb hg hR hC
  by_cases he : e = 0
  · rw [if_pos he]
    subst he
    go_enter Try.func20, Try.ntmps20
    go_wp2_with (first | ((with_reducible refine gate_dst (N := 13) rfl ?_); refine Kd.R_lit (Kd.int .u8) w.heap.size 5 ?hg (N := 13) ?hd (xs := ([] : List Int)) (inner := []) (ok := fun _ => True) (okp := fun _ => True) ?hr ?hp (fun _ hk => hk) trivial (Below.refl _ _) (Nat.le_refl _) (by simp) ?_; (case hd => rfl); (case hg => rfl); (case hr => first | (go_simp; done) | (go_simp; rfl)); (case hp => exact (Reps.none _ _)); intro v2 w2 ho hb hg_ hnew_; have c02 : w2.cell? ⟨g, 0, none⟩ = some (.slice A1 L.length cp) := hb.cell (World.block_lt_of_cell? w _ c0) |>.trans c0; have HC2 := Aside0.mk (Kd.C_below HC.out hb); have HO := Aside0.mk ho; have HB2 := Aside0.mk hb; clear ho hb hg_ hnew_) | (at_builtin; refine Kd.R_append_row (Value.int .u8) 0 (w0 := w) w.heap.size rfl (.tmp 13) (.tmp 17) 30 5 (.int .u8 0) 1 rfl Try.underlying30 info5 rfl (by decide) v2 [] L A1 L.length cp (fun _ => True) rfl rfl (fun _ _ => trivial) HO.out HC2.out HB2.out HB2.out.size (by simp; omega) ?_; intro v3 w3 ho hb hg hat; have HO3 := Aside0.mk ho; have HB3 := Aside0.mk hb; clear ho hb hg hat))
    go_ret2
    exact ⟨_, rfl, HO3.out, HB3.out⟩
  · rw [if_neg he]
    have he1 := beq_eq_false_iff_ne.2 he
    have he2 := bne_iff_ne.2 he
    go_enter Try.func20, Try.ntmps20
    go_wp2
    repeat (go_quiet (fail); try go_wp2)
    go_ret2
    exact ⟨_, rfl, Kd.R_nil _ _ _ _ _, pw_below_drewN (Below.refl _ _) _⟩
set_option maxHeartbeats 8000000 in
set_option maxRecDepth 100000 in
theorem pkv_all1.calls (B : Nat) (O : Nat → Prop) (g : Nat) (L : List Int) (e n size : Int) (A0 : Option Addr) (c0 : Nat) (w : World) (h : Mine.IsV 47 5 B O w g L e) (hB : B ≤ w.heap.size) (hO : ∀ k, w.heap.size ≤ k → O k) (hl : L.length + 8 ≤ 140737488355328) (hC : Kd.C (Kd.int .u64) w A0 1 [n]) :
    Calls Try.prog 18 #[.func (.func 16) #[.pointer (some ⟨g, 0, none⟩)] #[], .int .i64 size, .slice A0 1 c0] w fun r w' => r = .returned (.tuple #[]) ∧ Mine.IsV 47 5 B O w' g (pack_num (L, e) n size).1 (pack_num (L, e) n size).2 ∧ Mine.Bar (Mine.Wb B O g) w w' := by
  have HW := Aside0.mk h
  have HB := Aside0.mk hB
  have HL := Aside0.mk hl
  have HO := Aside0.mk hO
  obtain ⟨ad, e0, x0⟩ := Kd.at_int hC 0 (by decide) (by decide)
  have x0 : w.cell? ad = some (.int .u64 n) := by have := x0; simpa [rd, Addr.add] using this
  cases e0
  clear h hB hl hC hO
  go_enter Try.func18, Try.ntmps18
  go_wp2
  refine wp_loop_rounds 2 ?_
  rw [rounds_succ]
  go_wp2_with (first | (go_at_call 16; (refine (pkv_Num.calls B O g L e n size _ HW.out HB.out HO.out HL.out).mono ?_); rintro r w1 ⟨rfl, hW1, hB1⟩; have HW1 := Aside0.mk hW1; have HB1 := Aside0.mk hB1; clear hW1 hB1))
  rw [rounds_succ]
  go_wp2
  first | go_end0 | ((try simp only [Exit.inBlock, Exit.then]); refine bodyPost_ret (results_none rfl _ _ _) rfl ?_)
  exact ⟨rfl, HW1.out, HB1.out⟩
theorem msg_cells {W : World} {g : Nat} {v0 v1 v2 v3 v4 v5 v6 v7 v8 v9 v10 v11 v12 v13 v14 : Value} (h : W.heap[g]? = some (.cells #[v0, v1, v2, v3, v4, v5, v6, v7, v8, v9, v10, v11, v12, v13, v14] 28 (0, 0))) : W.cell? ⟨g, 0, none⟩ = some v0 ∧ W.cell? ⟨g, 1, none⟩ = some v1 ∧ W.cell? ⟨g, 2, none⟩ = some v2 ∧ W.cell? ⟨g, 3, none⟩ = some v3 ∧ W.cell? ⟨g, 4, none⟩ = some v4 ∧ W.cell? ⟨g, 5, none⟩ = some v5 ∧ W.cell? ⟨g, 6, none⟩ = some v6 ∧ W.cell? ⟨g, 7, none⟩ = some v7 ∧ W.cell? ⟨g, 8, none⟩ = some v8 ∧ W.cell? ⟨g, 9, none⟩ = some v9 ∧ W.cell? ⟨g, 10, none⟩ = some v10 ∧ W.cell? ⟨g, 11, none⟩ = some v11 ∧ W.cell? ⟨g, 12, none⟩ = some v12 ∧ W.cell? ⟨g, 13, none⟩ = some v13 ∧ W.cell? ⟨g, 14, none⟩ = some v14 :=
  ⟨(blk_cell h 0).trans rfl, (blk_cell h 1).trans rfl, (blk_cell h 2).trans rfl, (blk_cell h 3).trans rfl, (blk_cell h 4).trans rfl, (blk_cell h 5).trans rfl, (blk_cell h 6).trans rfl, (blk_cell h 7).trans rfl, (blk_cell h 8).trans rfl, (blk_cell h 9).trans rfl, (blk_cell h 10).trans rfl, (blk_cell h 11).trans rfl, (blk_cell h 12).trans rfl, (blk_cell h 13).trans rfl, (blk_cell h 14).trans rfl⟩
/-- A message's encoding under way: the writer, the message in memory. -/
structure EncI (B : Nat) (O : Nat → Prop) (w0 w : World) (g mb : Nat) (cs : Array Value) (s : List Int × Int) : Prop where
  I : Mine.IsV 47 5 B O w g s.1 s.2
  M : w.heap[mb]? = some (.cells cs 28 (0, 0))
  Z : Below w0.heap.size w0 w
  hO : ∀ k, w.heap.size ≤ k → O k
  sz : B ≤ w.heap.size
  mb : mb < B
  b0 : w0.heap.size ≤ B
  len : s.1.length ≤ 10000000
theorem EncI.drewN {B : Nat} {O : Nat → Prop} {w0 w : World} {g mb : Nat} {cs : Array Value} {s : List Int × Int} (h : EncI B O w0 w g mb cs s) (n : Nat) : EncI B O w0 (w.drewN n) g mb cs s :=
  ⟨h.I.drewN n, h.M, pw_below_drewN h.Z n, h.hO, h.sz, h.mb, h.b0, h.len⟩
theorem EncI.bar {B : Nat} {O : Nat → Prop} {w0 w w1 : World} {g mb : Nat} {cs : Array Value} {s s1 : List Int × Int} (h : EncI B O w0 w g mb cs s) (hI : Mine.IsV 47 5 B O w1 g s1.1 s1.2) (hF : Mine.Bar (Mine.Wb B O g) w w1) (hl : s1.1.length ≤ 10000000) : EncI B O w0 w1 g mb cs s1 := by
  have hb := hF.beneath h.I.bg h.sz
  exact ⟨hI, (hb.block mb h.mb).trans h.M, h.Z.trans (hb.mono h.b0), fun k hk => h.hO k (Nat.le_trans hF.size hk), Nat.le_trans h.sz hF.size, h.mb, h.b0, hl⟩
theorem EncI.below {B : Nat} {O : Nat → Prop} {w0 w w1 : World} {g mb : Nat} {cs : Array Value} {s : List Int × Int} (h : EncI B O w0 w g mb cs s) (hF : Below w.heap.size w w1) : EncI B O w0 w1 g mb cs s :=
  ⟨h.I.below hF, blk_below h.M hF, h.Z.trans (hF.mono h.Z.size), fun k hk => h.hO k (Nat.le_trans hF.size hk), Nat.le_trans h.sz hF.size, h.mb, h.b0, h.len⟩
theorem enc_num {B : Nat} {O : Nat → Prop} {w0 w : World} {g mb : Nat} {cs : Array Value} {s : List Int × Int} (h : EncI B O w0 w g mb cs s) (n size : Int) (hl : s.1.length + 8 ≤ 10000000) :
    Calls Try.prog 16 #[.pointer (some ⟨g, 0, none⟩), .int .u64 n, .int .i64 size] w fun r w' => r = .returned (.tuple #[]) ∧ EncI B O w0 w' g mb cs (pack_num s n size) :=
  (pkv_Num.calls B O g s.1 s.2 n size w h.I h.sz h.hO (by omega)).mono (fun r w' hp => ⟨hp.1, h.bar hp.2.1 hp.2.2 (Nat.le_trans (pack_num_length s n size) (by omega))⟩)
theorem enc_all1 {B : Nat} {O : Nat → Prop} {w0 w : World} {g mb : Nat} {cs : Array Value} {s : List Int × Int} (h : EncI B O w0 w g mb cs s) (n size : Int) (hl : s.1.length + 8 ≤ 10000000) :
    Calls Try.prog 18 #[.func (.func 16) #[.pointer (some ⟨g, 0, none⟩)] #[], .int .i64 size, .slice (some ⟨w.heap.size, 0, none⟩) 1 1] (w.alloc (.cells #[.int .u64 n] 22)) fun r w' => r = .returned (.tuple #[]) ∧ EncI B O w0 w' g mb cs (pack_num s n size) ∧ Mine.Bar (Mine.Wb B O g) w w' := by
  have h1 := h.below (below_alloc (Below.refl _ _) (.cells #[.int .u64 n] 22))
  refine (pkv_all1.calls B O g s.1 s.2 n size (some ⟨w.heap.size, 0, none⟩) 1 _ h1.I h1.sz h1.hO (by omega) (mine_C_one .u64 22 w n)).mono (fun r w' hp => ?_)
  exact ⟨hp.1, h1.bar hp.2.1 hp.2.2 (Nat.le_trans (pack_num_length s n size) (by omega)), ((Mine.Bar.refl _ _).alloc _).trans hp.2.2⟩
theorem pack_text_length (s : List Int × Int) (t : ByteArray) : (pack_text s t).1.length ≤ s.1.length + 65543 := by
  unfold pack_text
  split
  · simp
  · have := pack_num_length s (IntKind.u64.wrap (t.size : Int)) 2
    simp only [List.length_append, bytesOf_length]
    omega
theorem enc_text {B : Nat} {O : Nat → Prop} {w0 w : World} {g mb : Nat} {cs : Array Value} {s : List Int × Int} (h : EncI B O w0 w g mb cs s) (t : ByteArray) (hl : s.1.length + 65543 ≤ 10000000) :
    Calls Try.prog 19 #[.pointer (some ⟨g, 0, none⟩), .string t] w fun r w' => r = .returned (.tuple #[]) ∧ EncI B (fun k => k ≠ g) w0 w' g mb cs (pack_text s t) :=
  (pkv_Text.calls B O g s.1 s.2 t w h.I h.sz h.hO (by omega)).mono (fun r w' hp => ⟨hp.1, hp.2.1, (hp.2.2.block mb h.mb).trans h.M, h.Z.trans (hp.2.2.mono h.b0), fun k hk e_ => by have := hp.2.1.lt; omega, Nat.le_trans h.sz hp.2.2.size, h.mb, h.b0, Nat.le_trans (pack_text_length s t) (by omega)⟩)
theorem enc_bytes {B : Nat} {O : Nat → Prop} {w0 w : World} {g mb : Nat} {cs : Array Value} {s : List Int × Int} (h : EncI B O w0 w g mb cs s) :
    Calls Try.prog 20 #[.pointer (some ⟨g, 0, none⟩)] w fun r w' => ∃ v_ : Value, r = .returned (.tuple #[v_, .int .i64 s.2]) ∧ Kd.R (Kd.int .u8) 5 w' w0.heap.size (fun _ => True) v_ (if s.2 = 0 then s.1 else []) ∧ Below w0.heap.size w0 w' :=
  (pkv_Bytes.calls B O g s.1 s.2 w h.I (by have := h.len; omega)).mono (fun r w' ⟨v_, h1, h2, h3⟩ => ⟨v_, h1, Kd.R_lower h2 h.Z.size, h.Z.trans (h3.mono h.Z.size)⟩)
def msg_lay1 (s : List Int × Int) (b : Int) : List Int × Int := pack_num s (IntKind.u64.wrap b) 1
/-- What is handed back of a writer. -/
def msg_out (s : List Int × Int) : List Int × Int := (if s.2 = 0 then s.1 else [], s.2)
def msg_Encode.f (k : Nat) (a0_0 : Int) (a0_1 : Int) (a0_2 : Int) (a0_3 : Int) (a0_4 : Int) (a0_5 : Int) (a0_6 : Int) (a0_7 : Int) (a0_8 : Int) (a0_9 : Int) (a0_10 : Int) (a0_11 : Int) (a0_12 : Int) (a0_13 : Int) (a0_14 : ByteArray) : Option (List Int × Int) := (msg_Right.f k a0_0 a0_1 a0_2 a0_3 a0_4 a0_5 a0_6 a0_7 a0_8 a0_9 a0_10 a0_11 a0_12 a0_13 a0_14).bind fun ok => if ok = true then (if a0_0 = 2 then ((data_Bytes.f k a0_5 a0_6 a0_7 a0_8 a0_9 a0_10 a0_11 a0_12 a0_13).bind fun BL => if BL.length ≤ 100000 then some (msg_out (pack_text (BL.foldl msg_lay1 (pack_num (pack_num (pack_num (pack_num ([], 0) (IntKind.u64.wrap a0_0) 1) a0_1 8) a0_2 8) (IntKind.u64.wrap a0_3) 1)) a0_14)) else none) else (if a0_0 = 4 ∨ a0_0 = 5 ∨ a0_0 = 7 then some (msg_out (pack_num (pack_num (pack_num (pack_num ([], 0) (IntKind.u64.wrap a0_0) 1) a0_1 8) a0_2 8) (IntKind.u64.wrap a0_4) 2)) else (if 1 < a0_0 then some (msg_out (pack_num (pack_num (pack_num ([], 0) (IntKind.u64.wrap a0_0) 1) a0_1 8) a0_2 8)) else some (msg_out (pack_num (pack_num ([], 0) (IntKind.u64.wrap a0_0) 1) a0_1 8))))) else some ([], 1)
set_option maxHeartbeats 8000000 in
set_option maxRecDepth 100000 in
theorem msg_enc_plain (k : Nat) (a0_0 : Int) (a0_1 : Int) (a0_2 : Int) (a0_3 : Int) (a0_4 : Int) (a0_5 : Int) (a0_6 : Int) (a0_7 : Int) (a0_8 : Int) (a0_9 : Int) (a0_10 : Int) (a0_11 : Int) (a0_12 : Int) (a0_13 : Int) (a0_14 : ByteArray) (w : World) (hr : msg_Right.f k a0_0 a0_1 a0_2 a0_3 a0_4 a0_5 a0_6 a0_7 a0_8 a0_9 a0_10 a0_11 a0_12 a0_13 a0_14 = some true) (h1 : ¬ 1 < a0_0) :
    Calls Try.prog 9 #[.agg #[.int .i64 a0_0, .int .u64 a0_1, .int .u64 a0_2, .int .i64 a0_3, .int .i64 a0_4, .int .u32 a0_5, .int .u32 a0_6, .int .u64 a0_7, .int .u64 a0_8, .int .u64 a0_9, .int .u64 a0_10, .int .u64 a0_11, .int .u64 a0_12, .int .u64 a0_13, .string a0_14]] w fun e w' => ∃ v0_ : Value, e = .returned (.tuple #[v0_, .int .i64 (msg_out (pack_num (pack_num ([], 0) (IntKind.u64.wrap a0_0) 1) a0_1 8)).2]) ∧ Kd.R (Kd.int .u8) 5 w' w.heap.size (fun _ => True) v0_ (msg_out (pack_num (pack_num ([], 0) (IntKind.u64.wrap a0_0) 1) a0_1 8)).1 ∧ Below w.heap.size w w' := by
    have HR := Aside0.mk hr
    have HBE := Aside0.mk (show msg_bears.f a0_0 = some (false, false, false) by unfold msg_bears.f; rw [if_neg (by omega), if_neg (by omega), decide_eq_false (by omega), beq_eq_false_iff_ne.2 (by omega), beq_eq_false_iff_ne.2 (by omega)])
    have L0 := Aside0.mk (show (pack_num ([], 0) (IntKind.u64.wrap a0_0) 1).1.length ≤ 8 from pack_num_length ([], 0) _ _)
    have L1 := Aside0.mk (show (pack_num (pack_num ([], 0) (IntKind.u64.wrap a0_0) 1) a0_1 8).1.length ≤ 16 from Nat.le_trans (pack_num_length _ _ _) (by have := L0.out; omega))
    have L2 := Aside0.mk (show (pack_num (pack_num (pack_num ([], 0) (IntKind.u64.wrap a0_0) 1) a0_1 8) a0_2 8).1.length ≤ 24 from Nat.le_trans (pack_num_length _ _ _) (by have := L1.out; omega))
    clear hr h1
    go_enter Try.func9, Try.ntmps9
    go_wp2_with (first | ((with_reducible refine gate_dst (N := 1) rfl ?_); refine box_event ?hg (N := 1) ?hd (cs := #[.int .i64 a0_0, .int .u64 a0_1, .int .u64 a0_2, .int .i64 a0_3, .int .i64 a0_4, .int .u32 a0_5, .int .u32 a0_6, .int .u64 a0_7, .int .u64 a0_8, .int .u64 a0_9, .int .u64 a0_10, .int .u64 a0_11, .int .u64 a0_12, .int .u64 a0_13, .string a0_14]) (t := 28) ?hr ?_; (case hd => rfl); (case hg => rfl); (case hr => first | (go_simp; done) | (go_simp; rfl)); intro mb GMr wm hbm hbb; obtain ⟨y0, y1, y2, y3, y4, y5, y6, y7, y8, y9, y10, y11, y12, y13, y14⟩ := msg_cells hbm; have GM := Aside0.mk GMr; have HM0 := Aside0.mk hbm; have HZ0 := Aside0.mk hbb; clear hbm hbb GMr) | (go_at_call 11; (refine (msg_Right.calls k a0_0 a0_1 a0_2 a0_3 a0_4 a0_5 a0_6 a0_7 a0_8 a0_9 a0_10 a0_11 a0_12 a0_13 a0_14 _ _ HR.out).mono ?_); rintro e w1 ⟨rfl, hB1⟩; clear y0 y1 y2 y3 y4 y5 y6 y7 y8 y9 y10 y11 y12 y13 y14; have HM1 := Aside0.mk (blk_below HM0.out hB1); obtain ⟨y0, y1, y2, y3, y4, y5, y6, y7, y8, y9, y10, y11, y12, y13, y14⟩ := msg_cells HM1.out; have HZ1 := Aside0.mk (HZ0.out.trans (hB1.mono HZ0.out.size)); have HS1 := Aside0.mk (Nat.le_trans (blk_lt HM0.out) hB1.size); clear hB1) | (go_at_call 15; (refine (msg_bears.calls a0_0 false false false _ HBE.out).mono ?_); rintro e w' ⟨rfl, ⟨nd, rfl⟩⟩; have HM1 := Aside0.mk (show (w1.drewN nd).heap[mb]? = _ from HM1.out); have HZ1 := Aside0.mk (pw_below_drewN HZ1.out nd); have HS1 := Aside0.mk (show mb + 1 ≤ (w1.drewN nd).heap.size from HS1.out)) | ((with_reducible refine gate_dst (N := 22) rfl ?_); refine box_event ?hg (N := 22) ?hd (cs := #[.slice none 0 0, .int .i64 0]) (t := 47) ?hr ?_; (case hd => rfl); (case hg => rfl); (case hr => first | (go_simp; done) | (go_simp; rfl)); intro gb GE wb hbk hbb; have hE : EncI (mb + 1) (fun k => k ≠ gb) w wb gb mb #[.int .i64 a0_0, .int .u64 a0_1, .int .u64 a0_2, .int .i64 a0_3, .int .i64 a0_4, .int .u32 a0_5, .int .u32 a0_6, .int .u64 a0_7, .int .u64 a0_8, .int .u64 a0_9, .int .u64 a0_10, .int .u64 a0_11, .int .u64 a0_12, .int .u64 a0_13, .string a0_14] ([], 0) := ⟨⟨⟨_, hbk, Kd.R_nil _ _ _ _ _⟩, by have h_ := HS1.out; rw [GE]; exact h_, fun h_ => h_ rfl⟩, blk_below HM1.out hbb, HZ1.out.trans (hbb.mono HZ1.out.size), fun k hk e_ => by have := blk_lt hbk; omega, Nat.le_trans HS1.out hbb.size, Nat.lt_succ_self _, by have := GM.out; omega, by simp⟩; clear y0 y1 y2 y3 y4 y5 y6 y7 y8 y9 y10 y11 y12 y13 y14; obtain ⟨y0, y1, y2, y3, y4, y5, y6, y7, y8, y9, y10, y11, y12, y13, y14⟩ := msg_cells hE.M; have HE := Aside0.mk hE; clear hE GE hbk hbb))
    go_wp2
    go_region_held3 (fun w' => w'.cell? ⟨mb, 0, none⟩ = some (.int .i64 a0_0)) (first | go_keep | exact y0) ((go_at_call 16; (refine (enc_num (by first | exact HE.out | exact HE.out.drewN 1) (IntKind.u64.wrap a0_0) 1 (by simp)).mono ?_); rintro e w' ⟨rfl, hE⟩; clear y0 y1 y2 y3 y4 y5 y6 y7 y8 y9 y10 y11 y12 y13 y14; obtain ⟨y0, y1, y2, y3, y4, y5, y6, y7, y8, y9, y10, y11, y12, y13, y14⟩ := msg_cells hE.M; have HE2 := Aside0.mk hE; clear hE HE))
    go_wp2
    go_region_held3 (fun w' => w'.cell? ⟨mb, 1, none⟩ = some (.int .u64 a0_1)) (first | go_keep | exact y1) ((go_at_call 16; (refine (enc_num (by first | exact HE2.out | exact HE2.out.drewN 1) (a0_1) 8 (by have := L0.out; omega)).mono ?_); rintro e w' ⟨rfl, hE⟩; clear y0 y1 y2 y3 y4 y5 y6 y7 y8 y9 y10 y11 y12 y13 y14; obtain ⟨y0, y1, y2, y3, y4, y5, y6, y7, y8, y9, y10, y11, y12, y13, y14⟩ := msg_cells hE.M; have HE3 := Aside0.mk hE; clear hE HE2))
    go_wp2_with (first | (go_at_call 20; (refine (enc_bytes HE3.out).mono ?_); rintro e w9 ⟨v9, rfl, hR9, hB9⟩; have HR9 := Aside0.mk hR9; have HB9 := Aside0.mk hB9; clear hR9 hB9))
    go_ret2
    exact ⟨_, rfl, HR9.out, HB9.out⟩
set_option maxHeartbeats 8000000 in
set_option maxRecDepth 100000 in
theorem msg_enc_id (k : Nat) (a0_0 : Int) (a0_1 : Int) (a0_2 : Int) (a0_3 : Int) (a0_4 : Int) (a0_5 : Int) (a0_6 : Int) (a0_7 : Int) (a0_8 : Int) (a0_9 : Int) (a0_10 : Int) (a0_11 : Int) (a0_12 : Int) (a0_13 : Int) (a0_14 : ByteArray) (w : World) (hr : msg_Right.f k a0_0 a0_1 a0_2 a0_3 a0_4 a0_5 a0_6 a0_7 a0_8 a0_9 a0_10 a0_11 a0_12 a0_13 a0_14 = some true) (h1 : 1 < a0_0) (h2 : a0_0 ≠ 2) (h3 : ¬ (a0_0 = 4 ∨ a0_0 = 5 ∨ a0_0 = 7)) :
    Calls Try.prog 9 #[.agg #[.int .i64 a0_0, .int .u64 a0_1, .int .u64 a0_2, .int .i64 a0_3, .int .i64 a0_4, .int .u32 a0_5, .int .u32 a0_6, .int .u64 a0_7, .int .u64 a0_8, .int .u64 a0_9, .int .u64 a0_10, .int .u64 a0_11, .int .u64 a0_12, .int .u64 a0_13, .string a0_14]] w fun e w' => ∃ v0_ : Value, e = .returned (.tuple #[v0_, .int .i64 (msg_out (pack_num (pack_num (pack_num ([], 0) (IntKind.u64.wrap a0_0) 1) a0_1 8) a0_2 8)).2]) ∧ Kd.R (Kd.int .u8) 5 w' w.heap.size (fun _ => True) v0_ (msg_out (pack_num (pack_num (pack_num ([], 0) (IntKind.u64.wrap a0_0) 1) a0_1 8) a0_2 8)).1 ∧ Below w.heap.size w w' := by
    have HR := Aside0.mk hr
    have HBE := Aside0.mk (show msg_bears.f a0_0 = some (true, false, false) by unfold msg_bears.f; rw [if_neg (by omega), if_neg (by omega), decide_eq_true (by omega), beq_eq_false_iff_ne.2 (by omega), beq_eq_false_iff_ne.2 (by omega)])
    have L0 := Aside0.mk (show (pack_num ([], 0) (IntKind.u64.wrap a0_0) 1).1.length ≤ 8 from pack_num_length ([], 0) _ _)
    have L1 := Aside0.mk (show (pack_num (pack_num ([], 0) (IntKind.u64.wrap a0_0) 1) a0_1 8).1.length ≤ 16 from Nat.le_trans (pack_num_length _ _ _) (by have := L0.out; omega))
    have L2 := Aside0.mk (show (pack_num (pack_num (pack_num ([], 0) (IntKind.u64.wrap a0_0) 1) a0_1 8) a0_2 8).1.length ≤ 24 from Nat.le_trans (pack_num_length _ _ _) (by have := L1.out; omega))
    clear hr h1 h2 h3
    go_enter Try.func9, Try.ntmps9
    go_wp2_with (first | ((with_reducible refine gate_dst (N := 1) rfl ?_); refine box_event ?hg (N := 1) ?hd (cs := #[.int .i64 a0_0, .int .u64 a0_1, .int .u64 a0_2, .int .i64 a0_3, .int .i64 a0_4, .int .u32 a0_5, .int .u32 a0_6, .int .u64 a0_7, .int .u64 a0_8, .int .u64 a0_9, .int .u64 a0_10, .int .u64 a0_11, .int .u64 a0_12, .int .u64 a0_13, .string a0_14]) (t := 28) ?hr ?_; (case hd => rfl); (case hg => rfl); (case hr => first | (go_simp; done) | (go_simp; rfl)); intro mb GMr wm hbm hbb; obtain ⟨y0, y1, y2, y3, y4, y5, y6, y7, y8, y9, y10, y11, y12, y13, y14⟩ := msg_cells hbm; have GM := Aside0.mk GMr; have HM0 := Aside0.mk hbm; have HZ0 := Aside0.mk hbb; clear hbm hbb GMr) | (go_at_call 11; (refine (msg_Right.calls k a0_0 a0_1 a0_2 a0_3 a0_4 a0_5 a0_6 a0_7 a0_8 a0_9 a0_10 a0_11 a0_12 a0_13 a0_14 _ _ HR.out).mono ?_); rintro e w1 ⟨rfl, hB1⟩; clear y0 y1 y2 y3 y4 y5 y6 y7 y8 y9 y10 y11 y12 y13 y14; have HM1 := Aside0.mk (blk_below HM0.out hB1); obtain ⟨y0, y1, y2, y3, y4, y5, y6, y7, y8, y9, y10, y11, y12, y13, y14⟩ := msg_cells HM1.out; have HZ1 := Aside0.mk (HZ0.out.trans (hB1.mono HZ0.out.size)); have HS1 := Aside0.mk (Nat.le_trans (blk_lt HM0.out) hB1.size); clear hB1) | (go_at_call 15; (refine (msg_bears.calls a0_0 true false false _ HBE.out).mono ?_); rintro e w' ⟨rfl, ⟨nd, rfl⟩⟩; have HM1 := Aside0.mk (show (w1.drewN nd).heap[mb]? = _ from HM1.out); have HZ1 := Aside0.mk (pw_below_drewN HZ1.out nd); have HS1 := Aside0.mk (show mb + 1 ≤ (w1.drewN nd).heap.size from HS1.out)) | ((with_reducible refine gate_dst (N := 22) rfl ?_); refine box_event ?hg (N := 22) ?hd (cs := #[.slice none 0 0, .int .i64 0]) (t := 47) ?hr ?_; (case hd => rfl); (case hg => rfl); (case hr => first | (go_simp; done) | (go_simp; rfl)); intro gb GE wb hbk hbb; have hE : EncI (mb + 1) (fun k => k ≠ gb) w wb gb mb #[.int .i64 a0_0, .int .u64 a0_1, .int .u64 a0_2, .int .i64 a0_3, .int .i64 a0_4, .int .u32 a0_5, .int .u32 a0_6, .int .u64 a0_7, .int .u64 a0_8, .int .u64 a0_9, .int .u64 a0_10, .int .u64 a0_11, .int .u64 a0_12, .int .u64 a0_13, .string a0_14] ([], 0) := ⟨⟨⟨_, hbk, Kd.R_nil _ _ _ _ _⟩, by have h_ := HS1.out; rw [GE]; exact h_, fun h_ => h_ rfl⟩, blk_below HM1.out hbb, HZ1.out.trans (hbb.mono HZ1.out.size), fun k hk e_ => by have := blk_lt hbk; omega, Nat.le_trans HS1.out hbb.size, Nat.lt_succ_self _, by have := GM.out; omega, by simp⟩; clear y0 y1 y2 y3 y4 y5 y6 y7 y8 y9 y10 y11 y12 y13 y14; obtain ⟨y0, y1, y2, y3, y4, y5, y6, y7, y8, y9, y10, y11, y12, y13, y14⟩ := msg_cells hE.M; have HE := Aside0.mk hE; clear hE GE hbk hbb))
    go_wp2
    go_region_held3 (fun w' => w'.cell? ⟨mb, 0, none⟩ = some (.int .i64 a0_0)) (first | go_keep | exact y0) ((go_at_call 16; (refine (enc_num (by first | exact HE.out | exact HE.out.drewN 1) (IntKind.u64.wrap a0_0) 1 (by simp)).mono ?_); rintro e w' ⟨rfl, hE⟩; clear y0 y1 y2 y3 y4 y5 y6 y7 y8 y9 y10 y11 y12 y13 y14; obtain ⟨y0, y1, y2, y3, y4, y5, y6, y7, y8, y9, y10, y11, y12, y13, y14⟩ := msg_cells hE.M; have HE2 := Aside0.mk hE; clear hE HE))
    go_wp2
    go_region_held3 (fun w' => w'.cell? ⟨mb, 1, none⟩ = some (.int .u64 a0_1)) (first | go_keep | exact y1) ((go_at_call 16; (refine (enc_num (by first | exact HE2.out | exact HE2.out.drewN 1) (a0_1) 8 (by have := L0.out; omega)).mono ?_); rintro e w' ⟨rfl, hE⟩; clear y0 y1 y2 y3 y4 y5 y6 y7 y8 y9 y10 y11 y12 y13 y14; obtain ⟨y0, y1, y2, y3, y4, y5, y6, y7, y8, y9, y10, y11, y12, y13, y14⟩ := msg_cells hE.M; have HE3 := Aside0.mk hE; clear hE HE2))
    go_wp2
    go_region_held3 (fun w' => w'.cell? ⟨mb, 2, none⟩ = some (.int .u64 a0_2)) (first | go_keep | exact y2) ((go_at_call 16; (refine (enc_num (by first | exact HE3.out | exact HE3.out.drewN 1) (a0_2) 8 (by have := L1.out; omega)).mono ?_); rintro e w' ⟨rfl, hE⟩; clear y0 y1 y2 y3 y4 y5 y6 y7 y8 y9 y10 y11 y12 y13 y14; obtain ⟨y0, y1, y2, y3, y4, y5, y6, y7, y8, y9, y10, y11, y12, y13, y14⟩ := msg_cells hE.M; have HE4 := Aside0.mk hE; clear hE HE3))
    go_wp2_with (first | (go_at_call 20; (refine (enc_bytes HE4.out).mono ?_); rintro e w9 ⟨v9, rfl, hR9, hB9⟩; have HR9 := Aside0.mk hR9; have HB9 := Aside0.mk hB9; clear hR9 hB9))
    go_ret2
    exact ⟨_, rfl, HR9.out, HB9.out⟩
set_option maxHeartbeats 8000000 in
set_option maxRecDepth 100000 in
theorem msg_enc_val (k : Nat) (a0_0 : Int) (a0_1 : Int) (a0_2 : Int) (a0_3 : Int) (a0_4 : Int) (a0_5 : Int) (a0_6 : Int) (a0_7 : Int) (a0_8 : Int) (a0_9 : Int) (a0_10 : Int) (a0_11 : Int) (a0_12 : Int) (a0_13 : Int) (a0_14 : ByteArray) (w : World) (hr : msg_Right.f k a0_0 a0_1 a0_2 a0_3 a0_4 a0_5 a0_6 a0_7 a0_8 a0_9 a0_10 a0_11 a0_12 a0_13 a0_14 = some true) (h3 : a0_0 = 4 ∨ a0_0 = 5 ∨ a0_0 = 7) :
    Calls Try.prog 9 #[.agg #[.int .i64 a0_0, .int .u64 a0_1, .int .u64 a0_2, .int .i64 a0_3, .int .i64 a0_4, .int .u32 a0_5, .int .u32 a0_6, .int .u64 a0_7, .int .u64 a0_8, .int .u64 a0_9, .int .u64 a0_10, .int .u64 a0_11, .int .u64 a0_12, .int .u64 a0_13, .string a0_14]] w fun e w' => ∃ v0_ : Value, e = .returned (.tuple #[v0_, .int .i64 (msg_out (pack_num (pack_num (pack_num (pack_num ([], 0) (IntKind.u64.wrap a0_0) 1) a0_1 8) a0_2 8) (IntKind.u64.wrap a0_4) 2)).2]) ∧ Kd.R (Kd.int .u8) 5 w' w.heap.size (fun _ => True) v0_ (msg_out (pack_num (pack_num (pack_num (pack_num ([], 0) (IntKind.u64.wrap a0_0) 1) a0_1 8) a0_2 8) (IntKind.u64.wrap a0_4) 2)).1 ∧ Below w.heap.size w w' := by
    have HR := Aside0.mk hr
    have HBE := Aside0.mk (show msg_bears.f a0_0 = some (true, false, true) by unfold msg_bears.f; rcases h3 with rfl | rfl | rfl <;> rfl)
    have L0 := Aside0.mk (show (pack_num ([], 0) (IntKind.u64.wrap a0_0) 1).1.length ≤ 8 from pack_num_length ([], 0) _ _)
    have L1 := Aside0.mk (show (pack_num (pack_num ([], 0) (IntKind.u64.wrap a0_0) 1) a0_1 8).1.length ≤ 16 from Nat.le_trans (pack_num_length _ _ _) (by have := L0.out; omega))
    have L2 := Aside0.mk (show (pack_num (pack_num (pack_num ([], 0) (IntKind.u64.wrap a0_0) 1) a0_1 8) a0_2 8).1.length ≤ 24 from Nat.le_trans (pack_num_length _ _ _) (by have := L1.out; omega))
    clear hr h3
    go_enter Try.func9, Try.ntmps9
    go_wp2_with (first | ((with_reducible refine gate_dst (N := 1) rfl ?_); refine box_event ?hg (N := 1) ?hd (cs := #[.int .i64 a0_0, .int .u64 a0_1, .int .u64 a0_2, .int .i64 a0_3, .int .i64 a0_4, .int .u32 a0_5, .int .u32 a0_6, .int .u64 a0_7, .int .u64 a0_8, .int .u64 a0_9, .int .u64 a0_10, .int .u64 a0_11, .int .u64 a0_12, .int .u64 a0_13, .string a0_14]) (t := 28) ?hr ?_; (case hd => rfl); (case hg => rfl); (case hr => first | (go_simp; done) | (go_simp; rfl)); intro mb GMr wm hbm hbb; obtain ⟨y0, y1, y2, y3, y4, y5, y6, y7, y8, y9, y10, y11, y12, y13, y14⟩ := msg_cells hbm; have GM := Aside0.mk GMr; have HM0 := Aside0.mk hbm; have HZ0 := Aside0.mk hbb; clear hbm hbb GMr) | (go_at_call 11; (refine (msg_Right.calls k a0_0 a0_1 a0_2 a0_3 a0_4 a0_5 a0_6 a0_7 a0_8 a0_9 a0_10 a0_11 a0_12 a0_13 a0_14 _ _ HR.out).mono ?_); rintro e w1 ⟨rfl, hB1⟩; clear y0 y1 y2 y3 y4 y5 y6 y7 y8 y9 y10 y11 y12 y13 y14; have HM1 := Aside0.mk (blk_below HM0.out hB1); obtain ⟨y0, y1, y2, y3, y4, y5, y6, y7, y8, y9, y10, y11, y12, y13, y14⟩ := msg_cells HM1.out; have HZ1 := Aside0.mk (HZ0.out.trans (hB1.mono HZ0.out.size)); have HS1 := Aside0.mk (Nat.le_trans (blk_lt HM0.out) hB1.size); clear hB1) | (go_at_call 15; (refine (msg_bears.calls a0_0 true false true _ HBE.out).mono ?_); rintro e w' ⟨rfl, ⟨nd, rfl⟩⟩; have HM1 := Aside0.mk (show (w1.drewN nd).heap[mb]? = _ from HM1.out); have HZ1 := Aside0.mk (pw_below_drewN HZ1.out nd); have HS1 := Aside0.mk (show mb + 1 ≤ (w1.drewN nd).heap.size from HS1.out)) | ((with_reducible refine gate_dst (N := 22) rfl ?_); refine box_event ?hg (N := 22) ?hd (cs := #[.slice none 0 0, .int .i64 0]) (t := 47) ?hr ?_; (case hd => rfl); (case hg => rfl); (case hr => first | (go_simp; done) | (go_simp; rfl)); intro gb GE wb hbk hbb; have hE : EncI (mb + 1) (fun k => k ≠ gb) w wb gb mb #[.int .i64 a0_0, .int .u64 a0_1, .int .u64 a0_2, .int .i64 a0_3, .int .i64 a0_4, .int .u32 a0_5, .int .u32 a0_6, .int .u64 a0_7, .int .u64 a0_8, .int .u64 a0_9, .int .u64 a0_10, .int .u64 a0_11, .int .u64 a0_12, .int .u64 a0_13, .string a0_14] ([], 0) := ⟨⟨⟨_, hbk, Kd.R_nil _ _ _ _ _⟩, by have h_ := HS1.out; rw [GE]; exact h_, fun h_ => h_ rfl⟩, blk_below HM1.out hbb, HZ1.out.trans (hbb.mono HZ1.out.size), fun k hk e_ => by have := blk_lt hbk; omega, Nat.le_trans HS1.out hbb.size, Nat.lt_succ_self _, by have := GM.out; omega, by simp⟩; clear y0 y1 y2 y3 y4 y5 y6 y7 y8 y9 y10 y11 y12 y13 y14; obtain ⟨y0, y1, y2, y3, y4, y5, y6, y7, y8, y9, y10, y11, y12, y13, y14⟩ := msg_cells hE.M; have HE := Aside0.mk hE; clear hE GE hbk hbb))
    go_wp2
    go_region_held3 (fun w' => w'.cell? ⟨mb, 0, none⟩ = some (.int .i64 a0_0)) (first | go_keep | exact y0) ((go_at_call 16; (refine (enc_num (by first | exact HE.out | exact HE.out.drewN 1) (IntKind.u64.wrap a0_0) 1 (by simp)).mono ?_); rintro e w' ⟨rfl, hE⟩; clear y0 y1 y2 y3 y4 y5 y6 y7 y8 y9 y10 y11 y12 y13 y14; obtain ⟨y0, y1, y2, y3, y4, y5, y6, y7, y8, y9, y10, y11, y12, y13, y14⟩ := msg_cells hE.M; have HE2 := Aside0.mk hE; clear hE HE))
    go_wp2
    go_region_held3 (fun w' => w'.cell? ⟨mb, 1, none⟩ = some (.int .u64 a0_1)) (first | go_keep | exact y1) ((go_at_call 16; (refine (enc_num (by first | exact HE2.out | exact HE2.out.drewN 1) (a0_1) 8 (by have := L0.out; omega)).mono ?_); rintro e w' ⟨rfl, hE⟩; clear y0 y1 y2 y3 y4 y5 y6 y7 y8 y9 y10 y11 y12 y13 y14; obtain ⟨y0, y1, y2, y3, y4, y5, y6, y7, y8, y9, y10, y11, y12, y13, y14⟩ := msg_cells hE.M; have HE3 := Aside0.mk hE; clear hE HE2))
    go_wp2
    go_region_held3 (fun w' => w'.cell? ⟨mb, 2, none⟩ = some (.int .u64 a0_2)) (first | go_keep | exact y2) ((go_at_call 16; (refine (enc_num (by first | exact HE3.out | exact HE3.out.drewN 1) (a0_2) 8 (by have := L1.out; omega)).mono ?_); rintro e w' ⟨rfl, hE⟩; clear y0 y1 y2 y3 y4 y5 y6 y7 y8 y9 y10 y11 y12 y13 y14; obtain ⟨y0, y1, y2, y3, y4, y5, y6, y7, y8, y9, y10, y11, y12, y13, y14⟩ := msg_cells hE.M; have HE4 := Aside0.mk hE; clear hE HE3))
    go_wp2
    go_region_held3 (fun w' => w'.cell? ⟨mb, 4, none⟩ = some (.int .i64 a0_4)) (first | go_keep | exact y4) ((go_at_call 16; (refine (enc_num (by first | exact HE4.out | exact HE4.out.drewN 1) (IntKind.u64.wrap a0_4) 2 (by have := L2.out; omega)).mono ?_); rintro e w' ⟨rfl, hE⟩; clear y0 y1 y2 y3 y4 y5 y6 y7 y8 y9 y10 y11 y12 y13 y14; obtain ⟨y0, y1, y2, y3, y4, y5, y6, y7, y8, y9, y10, y11, y12, y13, y14⟩ := msg_cells hE.M; have HE5 := Aside0.mk hE; clear hE HE4))
    go_wp2_with (first | (go_at_call 20; (refine (enc_bytes HE5.out).mono ?_); rintro e w9 ⟨v9, rfl, hR9, hB9⟩; have HR9 := Aside0.mk hR9; have HB9 := Aside0.mk hB9; clear hR9 hB9))
    go_ret2
    exact ⟨_, rfl, HR9.out, HB9.out⟩
set_option maxHeartbeats 8000000 in
set_option maxRecDepth 100000 in
theorem msg_enc_call (k : Nat) (a0_0 : Int) (a0_1 : Int) (a0_2 : Int) (a0_3 : Int) (a0_4 : Int) (a0_5 : Int) (a0_6 : Int) (a0_7 : Int) (a0_8 : Int) (a0_9 : Int) (a0_10 : Int) (a0_11 : Int) (a0_12 : Int) (a0_13 : Int) (a0_14 : ByteArray) (w : World) (hr : msg_Right.f k a0_0 a0_1 a0_2 a0_3 a0_4 a0_5 a0_6 a0_7 a0_8 a0_9 a0_10 a0_11 a0_12 a0_13 a0_14 = some true) (BL : List Int) (hbl : data_Bytes.f k a0_5 a0_6 a0_7 a0_8 a0_9 a0_10 a0_11 a0_12 a0_13 = some BL) (hlen : BL.length ≤ 100000) (h1 : a0_0 = 2) :
    Calls Try.prog 9 #[.agg #[.int .i64 a0_0, .int .u64 a0_1, .int .u64 a0_2, .int .i64 a0_3, .int .i64 a0_4, .int .u32 a0_5, .int .u32 a0_6, .int .u64 a0_7, .int .u64 a0_8, .int .u64 a0_9, .int .u64 a0_10, .int .u64 a0_11, .int .u64 a0_12, .int .u64 a0_13, .string a0_14]] w fun e w' => ∃ v0_ : Value, e = .returned (.tuple #[v0_, .int .i64 (msg_out (pack_text (BL.foldl msg_lay1 (pack_num (pack_num (pack_num (pack_num ([], 0) (IntKind.u64.wrap a0_0) 1) a0_1 8) a0_2 8) (IntKind.u64.wrap a0_3) 1)) a0_14)).2]) ∧ Kd.R (Kd.int .u8) 5 w' w.heap.size (fun _ => True) v0_ (msg_out (pack_text (BL.foldl msg_lay1 (pack_num (pack_num (pack_num (pack_num ([], 0) (IntKind.u64.wrap a0_0) 1) a0_1 8) a0_2 8) (IntKind.u64.wrap a0_3) 1)) a0_14)).1 ∧ Below w.heap.size w w' := by
    have HR := Aside0.mk hr
    have HBE := Aside0.mk (show msg_bears.f a0_0 = some (true, true, false) by subst h1; rfl)
    have L0 := Aside0.mk (show (pack_num ([], 0) (IntKind.u64.wrap a0_0) 1).1.length ≤ 8 from pack_num_length ([], 0) _ _)
    have L1 := Aside0.mk (show (pack_num (pack_num ([], 0) (IntKind.u64.wrap a0_0) 1) a0_1 8).1.length ≤ 16 from Nat.le_trans (pack_num_length _ _ _) (by have := L0.out; omega))
    have L2 := Aside0.mk (show (pack_num (pack_num (pack_num ([], 0) (IntKind.u64.wrap a0_0) 1) a0_1 8) a0_2 8).1.length ≤ 24 from Nat.le_trans (pack_num_length _ _ _) (by have := L1.out; omega))
    clear hr
    have HD := Aside0.mk hbl
    have HLen := Aside0.mk hlen
    clear hbl hlen h1
    go_enter Try.func9, Try.ntmps9
    go_wp2_with (first | ((with_reducible refine gate_dst (N := 1) rfl ?_); refine box_event ?hg (N := 1) ?hd (cs := #[.int .i64 a0_0, .int .u64 a0_1, .int .u64 a0_2, .int .i64 a0_3, .int .i64 a0_4, .int .u32 a0_5, .int .u32 a0_6, .int .u64 a0_7, .int .u64 a0_8, .int .u64 a0_9, .int .u64 a0_10, .int .u64 a0_11, .int .u64 a0_12, .int .u64 a0_13, .string a0_14]) (t := 28) ?hr ?_; (case hd => rfl); (case hg => rfl); (case hr => first | (go_simp; done) | (go_simp; rfl)); intro mb GMr wm hbm hbb; obtain ⟨y0, y1, y2, y3, y4, y5, y6, y7, y8, y9, y10, y11, y12, y13, y14⟩ := msg_cells hbm; have GM := Aside0.mk GMr; have HM0 := Aside0.mk hbm; have HZ0 := Aside0.mk hbb; clear hbm hbb GMr) | (go_at_call 11; (refine (msg_Right.calls k a0_0 a0_1 a0_2 a0_3 a0_4 a0_5 a0_6 a0_7 a0_8 a0_9 a0_10 a0_11 a0_12 a0_13 a0_14 _ _ HR.out).mono ?_); rintro e w1 ⟨rfl, hB1⟩; clear y0 y1 y2 y3 y4 y5 y6 y7 y8 y9 y10 y11 y12 y13 y14; have HM1 := Aside0.mk (blk_below HM0.out hB1); obtain ⟨y0, y1, y2, y3, y4, y5, y6, y7, y8, y9, y10, y11, y12, y13, y14⟩ := msg_cells HM1.out; have HZ1 := Aside0.mk (HZ0.out.trans (hB1.mono HZ0.out.size)); have HS1 := Aside0.mk (Nat.le_trans (blk_lt HM0.out) hB1.size); clear hB1) | (go_at_call 15; (refine (msg_bears.calls a0_0 true true false _ HBE.out).mono ?_); rintro e w' ⟨rfl, ⟨nd, rfl⟩⟩; have HM1 := Aside0.mk (show (w1.drewN nd).heap[mb]? = _ from HM1.out); have HZ1 := Aside0.mk (pw_below_drewN HZ1.out nd); have HS1 := Aside0.mk (show mb + 1 ≤ (w1.drewN nd).heap.size from HS1.out)) | ((with_reducible refine gate_dst (N := 22) rfl ?_); refine box_event ?hg (N := 22) ?hd (cs := #[.slice none 0 0, .int .i64 0]) (t := 47) ?hr ?_; (case hd => rfl); (case hg => rfl); (case hr => first | (go_simp; done) | (go_simp; rfl)); intro gb GE wb hbk hbb; have hE : EncI (mb + 1) (fun k => k ≠ gb) w wb gb mb #[.int .i64 a0_0, .int .u64 a0_1, .int .u64 a0_2, .int .i64 a0_3, .int .i64 a0_4, .int .u32 a0_5, .int .u32 a0_6, .int .u64 a0_7, .int .u64 a0_8, .int .u64 a0_9, .int .u64 a0_10, .int .u64 a0_11, .int .u64 a0_12, .int .u64 a0_13, .string a0_14] ([], 0) := ⟨⟨⟨_, hbk, Kd.R_nil _ _ _ _ _⟩, by have h_ := HS1.out; rw [GE]; exact h_, fun h_ => h_ rfl⟩, blk_below HM1.out hbb, HZ1.out.trans (hbb.mono HZ1.out.size), fun k hk e_ => by have := blk_lt hbk; omega, Nat.le_trans HS1.out hbb.size, Nat.lt_succ_self _, by have := GM.out; omega, by simp⟩; clear y0 y1 y2 y3 y4 y5 y6 y7 y8 y9 y10 y11 y12 y13 y14; obtain ⟨y0, y1, y2, y3, y4, y5, y6, y7, y8, y9, y10, y11, y12, y13, y14⟩ := msg_cells hE.M; have HE := Aside0.mk hE; clear hE GE hbk hbb))
    go_wp2
    go_region_held3 (fun w' => w'.cell? ⟨mb, 0, none⟩ = some (.int .i64 a0_0)) (first | go_keep | exact y0) ((go_at_call 16; (refine (enc_num (by first | exact HE.out | exact HE.out.drewN 1) (IntKind.u64.wrap a0_0) 1 (by simp)).mono ?_); rintro e w' ⟨rfl, hE⟩; clear y0 y1 y2 y3 y4 y5 y6 y7 y8 y9 y10 y11 y12 y13 y14; obtain ⟨y0, y1, y2, y3, y4, y5, y6, y7, y8, y9, y10, y11, y12, y13, y14⟩ := msg_cells hE.M; have HE2 := Aside0.mk hE; clear hE HE))
    go_wp2
    go_region_held3 (fun w' => w'.cell? ⟨mb, 1, none⟩ = some (.int .u64 a0_1)) (first | go_keep | exact y1) ((go_at_call 16; (refine (enc_num (by first | exact HE2.out | exact HE2.out.drewN 1) (a0_1) 8 (by have := L0.out; omega)).mono ?_); rintro e w' ⟨rfl, hE⟩; clear y0 y1 y2 y3 y4 y5 y6 y7 y8 y9 y10 y11 y12 y13 y14; obtain ⟨y0, y1, y2, y3, y4, y5, y6, y7, y8, y9, y10, y11, y12, y13, y14⟩ := msg_cells hE.M; have HE3 := Aside0.mk hE; clear hE HE2))
    go_wp2
    go_region_held3 (fun w' => w'.cell? ⟨mb, 2, none⟩ = some (.int .u64 a0_2)) (first | go_keep | exact y2) ((go_at_call 16; (refine (enc_num (by first | exact HE3.out | exact HE3.out.drewN 1) (a0_2) 8 (by have := L1.out; omega)).mono ?_); rintro e w' ⟨rfl, hE⟩; clear y0 y1 y2 y3 y4 y5 y6 y7 y8 y9 y10 y11 y12 y13 y14; obtain ⟨y0, y1, y2, y3, y4, y5, y6, y7, y8, y9, y10, y11, y12, y13, y14⟩ := msg_cells hE.M; have HE4 := Aside0.mk hE; clear hE HE3))
    go_wp2
    go_region_held3 (fun w' => w'.cell? ⟨mb, 3, none⟩ = some (.int .i64 a0_3)) (first | go_keep | exact y3) ((go_at_call 16; (refine (enc_num (by first | exact HE4.out | exact HE4.out.drewN 1) (IntKind.u64.wrap a0_3) 1 (by have := L2.out; omega)).mono ?_); rintro e w' ⟨rfl, hE⟩; clear y0 y1 y2 y3 y4 y5 y6 y7 y8 y9 y10 y11 y12 y13 y14; obtain ⟨y0, y1, y2, y3, y4, y5, y6, y7, y8, y9, y10, y11, y12, y13, y14⟩ := msg_cells hE.M; have HE5 := Aside0.mk hE; clear hE HE4))
    go_wp2_with (first | (go_at_call 17; (refine (data_Bytes.calls k a0_5 a0_6 a0_7 a0_8 a0_9 a0_10 a0_11 a0_12 a0_13 BL _ HD.out).mono ?_); rintro e w5 ⟨v5, rfl, hR5, hB5⟩; obtain ⟨AB, cB, evB, hBt⟩ := mine_Bts_of_R hR5 (blk_below HE5.out.I.blk.choose_spec.1 hB5) (by decide); have hbase := (fun k hk => Kd.R_base hR5 k hk); subst evB; obtain ⟨O1, hO1⟩ : ∃ O1 : Nat → Prop, O1 = fun k => k ≠ gb ∧ ∀ ad, AB = some ad → k ≠ ad.block := ⟨_, rfl⟩; have hE6 : EncI (mb + 1) O1 w w5 gb mb #[.int .i64 a0_0, .int .u64 a0_1, .int .u64 a0_2, .int .i64 a0_3, .int .i64 a0_4, .int .u32 a0_5, .int .u32 a0_6, .int .u64 a0_7, .int .u64 a0_8, .int .u64 a0_9, .int .u64 a0_10, .int .u64 a0_11, .int .u64 a0_12, .int .u64 a0_13, .string a0_14] (pack_num (pack_num (pack_num (pack_num ([], 0) (IntKind.u64.wrap a0_0) 1) a0_1 8) a0_2 8) (IntKind.u64.wrap a0_3) 1) := ⟨(HE5.out.I.more (O2 := O1) (fun k hk h_ => by rw [hO1]; exact ⟨h_, fun ad e_ e2_ => by have := hbase ad.block (by rw [e_]; rfl); omega⟩) (by rw [hO1]; exact fun h_ => h_.1 rfl)).below hB5, blk_below HE5.out.M hB5, HE5.out.Z.trans (hB5.mono HE5.out.Z.size), fun k hk => by rw [hO1]; exact ⟨fun e_ => by have := (HE5.out.I.below hB5).lt; omega, fun ad e_ e2_ => by have := hBt.lt e_; omega⟩, Nat.le_trans HE5.out.sz hB5.size, HE5.out.mb, HE5.out.b0, HE5.out.len⟩; have HO1 := Aside0.mk hO1; have HE6 := Aside0.mk hE6; have HBT := Aside0.mk hBt; have hcB := hBt.le; clear hE6 hBt hO1 hbase hR5 hB5 HE5 y0 y1 y2 y3 y4 y5 y6 y7 y8 y9 y10 y11 y12 y13 y14))
    go_loopg [59] (BL.length + 1) (fun kq v59 w' => ∃ (i : Int) (s : List Int × Int), v59 = .int .i64 i ∧ 0 ≤ i ∧ i ≤ (BL.length : Int) ∧ BL.length - i.toNat < kq ∧ Aside0 ((BL.drop i.toNat).foldl msg_lay1 s = BL.foldl msg_lay1 (pack_num (pack_num (pack_num (pack_num ([], 0) (IntKind.u64.wrap a0_0) 1) a0_1 8) a0_2 8) (IntKind.u64.wrap a0_3) 1)) ∧ Aside0 (s.1.length ≤ 40 + 8 * i.toNat) ∧ Aside0 (EncI (mb + 1) O1 w w' gb mb #[.int .i64 a0_0, .int .u64 a0_1, .int .u64 a0_2, .int .i64 a0_3, .int .i64 a0_4, .int .u32 a0_5, .int .u32 a0_6, .int .u64 a0_7, .int .u64 a0_8, .int .u64 a0_9, .int .u64 a0_10, .int .u64 a0_11, .int .u64 a0_12, .int .u64 a0_13, .string a0_14] s) ∧ Aside0 (Mine.Bts 5 w' gb AB cB BL))
    case atStart => exact ⟨0, (pack_num (pack_num (pack_num (pack_num ([], 0) (IntKind.u64.wrap a0_0) 1) a0_1 8) a0_2 8) (IntKind.u64.wrap a0_3) 1), rfl, Int.le_refl _, by omega, by simp, ⟨by simp⟩, ⟨Nat.le_trans (pack_num_length _ _ _) (by have := L2.out; omega)⟩, HE6, HBT⟩
    case round =>
      clear HE6 HBT
      obtain ⟨i, s, rfl, hi0, hil, hik, HA, HLs, HE6, HBT⟩ := hrel
      obtain ⟨k1, rfl⟩ : ∃ k1, gk = k1 + 1 := ⟨gk - 1, by omega⟩
      by_cases hi : i < (BL.length : Int)
      · have hH := HA.out
        have hi2 : i.toNat < BL.length := by omega
        have hd2 : BL.drop i.toNat = rd BL i :: BL.drop (i + 1).toNat := by
          rw [List.drop_eq_getElem_cons hi2, show (i + 1).toNat = i.toNat + 1 by omega]
          simp [rd, List.getElem?_eq_getElem hi2, List.getD_eq_getElem?_getD]
        rw [hd2, List.foldl_cons] at hH
        have HH := Aside0.mk hH
        have b1 : decide (i < (BL.length : Int)) = true := decide_eq_true (by omega)
        have z1 : IntKind.i64.wrap (i + 1) = i + 1 := by rw [i64_w]; simp only [wrap64, IntKind.wrap]; (try simp [IntKind.bits, IntKind.signed]); have := HLen.out; omega
        obtain ⟨ad, e0, x0⟩ := Kd.at_int HBT.out.C i hi0 hi
        have p1 := eq_true hi0
        have q1 := eq_true hi
        clear hH hd2 HA
        cases e0
        go_wp2_with (first | (go_at_call 18; (refine (enc_all1 HE6.out (IntKind.u64.wrap (rd BL i)) 1 (by have := HLs.out; have := HLen.out; omega)).mono ?_); rintro e w7 ⟨rfl, hE7, hF7⟩; have HE7 := Aside0.mk hE7; have HBT7 := Aside0.mk (HBT.out.move (w1 := w7) (fun ad2 e2 => hF7.block _ (HBT.out.lt e2) (fun h_ => by rcases h_ with h_ | h_; exact (HBT.out.ty ad2 e2).1 h_; have h9 := h_.1; rw [HO1.out] at h9; exact h9.2 ad2 e2 rfl))); clear hE7 hF7))
        go_roundg k1
        case measure => omega
        case rel => exact ⟨i + 1, _, by first | rfl | (rw [z1]), by omega, by omega, by omega, HH, ⟨Nat.le_trans (pack_num_length _ _ _) (by have := HLs.out; omega)⟩, HE7, HBT7⟩
      · have hH := HA.out
        have b1 : decide (i < (BL.length : Int)) = false := decide_eq_false (by omega)
        rw [List.drop_of_length_le (by omega), List.foldl_nil] at hH
        subst hH
        obtain ⟨y0, y1, y2, y3, y4, y5, y6, y7, y8, y9, y10, y11, y12, y13, y14⟩ := msg_cells HE6.out.M
        go_wp2
        go_region_held3 (fun w' => w'.cell? ⟨mb, 14, none⟩ = some (.string a0_14)) (first | go_keep | exact y14) ((go_at_call 19; (refine (enc_text (by first | exact HE6.out | exact HE6.out.drewN 1) a0_14 (by have := HLs.out; have := HLen.out; omega)).mono ?_); rintro e w' ⟨rfl, hE⟩; clear y0 y1 y2 y3 y4 y5 y6 y7 y8 y9 y10 y11 y12 y13 y14; obtain ⟨y0, y1, y2, y3, y4, y5, y6, y7, y8, y9, y10, y11, y12, y13, y14⟩ := msg_cells hE.M; have HE8 := Aside0.mk hE; clear hE HE6))
        go_wp2_with (first | (go_at_call 20; (refine (enc_bytes HE8.out).mono ?_); rintro e w9 ⟨v9, rfl, hR9, hB9⟩; have HR9 := Aside0.mk hR9; have HB9 := Aside0.mk hB9; clear hR9 hB9))
        go_ret2
        exact ⟨_, rfl, HR9.out, HB9.out⟩
set_option maxHeartbeats 8000000 in
set_option maxRecDepth 100000 in
theorem msg_Encode.calls (k : Nat) (a0_0 : Int) (a0_1 : Int) (a0_2 : Int) (a0_3 : Int) (a0_4 : Int) (a0_5 : Int) (a0_6 : Int) (a0_7 : Int) (a0_8 : Int) (a0_9 : Int) (a0_10 : Int) (a0_11 : Int) (a0_12 : Int) (a0_13 : Int) (a0_14 : ByteArray) (r1 : List Int) (r2 : Int) (w : World) (h : msg_Encode.f k a0_0 a0_1 a0_2 a0_3 a0_4 a0_5 a0_6 a0_7 a0_8 a0_9 a0_10 a0_11 a0_12 a0_13 a0_14 = some (r1, r2)) :
    Calls Try.prog 9 #[.agg #[.int .i64 a0_0, .int .u64 a0_1, .int .u64 a0_2, .int .i64 a0_3, .int .i64 a0_4, .int .u32 a0_5, .int .u32 a0_6, .int .u64 a0_7, .int .u64 a0_8, .int .u64 a0_9, .int .u64 a0_10, .int .u64 a0_11, .int .u64 a0_12, .int .u64 a0_13, .string a0_14]] w fun e w' => ∃ v0_ : Value, e = .returned (.tuple #[v0_, .int .i64 r2]) ∧ Kd.R (Kd.int .u8) 5 w' w.heap.size (fun _ => True) v0_ r1 ∧ Below w.heap.size w w' := by
  unfold msg_Encode.f at h
  obtain ⟨ok, hr, h⟩ := Option.bind_eq_some_iff.mp h
  cases ok with
  | true =>
    rw [if_pos rfl] at h
    by_cases h2 : a0_0 = 2
    · rw [if_pos h2] at h
      obtain ⟨BL, hbl, h⟩ := Option.bind_eq_some_iff.mp h
      by_cases hl : BL.length ≤ 100000
      · rw [if_pos hl] at h
        have e := Option.some.inj h
        have key := msg_enc_call k a0_0 a0_1 a0_2 a0_3 a0_4 a0_5 a0_6 a0_7 a0_8 a0_9 a0_10 a0_11 a0_12 a0_13 a0_14 w hr BL hbl hl h2
        rw [e] at key
        exact key
      · rw [if_neg hl] at h
        cases h
    · rw [if_neg h2] at h
      by_cases h3 : a0_0 = 4 ∨ a0_0 = 5 ∨ a0_0 = 7
      · rw [if_pos h3] at h
        have e := Option.some.inj h
        have key := msg_enc_val k a0_0 a0_1 a0_2 a0_3 a0_4 a0_5 a0_6 a0_7 a0_8 a0_9 a0_10 a0_11 a0_12 a0_13 a0_14 w hr h3
        rw [e] at key
        exact key
      · rw [if_neg h3] at h
        by_cases h1 : 1 < a0_0
        · rw [if_pos h1] at h
          have e := Option.some.inj h
          have key := msg_enc_id k a0_0 a0_1 a0_2 a0_3 a0_4 a0_5 a0_6 a0_7 a0_8 a0_9 a0_10 a0_11 a0_12 a0_13 a0_14 w hr h1 h2 h3
          rw [e] at key
          exact key
        · rw [if_neg h1] at h
          have e := Option.some.inj h
          have key := msg_enc_plain k a0_0 a0_1 a0_2 a0_3 a0_4 a0_5 a0_6 a0_7 a0_8 a0_9 a0_10 a0_11 a0_12 a0_13 a0_14 w hr h1
          rw [e] at key
          exact key
  | false =>
    rw [if_neg (by decide)] at h
    obtain ⟨e1, e2⟩ := Prod.mk.inj (Option.some.inj h)
    subst e1 e2
    have HR := Aside0.mk hr
    clear hr h
    go_enter Try.func9, Try.ntmps9
    go_wp2_with (first | ((with_reducible refine gate_dst (N := 1) rfl ?_); refine box_event ?hg (N := 1) ?hd (cs := #[.int .i64 a0_0, .int .u64 a0_1, .int .u64 a0_2, .int .i64 a0_3, .int .i64 a0_4, .int .u32 a0_5, .int .u32 a0_6, .int .u64 a0_7, .int .u64 a0_8, .int .u64 a0_9, .int .u64 a0_10, .int .u64 a0_11, .int .u64 a0_12, .int .u64 a0_13, .string a0_14]) (t := 28) ?hr ?_; (case hd => rfl); (case hg => rfl); (case hr => first | (go_simp; done) | (go_simp; rfl)); intro mb GMr wm hbm hbb; obtain ⟨y0, y1, y2, y3, y4, y5, y6, y7, y8, y9, y10, y11, y12, y13, y14⟩ := msg_cells hbm; have GM := Aside0.mk GMr; have HM0 := Aside0.mk hbm; have HZ0 := Aside0.mk hbb; clear hbm hbb GMr) | (go_at_call 11; (refine (msg_Right.calls k a0_0 a0_1 a0_2 a0_3 a0_4 a0_5 a0_6 a0_7 a0_8 a0_9 a0_10 a0_11 a0_12 a0_13 a0_14 _ _ HR.out).mono ?_); rintro e w1 ⟨rfl, hB1⟩; clear y0 y1 y2 y3 y4 y5 y6 y7 y8 y9 y10 y11 y12 y13 y14; have HM1 := Aside0.mk (blk_below HM0.out hB1); obtain ⟨y0, y1, y2, y3, y4, y5, y6, y7, y8, y9, y10, y11, y12, y13, y14⟩ := msg_cells HM1.out; have HZ1 := Aside0.mk (HZ0.out.trans (hB1.mono HZ0.out.size)); have HS1 := Aside0.mk (Nat.le_trans (blk_lt HM0.out) hB1.size); clear hB1))
    go_ret2
    exact ⟨_, rfl, Kd.R_nil _ _ _ _ _, HZ1.out⟩
end Go.Proofs.Ytadglbmghldnfaa.M
