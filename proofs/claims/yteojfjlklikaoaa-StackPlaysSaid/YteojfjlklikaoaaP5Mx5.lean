-- Laid by a program (wip/tools/myprint.py) out of the loaded program's own print: for each Go function a Lean function and the proof of its contract.
import Derived.Test.YteojfjlklikaoaaP5Mx0
import Derived.Test.YteojfjlklikaoaaP5Mx3
import Derived.Test.YteojfjlklikaoaaP5Mx4
namespace Go.Proofs.Yteojfjlklikaoaa.M
open Go.RowKit Go.Proofs.YteojfjlklikaoaaW.PrintWords Go.Proofs.YteojfjlklikaoaaW.PrintLast Go.Proofs.YteojfjlklikaoaaW.PrintMore
attribute [local go_sem] max2_int min2_int max_two min_two max_three min_three max_four min_four   -- for this text's walks alone
set_option linter.unusedVariables false
set_option linter.unusedSimpArgs false
-- HAND rounds=True making=True
set_option maxHeartbeats 8000000 in
set_option maxRecDepth 100000 in
theorem vm_machine_end.calls (B g gm n : Nat) (a x : Int) (o : Bool) (r : Int) (C : Int → Int) (v : Int) (w : World) (h : Mine.IsM Try.prog 79 23 B w g gm n a x o r C) :
    Calls Try.prog 57 #[.pointer (some ⟨g, 0, none⟩), .int .u32 v] w fun e w' => e = .returned (.tuple #[]) ∧ Mine.IsM Try.prog 79 23 B w' g gm n a x true v C ∧ Mine.Two g gm w w' := by
  have hM := Aside0.mk h
  have c3 := h.c3
  have c4 := h.c4
  have f3 := h.fr 3
  have f4 := h.fr 4
  clear h
  go_enter Try.func57, Try.ntmps57
  go_wp2
  go_end0
  exact ⟨rfl, (hM.out.put 3 _ rfl).put 4 _ rfl, ((Mine.Two.refl g gm _).setCell _ _).setCell _ _⟩
/-- Does a jump's condition hold? -/
def vm_HL (c a v : Int) : Bool := if (c == 21) = true then a == v else if (c == 37) = true then decide (v < a) else if (c == 53) = true then decide (v ≤ a) else Go.bits .and .u32 a v != 0
set_option maxHeartbeats 8000000 in
set_option maxRecDepth 100000 in
theorem vm_machine_holds.calls (B g gm n : Nat) (a x : Int) (o : Bool) (r : Int) (C : Int → Int) (c v : Int) (w : World) (h : Mine.IsM Try.prog 79 23 B w g gm n a x o r C) :
    Calls Try.prog 47 #[.pointer (some ⟨g, 0, none⟩), .int .u16 c, .int .u32 v] w fun e w' => e = .returned (.bool (vm_HL c a v)) ∧ Mine.IsM Try.prog 79 23 B w' g gm n a x o r C ∧ Mine.Two g gm w w' := by
  have hM := Aside0.mk h
  have c0 := h.c0
  clear h
  go_enter Try.func47, Try.ntmps47
  go_wp2
  all_goals
    go_ret
    exact ⟨by simp [vm_HL, *], hM.out, Mine.Two.refl g gm _⟩
/-- What an instruction makes of A: A, whether it is over, the answer. -/
def vm_RK (c a v : Int) (o : Bool) (r : Int) : Int × Bool × Int :=
  if (c == 4) = true then ((a + v) % 4294967296, o, r) else if (c == 20) = true then ((a - v) % 4294967296, o, r) else if (c == 36) = true then (a * v % 4294967296, o, r) else if (c == 68) = true then (Go.bits .or .u32 a v, o, r) else if (c == 84) = true then (Go.bits .and .u32 a v, o, r) else if (c == 164) = true then (Go.bits .xor .u32 a v, o, r) else if (c == 100) = true then (a * 2 ^ (v % 32).toNat % 4294967296, o, r) else if (c == 116) = true then (a / 2 ^ (v % 32).toNat, o, r) else if (c == 52) = true then (if (v == 0) = true then (a, true, 0) else (Int.tdiv a v % 4294967296, o, r)) else (a, o, r)
set_option maxHeartbeats 8000000 in
set_option maxRecDepth 100000 in
theorem vm_machine_reckon.calls (B g gm n : Nat) (a x : Int) (o : Bool) (r : Int) (C : Int → Int) (c v : Int) (w : World) (hv : 0 ≤ v) (h : Mine.IsM Try.prog 79 23 B w g gm n a x o r C) :
    Calls Try.prog 48 #[.pointer (some ⟨g, 0, none⟩), .int .u16 c, .int .u32 v] w fun e w' => e = .returned (.tuple #[]) ∧ Mine.IsM Try.prog 79 23 B w' g gm n (vm_RK c a v o r).1 x (vm_RK c a v o r).2.1 (vm_RK c a v o r).2.2 C ∧ Mine.Two g gm w w' := by
  have hM := Aside0.mk h
  have c0 := h.c0
  have f0 := h.fr 0
  have ht : 0 ≤ Int.tmod v 32 := by rw [Int.tmod_eq_emod_of_nonneg hv]; omega
  have ht2 := decide_eq_true ht
  clear h
  have hcl := hM
  by_cases hv0 : v = 0
  · have hv1 : (v == 0) = true := beq_iff_eq.2 hv0
    clear hv0
    go_enter Try.func48, Try.ntmps48
    go_wp2_with (first | (go_at_call 57; (refine (vm_machine_end.calls B g gm n a x o r C 0 _ hM.out).mono ?_); rintro e w' ⟨rfl, hM2, hB2⟩))
    all_goals
      (try simp only [Exit.inBlock, Exit.then])
      first | refine bodyPost_ret (results_none rfl _ _ _) rfl ?_ | refine bodyPost_end (results_none rfl _ _ _) rfl ?_
      refine ⟨rfl, ?_, ?_⟩
      · simp only [vm_RK, *, if_true, if_false, Bool.false_eq_true, beq_self_eq_true]
        all_goals first | exact hM.out.put 0 _ rfl | exact hM2 | exact hM.out
      · first | exact (Mine.Two.refl g gm _).setCell _ _ | exact hB2 | exact Mine.Two.refl g gm _
  have hv1 : (v == 0) = false := beq_eq_false_iff_ne.2 hv0
  go_enter Try.func48, Try.ntmps48
  go_wp2_with (first | (go_at_call 57; (refine (vm_machine_end.calls B g gm n a x o r C 0 _ hM.out).mono ?_); rintro e w' ⟨rfl, hM2, hB2⟩))
  all_goals
    (try simp only [Exit.inBlock, Exit.then])
    first | refine bodyPost_ret (results_none rfl _ _ _) rfl ?_ | refine bodyPost_end (results_none rfl _ _ _) rfl ?_
    refine ⟨rfl, ?_, ?_⟩
    · simp only [vm_RK, *, if_true, if_false, Bool.false_eq_true]
      all_goals first | exact hM.out.put 0 _ rfl | exact hM2 | exact hM.out
    · first | exact (Mine.Two.refl g gm _).setCell _ _ | exact hB2 | exact Mine.Two.refl g gm _
/-- A machine: A, X, whether it is over, its answer, its cells. -/
structure VmS where
  a : Int
  x : Int
  o : Bool
  r : Int
  C : Int → Int
/-- What brings numbers from one place to another. -/
def vm_MV (c K : Int) (s : VmS) : Option (Bool × VmS) :=
  if (c == 0) = true then some (true, { s with a := K }) else if (c == 1) = true then some (true, { s with x := K })
  else if (c == 96) = true then (if 0 ≤ K ∧ K ≤ 4294967295 then some (true, { s with a := s.C K }) else none) else if (c == 97) = true then (if 0 ≤ K ∧ K ≤ 4294967295 then some (true, { s with x := s.C K }) else none)
  else if (c == 2) = true then (if (0 ≤ K ∧ K ≤ 4294967295) ∧ 0 ≤ s.a ∧ s.a ≤ 4294967295 then some (true, { s with C := fun j => if j = K then s.a else s.C j }) else none) else if (c == 3) = true then (if (0 ≤ K ∧ K ≤ 4294967295) ∧ 0 ≤ s.x ∧ s.x ≤ 4294967295 then some (true, { s with C := fun j => if j = K then s.x else s.C j }) else none)
  else if (c == 7) = true then some (true, { s with x := s.a }) else if (c == 135) = true then some (true, { s with a := s.x }) else if (c == 132) = true then some (true, { s with a := -s.a % 4294967296 })
  else if (c == 6) = true then some (true, { s with o := true, r := K }) else if (c == 22) = true then some (true, { s with o := true, r := s.a }) else some (false, s)
def vm_moves.f (k : Nat) (c K : Int) (d0 d1 d2 d3 d4 d5 d6 d7 d8 : Int) (s : VmS) : Option (Bool × VmS) := if (c == 32) = true then (data_Load.f k d0 d1 d2 d3 d4 d5 d6 d7 d8 K).bind fun t => some (true, { s with a := t.1 }) else vm_MV c K s
set_option maxHeartbeats 8000000 in
set_option maxRecDepth 100000 in
theorem vm_machine_moves.c0 (k B g gm n : Nat) (s : VmS) (jt jf K : Int) (d0 d1 d2 d3 d4 d5 d6 d7 d8 : Int) (b : Bool) (s' : VmS) (w : World) (hn : n < maxLen) (h : Mine.IsM Try.prog 79 23 B w g gm n s.a s.x s.o s.r s.C) (H : vm_moves.f k 0 K d0 d1 d2 d3 d4 d5 d6 d7 d8 s = some (b, s')) :
    Calls Try.prog 46 #[.pointer (some ⟨g, 0, none⟩), .agg #[.int .u16 0, .int .u8 jt, .int .u8 jf, .int .u32 K], .agg #[.int .u32 d0, .int .u32 d1, .int .u64 d2, .int .u64 d3, .int .u64 d4, .int .u64 d5, .int .u64 d6, .int .u64 d7, .int .u64 d8]] w fun e w' => e = .returned (.bool b) ∧ Mine.IsM Try.prog 79 23 B w' g gm (n + 1) s'.a s'.x s'.o s'.r s'.C ∧ Mine.Two g gm w w' := by
  have hM := Aside0.mk h
  have hBw := Aside0.mk (Nat.le_trans h.bg (Nat.le_of_lt h.lt))
  have c0 := h.c0
  have c1 := h.c1
  have c2 := h.c2
  have f0 := h.fr 0
  have f1 := h.fr 1
  have hlt := h.lt
  have hn0 := World.new_ne w _ c0
  rw [vm_moves.f, if_neg (by decide), vm_MV, if_pos (by decide)] at H
  simp only [Option.some.injEq, Prod.mk.injEq] at H
  obtain ⟨rfl, rfl⟩ := H
  clear h
  go_enter Try.func46, Try.ntmps46
  go_wp2
  go_ret
  exact ⟨rfl, (((hM.out.put 0 _ rfl).alloc _).alloc _).mono (Nat.le_succ n), ((Mine.Two.refl g gm _).setCell _ _).alloc2 _ _⟩
set_option maxHeartbeats 8000000 in
set_option maxRecDepth 100000 in
theorem vm_machine_moves.c1 (k B g gm n : Nat) (s : VmS) (jt jf K : Int) (d0 d1 d2 d3 d4 d5 d6 d7 d8 : Int) (b : Bool) (s' : VmS) (w : World) (hn : n < maxLen) (h : Mine.IsM Try.prog 79 23 B w g gm n s.a s.x s.o s.r s.C) (H : vm_moves.f k 1 K d0 d1 d2 d3 d4 d5 d6 d7 d8 s = some (b, s')) :
    Calls Try.prog 46 #[.pointer (some ⟨g, 0, none⟩), .agg #[.int .u16 1, .int .u8 jt, .int .u8 jf, .int .u32 K], .agg #[.int .u32 d0, .int .u32 d1, .int .u64 d2, .int .u64 d3, .int .u64 d4, .int .u64 d5, .int .u64 d6, .int .u64 d7, .int .u64 d8]] w fun e w' => e = .returned (.bool b) ∧ Mine.IsM Try.prog 79 23 B w' g gm (n + 1) s'.a s'.x s'.o s'.r s'.C ∧ Mine.Two g gm w w' := by
  have hM := Aside0.mk h
  have hBw := Aside0.mk (Nat.le_trans h.bg (Nat.le_of_lt h.lt))
  have c0 := h.c0
  have c1 := h.c1
  have c2 := h.c2
  have f0 := h.fr 0
  have f1 := h.fr 1
  have hlt := h.lt
  have hn0 := World.new_ne w _ c0
  rw [vm_moves.f, if_neg (by decide), vm_MV, if_neg (by decide), if_pos (by decide)] at H
  simp only [Option.some.injEq, Prod.mk.injEq] at H
  obtain ⟨rfl, rfl⟩ := H
  clear h
  go_enter Try.func46, Try.ntmps46
  go_wp2
  go_ret
  exact ⟨rfl, (((hM.out.put 1 _ rfl).alloc _).alloc _).mono (Nat.le_succ n), ((Mine.Two.refl g gm _).setCell _ _).alloc2 _ _⟩
set_option maxHeartbeats 8000000 in
set_option maxRecDepth 100000 in
theorem vm_machine_moves.c96 (k B g gm n : Nat) (s : VmS) (jt jf K : Int) (d0 d1 d2 d3 d4 d5 d6 d7 d8 : Int) (b : Bool) (s' : VmS) (w : World) (hn : n < maxLen) (h : Mine.IsM Try.prog 79 23 B w g gm n s.a s.x s.o s.r s.C) (H : vm_moves.f k 96 K d0 d1 d2 d3 d4 d5 d6 d7 d8 s = some (b, s')) :
    Calls Try.prog 46 #[.pointer (some ⟨g, 0, none⟩), .agg #[.int .u16 96, .int .u8 jt, .int .u8 jf, .int .u32 K], .agg #[.int .u32 d0, .int .u32 d1, .int .u64 d2, .int .u64 d3, .int .u64 d4, .int .u64 d5, .int .u64 d6, .int .u64 d7, .int .u64 d8]] w fun e w' => e = .returned (.bool b) ∧ Mine.IsM Try.prog 79 23 B w' g gm (n + 1) s'.a s'.x s'.o s'.r s'.C ∧ Mine.Two g gm w w' := by
  have hM := Aside0.mk h
  have hBw := Aside0.mk (Nat.le_trans h.bg (Nat.le_of_lt h.lt))
  have c0 := h.c0
  have c1 := h.c1
  have c2 := h.c2
  have f0 := h.fr 0
  have f1 := h.fr 1
  have hlt := h.lt
  have hn0 := World.new_ne w _ c0
  rw [vm_moves.f, if_neg (by decide), vm_MV, if_neg (by decide), if_neg (by decide), if_pos (by decide)] at H
  by_cases hk : 0 ≤ K ∧ K ≤ 4294967295
  · rw [if_pos hk] at H
    simp only [Option.some.injEq, Prod.mk.injEq] at H
    obtain ⟨rfl, rfl⟩ := H
    have hlk : Aside0 (∀ (w' : World) (a x : Int), Mine.IsM Try.prog 79 23 B w' g gm n a x s.o s.r s.C → (Instr.lookup 77 (.map (some gm)) (.int .u32 K) false).run Try.prog w' = .ok (.int .u32 (s.C K)) w') := ⟨fun w' a x h' => h'.look Try.underlying77 Try.underlying23 (fun w => by kernel_rfl) hk⟩
    clear hk h
    go_enter Try.func46, Try.ntmps46
    go_wp2
    go_region_held3 (fun w' => w'.cell? ⟨g, 2, none⟩ = some (.map (some gm)) ∧ w'.cell? ⟨w.heap.size, 3, none⟩ = some (.int .u32 K) ∧ (Instr.lookup 77 (.map (some gm)) (.int .u32 K) false).run Try.prog w' = .ok (.int .u32 (s.C K)) w')
      (first
        | exact ⟨((hM.out.alloc _).alloc _).drew.c2, Mine.box0 w _ _ _ 3 rfl, hlk.out _ _ _ ((hM.out.alloc _).alloc _).drew⟩
        | exact ⟨((((hM.out.put 0 _ rfl).alloc _).alloc _)).drew.c2, Mine.box1 w _ _ _ _ _ 3 rfl, hlk.out _ _ _ ((((hM.out.put 0 _ rfl).alloc _).alloc _)).drew⟩)
      (fail)
    go_wp2
    go_ret
    exact ⟨rfl, ((((hM.out.put 0 _ rfl).alloc _).alloc _).drew).mono (Nat.le_succ n), (((Mine.Two.refl g gm _).setCell _ _).alloc2 _ _).drew⟩
  · rw [if_neg hk] at H
    cases H
set_option maxHeartbeats 8000000 in
set_option maxRecDepth 100000 in
theorem vm_machine_moves.c97 (k B g gm n : Nat) (s : VmS) (jt jf K : Int) (d0 d1 d2 d3 d4 d5 d6 d7 d8 : Int) (b : Bool) (s' : VmS) (w : World) (hn : n < maxLen) (h : Mine.IsM Try.prog 79 23 B w g gm n s.a s.x s.o s.r s.C) (H : vm_moves.f k 97 K d0 d1 d2 d3 d4 d5 d6 d7 d8 s = some (b, s')) :
    Calls Try.prog 46 #[.pointer (some ⟨g, 0, none⟩), .agg #[.int .u16 97, .int .u8 jt, .int .u8 jf, .int .u32 K], .agg #[.int .u32 d0, .int .u32 d1, .int .u64 d2, .int .u64 d3, .int .u64 d4, .int .u64 d5, .int .u64 d6, .int .u64 d7, .int .u64 d8]] w fun e w' => e = .returned (.bool b) ∧ Mine.IsM Try.prog 79 23 B w' g gm (n + 1) s'.a s'.x s'.o s'.r s'.C ∧ Mine.Two g gm w w' := by
  have hM := Aside0.mk h
  have hBw := Aside0.mk (Nat.le_trans h.bg (Nat.le_of_lt h.lt))
  have c0 := h.c0
  have c1 := h.c1
  have c2 := h.c2
  have f0 := h.fr 0
  have f1 := h.fr 1
  have hlt := h.lt
  have hn0 := World.new_ne w _ c0
  rw [vm_moves.f, if_neg (by decide), vm_MV, if_neg (by decide), if_neg (by decide), if_neg (by decide), if_pos (by decide)] at H
  by_cases hk : 0 ≤ K ∧ K ≤ 4294967295
  · rw [if_pos hk] at H
    simp only [Option.some.injEq, Prod.mk.injEq] at H
    obtain ⟨rfl, rfl⟩ := H
    have hlk : Aside0 (∀ (w' : World) (a x : Int), Mine.IsM Try.prog 79 23 B w' g gm n a x s.o s.r s.C → (Instr.lookup 77 (.map (some gm)) (.int .u32 K) false).run Try.prog w' = .ok (.int .u32 (s.C K)) w') := ⟨fun w' a x h' => h'.look Try.underlying77 Try.underlying23 (fun w => by kernel_rfl) hk⟩
    clear hk h
    go_enter Try.func46, Try.ntmps46
    go_wp2
    go_region_held3 (fun w' => w'.cell? ⟨g, 2, none⟩ = some (.map (some gm)) ∧ w'.cell? ⟨w.heap.size, 3, none⟩ = some (.int .u32 K) ∧ (Instr.lookup 77 (.map (some gm)) (.int .u32 K) false).run Try.prog w' = .ok (.int .u32 (s.C K)) w')
      (first
        | exact ⟨((hM.out.alloc _).alloc _).drew.c2, Mine.box0 w _ _ _ 3 rfl, hlk.out _ _ _ ((hM.out.alloc _).alloc _).drew⟩
        | exact ⟨((((hM.out.put 1 _ rfl).alloc _).alloc _)).drew.c2, Mine.box1 w _ _ _ _ _ 3 rfl, hlk.out _ _ _ ((((hM.out.put 1 _ rfl).alloc _).alloc _)).drew⟩)
      (fail)
    go_wp2
    go_ret
    exact ⟨rfl, ((((hM.out.put 1 _ rfl).alloc _).alloc _).drew).mono (Nat.le_succ n), (((Mine.Two.refl g gm _).setCell _ _).alloc2 _ _).drew⟩
  · rw [if_neg hk] at H
    cases H
set_option maxHeartbeats 8000000 in
set_option maxRecDepth 100000 in
theorem vm_machine_moves.c2 (k B g gm n : Nat) (s : VmS) (jt jf K : Int) (d0 d1 d2 d3 d4 d5 d6 d7 d8 : Int) (b : Bool) (s' : VmS) (w : World) (hn : n < maxLen) (h : Mine.IsM Try.prog 79 23 B w g gm n s.a s.x s.o s.r s.C) (H : vm_moves.f k 2 K d0 d1 d2 d3 d4 d5 d6 d7 d8 s = some (b, s')) :
    Calls Try.prog 46 #[.pointer (some ⟨g, 0, none⟩), .agg #[.int .u16 2, .int .u8 jt, .int .u8 jf, .int .u32 K], .agg #[.int .u32 d0, .int .u32 d1, .int .u64 d2, .int .u64 d3, .int .u64 d4, .int .u64 d5, .int .u64 d6, .int .u64 d7, .int .u64 d8]] w fun e w' => e = .returned (.bool b) ∧ Mine.IsM Try.prog 79 23 B w' g gm (n + 1) s'.a s'.x s'.o s'.r s'.C ∧ Mine.Two g gm w w' := by
  have hM := Aside0.mk h
  have hBw := Aside0.mk (Nat.le_trans h.bg (Nat.le_of_lt h.lt))
  have c0 := h.c0
  have c1 := h.c1
  have c2 := h.c2
  have f0 := h.fr 0
  have f1 := h.fr 1
  have hlt := h.lt
  have hn0 := World.new_ne w _ c0
  rw [vm_moves.f, if_neg (by decide), vm_MV, if_neg (by decide), if_neg (by decide), if_neg (by decide), if_neg (by decide), if_pos (by decide)] at H
  by_cases hk : (0 ≤ K ∧ K ≤ 4294967295) ∧ 0 ≤ s.a ∧ s.a ≤ 4294967295
  · rw [if_pos hk] at H
    simp only [Option.some.injEq, Prod.mk.injEq] at H
    obtain ⟨rfl, rfl⟩ := H
    obtain ⟨w1, hrun, hM1, hg1⟩ := (((h.alloc (.cells #[.int .u16 2, .int .u8 jt, .int .u8 jf, .int .u32 K] 53 (0, 0))).alloc (.cells #[.int .u32 d0, .int .u32 d1, .int .u64 d2, .int .u64 d3, .int .u64 d4, .int .u64 d5, .int .u64 d6, .int .u64 d7, .int .u64 d8] 27 (0, 0))).drew).upd Try.underlying77 Try.underlying23 hn hk.1 hk.2
    have hM1' := Aside0.mk hM1
    have hg1' := Aside0.mk hg1
    have hne := Aside0.mk (show gm ≠ w.heap.size from Nat.ne_of_lt h.mlt)
    clear hk h hM1 hg1
    go_enter Try.func46, Try.ntmps46
    go_wp2
    go_region_held3 (fun w' => w'.cell? ⟨g, 0, none⟩ = some (.int .u32 s.a) ∧ w'.cell? ⟨g, 2, none⟩ = some (.map (some gm)) ∧ w'.cell? ⟨w.heap.size, 3, none⟩ = some (.int .u32 K))
      (first
        | exact ⟨((hM.out.alloc _).alloc _).drew.c0, ((hM.out.alloc _).alloc _).drew.c2, Mine.box0 w _ _ _ 3 rfl⟩
        | exact ⟨hM1'.out.c0, hM1'.out.c2, (World.cell?_of_block (a := ⟨w.heap.size, 3, none⟩) (hg1'.out.block w.heap.size (by simp; omega) (fun e => hne.out (Option.some.inj e).symm))).trans (Mine.box0 w _ _ _ 3 rfl)⟩)
      (fail)
    go_wp2
    go_ret
    exact ⟨rfl, hM1'.out, (((Mine.Two.refl g gm _).alloc2 _ _).drew).grown hg1'.out⟩
  · rw [if_neg hk] at H
    cases H
set_option maxHeartbeats 8000000 in
set_option maxRecDepth 100000 in
theorem vm_machine_moves.c3 (k B g gm n : Nat) (s : VmS) (jt jf K : Int) (d0 d1 d2 d3 d4 d5 d6 d7 d8 : Int) (b : Bool) (s' : VmS) (w : World) (hn : n < maxLen) (h : Mine.IsM Try.prog 79 23 B w g gm n s.a s.x s.o s.r s.C) (H : vm_moves.f k 3 K d0 d1 d2 d3 d4 d5 d6 d7 d8 s = some (b, s')) :
    Calls Try.prog 46 #[.pointer (some ⟨g, 0, none⟩), .agg #[.int .u16 3, .int .u8 jt, .int .u8 jf, .int .u32 K], .agg #[.int .u32 d0, .int .u32 d1, .int .u64 d2, .int .u64 d3, .int .u64 d4, .int .u64 d5, .int .u64 d6, .int .u64 d7, .int .u64 d8]] w fun e w' => e = .returned (.bool b) ∧ Mine.IsM Try.prog 79 23 B w' g gm (n + 1) s'.a s'.x s'.o s'.r s'.C ∧ Mine.Two g gm w w' := by
  have hM := Aside0.mk h
  have hBw := Aside0.mk (Nat.le_trans h.bg (Nat.le_of_lt h.lt))
  have c0 := h.c0
  have c1 := h.c1
  have c2 := h.c2
  have f0 := h.fr 0
  have f1 := h.fr 1
  have hlt := h.lt
  have hn0 := World.new_ne w _ c0
  rw [vm_moves.f, if_neg (by decide), vm_MV, if_neg (by decide), if_neg (by decide), if_neg (by decide), if_neg (by decide), if_neg (by decide), if_pos (by decide)] at H
  by_cases hk : (0 ≤ K ∧ K ≤ 4294967295) ∧ 0 ≤ s.x ∧ s.x ≤ 4294967295
  · rw [if_pos hk] at H
    simp only [Option.some.injEq, Prod.mk.injEq] at H
    obtain ⟨rfl, rfl⟩ := H
    obtain ⟨w1, hrun, hM1, hg1⟩ := (((h.alloc (.cells #[.int .u16 3, .int .u8 jt, .int .u8 jf, .int .u32 K] 53 (0, 0))).alloc (.cells #[.int .u32 d0, .int .u32 d1, .int .u64 d2, .int .u64 d3, .int .u64 d4, .int .u64 d5, .int .u64 d6, .int .u64 d7, .int .u64 d8] 27 (0, 0))).drew).upd Try.underlying77 Try.underlying23 hn hk.1 hk.2
    have hM1' := Aside0.mk hM1
    have hg1' := Aside0.mk hg1
    have hne := Aside0.mk (show gm ≠ w.heap.size from Nat.ne_of_lt h.mlt)
    clear hk h hM1 hg1
    go_enter Try.func46, Try.ntmps46
    go_wp2
    go_region_held3 (fun w' => w'.cell? ⟨g, 1, none⟩ = some (.int .u32 s.x) ∧ w'.cell? ⟨g, 2, none⟩ = some (.map (some gm)) ∧ w'.cell? ⟨w.heap.size, 3, none⟩ = some (.int .u32 K))
      (first
        | exact ⟨((hM.out.alloc _).alloc _).drew.c1, ((hM.out.alloc _).alloc _).drew.c2, Mine.box0 w _ _ _ 3 rfl⟩
        | exact ⟨hM1'.out.c1, hM1'.out.c2, (World.cell?_of_block (a := ⟨w.heap.size, 3, none⟩) (hg1'.out.block w.heap.size (by simp; omega) (fun e => hne.out (Option.some.inj e).symm))).trans (Mine.box0 w _ _ _ 3 rfl)⟩)
      (fail)
    go_wp2
    go_ret
    exact ⟨rfl, hM1'.out, (((Mine.Two.refl g gm _).alloc2 _ _).drew).grown hg1'.out⟩
  · rw [if_neg hk] at H
    cases H
set_option maxHeartbeats 8000000 in
set_option maxRecDepth 100000 in
theorem vm_machine_moves.c7 (k B g gm n : Nat) (s : VmS) (jt jf K : Int) (d0 d1 d2 d3 d4 d5 d6 d7 d8 : Int) (b : Bool) (s' : VmS) (w : World) (hn : n < maxLen) (h : Mine.IsM Try.prog 79 23 B w g gm n s.a s.x s.o s.r s.C) (H : vm_moves.f k 7 K d0 d1 d2 d3 d4 d5 d6 d7 d8 s = some (b, s')) :
    Calls Try.prog 46 #[.pointer (some ⟨g, 0, none⟩), .agg #[.int .u16 7, .int .u8 jt, .int .u8 jf, .int .u32 K], .agg #[.int .u32 d0, .int .u32 d1, .int .u64 d2, .int .u64 d3, .int .u64 d4, .int .u64 d5, .int .u64 d6, .int .u64 d7, .int .u64 d8]] w fun e w' => e = .returned (.bool b) ∧ Mine.IsM Try.prog 79 23 B w' g gm (n + 1) s'.a s'.x s'.o s'.r s'.C ∧ Mine.Two g gm w w' := by
  have hM := Aside0.mk h
  have hBw := Aside0.mk (Nat.le_trans h.bg (Nat.le_of_lt h.lt))
  have c0 := h.c0
  have c1 := h.c1
  have c2 := h.c2
  have f0 := h.fr 0
  have f1 := h.fr 1
  have hlt := h.lt
  have hn0 := World.new_ne w _ c0
  rw [vm_moves.f, if_neg (by decide), vm_MV, if_neg (by decide), if_neg (by decide), if_neg (by decide), if_neg (by decide), if_neg (by decide), if_neg (by decide), if_pos (by decide)] at H
  simp only [Option.some.injEq, Prod.mk.injEq] at H
  obtain ⟨rfl, rfl⟩ := H
  clear h
  go_enter Try.func46, Try.ntmps46
  go_wp2
  go_ret
  exact ⟨rfl, (((hM.out.put 1 _ rfl).alloc _).alloc _).mono (Nat.le_succ n), ((Mine.Two.refl g gm _).setCell _ _).alloc2 _ _⟩
set_option maxHeartbeats 8000000 in
set_option maxRecDepth 100000 in
theorem vm_machine_moves.c135 (k B g gm n : Nat) (s : VmS) (jt jf K : Int) (d0 d1 d2 d3 d4 d5 d6 d7 d8 : Int) (b : Bool) (s' : VmS) (w : World) (hn : n < maxLen) (h : Mine.IsM Try.prog 79 23 B w g gm n s.a s.x s.o s.r s.C) (H : vm_moves.f k 135 K d0 d1 d2 d3 d4 d5 d6 d7 d8 s = some (b, s')) :
    Calls Try.prog 46 #[.pointer (some ⟨g, 0, none⟩), .agg #[.int .u16 135, .int .u8 jt, .int .u8 jf, .int .u32 K], .agg #[.int .u32 d0, .int .u32 d1, .int .u64 d2, .int .u64 d3, .int .u64 d4, .int .u64 d5, .int .u64 d6, .int .u64 d7, .int .u64 d8]] w fun e w' => e = .returned (.bool b) ∧ Mine.IsM Try.prog 79 23 B w' g gm (n + 1) s'.a s'.x s'.o s'.r s'.C ∧ Mine.Two g gm w w' := by
  have hM := Aside0.mk h
  have hBw := Aside0.mk (Nat.le_trans h.bg (Nat.le_of_lt h.lt))
  have c0 := h.c0
  have c1 := h.c1
  have c2 := h.c2
  have f0 := h.fr 0
  have f1 := h.fr 1
  have hlt := h.lt
  have hn0 := World.new_ne w _ c0
  rw [vm_moves.f, if_neg (by decide), vm_MV, if_neg (by decide), if_neg (by decide), if_neg (by decide), if_neg (by decide), if_neg (by decide), if_neg (by decide), if_neg (by decide), if_pos (by decide)] at H
  simp only [Option.some.injEq, Prod.mk.injEq] at H
  obtain ⟨rfl, rfl⟩ := H
  clear h
  go_enter Try.func46, Try.ntmps46
  go_wp2
  go_ret
  exact ⟨rfl, (((hM.out.put 0 _ rfl).alloc _).alloc _).mono (Nat.le_succ n), ((Mine.Two.refl g gm _).setCell _ _).alloc2 _ _⟩
set_option maxHeartbeats 8000000 in
set_option maxRecDepth 100000 in
theorem vm_machine_moves.c132 (k B g gm n : Nat) (s : VmS) (jt jf K : Int) (d0 d1 d2 d3 d4 d5 d6 d7 d8 : Int) (b : Bool) (s' : VmS) (w : World) (hn : n < maxLen) (h : Mine.IsM Try.prog 79 23 B w g gm n s.a s.x s.o s.r s.C) (H : vm_moves.f k 132 K d0 d1 d2 d3 d4 d5 d6 d7 d8 s = some (b, s')) :
    Calls Try.prog 46 #[.pointer (some ⟨g, 0, none⟩), .agg #[.int .u16 132, .int .u8 jt, .int .u8 jf, .int .u32 K], .agg #[.int .u32 d0, .int .u32 d1, .int .u64 d2, .int .u64 d3, .int .u64 d4, .int .u64 d5, .int .u64 d6, .int .u64 d7, .int .u64 d8]] w fun e w' => e = .returned (.bool b) ∧ Mine.IsM Try.prog 79 23 B w' g gm (n + 1) s'.a s'.x s'.o s'.r s'.C ∧ Mine.Two g gm w w' := by
  have hM := Aside0.mk h
  have hBw := Aside0.mk (Nat.le_trans h.bg (Nat.le_of_lt h.lt))
  have c0 := h.c0
  have c1 := h.c1
  have c2 := h.c2
  have f0 := h.fr 0
  have f1 := h.fr 1
  have hlt := h.lt
  have hn0 := World.new_ne w _ c0
  rw [vm_moves.f, if_neg (by decide), vm_MV, if_neg (by decide), if_neg (by decide), if_neg (by decide), if_neg (by decide), if_neg (by decide), if_neg (by decide), if_neg (by decide), if_neg (by decide), if_pos (by decide)] at H
  simp only [Option.some.injEq, Prod.mk.injEq] at H
  obtain ⟨rfl, rfl⟩ := H
  clear h
  go_enter Try.func46, Try.ntmps46
  go_wp2
  go_ret
  exact ⟨rfl, (((hM.out.put 0 _ rfl).alloc _).alloc _).mono (Nat.le_succ n), ((Mine.Two.refl g gm _).setCell _ _).alloc2 _ _⟩
set_option maxHeartbeats 8000000 in
set_option maxRecDepth 100000 in
theorem vm_machine_moves.c6 (k B g gm n : Nat) (s : VmS) (jt jf K : Int) (d0 d1 d2 d3 d4 d5 d6 d7 d8 : Int) (b : Bool) (s' : VmS) (w : World) (hn : n < maxLen) (h : Mine.IsM Try.prog 79 23 B w g gm n s.a s.x s.o s.r s.C) (H : vm_moves.f k 6 K d0 d1 d2 d3 d4 d5 d6 d7 d8 s = some (b, s')) :
    Calls Try.prog 46 #[.pointer (some ⟨g, 0, none⟩), .agg #[.int .u16 6, .int .u8 jt, .int .u8 jf, .int .u32 K], .agg #[.int .u32 d0, .int .u32 d1, .int .u64 d2, .int .u64 d3, .int .u64 d4, .int .u64 d5, .int .u64 d6, .int .u64 d7, .int .u64 d8]] w fun e w' => e = .returned (.bool b) ∧ Mine.IsM Try.prog 79 23 B w' g gm (n + 1) s'.a s'.x s'.o s'.r s'.C ∧ Mine.Two g gm w w' := by
  have hM := Aside0.mk h
  have hBw := Aside0.mk (Nat.le_trans h.bg (Nat.le_of_lt h.lt))
  have c0 := h.c0
  have c1 := h.c1
  have c2 := h.c2
  have f0 := h.fr 0
  have f1 := h.fr 1
  have hlt := h.lt
  have hn0 := World.new_ne w _ c0
  rw [vm_moves.f, if_neg (by decide), vm_MV, if_neg (by decide), if_neg (by decide), if_neg (by decide), if_neg (by decide), if_neg (by decide), if_neg (by decide), if_neg (by decide), if_neg (by decide), if_neg (by decide), if_pos (by decide)] at H
  simp only [Option.some.injEq, Prod.mk.injEq] at H
  obtain ⟨rfl, rfl⟩ := H
  clear h
  go_enter Try.func46, Try.ntmps46
  go_wp2_with (first | (go_at_call 57; (refine (vm_machine_end.calls B g gm n s.a s.x s.o s.r s.C K _ ((hM.out.alloc _).alloc _)).mono ?_); rintro e w' ⟨rfl, hM2, hB2⟩))
  go_ret
  exact ⟨rfl, hM2.mono (Nat.le_succ n), ((Mine.Two.refl g gm _).alloc2 _ _).trans hB2⟩
set_option maxHeartbeats 8000000 in
set_option maxRecDepth 100000 in
theorem vm_machine_moves.c22 (k B g gm n : Nat) (s : VmS) (jt jf K : Int) (d0 d1 d2 d3 d4 d5 d6 d7 d8 : Int) (b : Bool) (s' : VmS) (w : World) (hn : n < maxLen) (h : Mine.IsM Try.prog 79 23 B w g gm n s.a s.x s.o s.r s.C) (H : vm_moves.f k 22 K d0 d1 d2 d3 d4 d5 d6 d7 d8 s = some (b, s')) :
    Calls Try.prog 46 #[.pointer (some ⟨g, 0, none⟩), .agg #[.int .u16 22, .int .u8 jt, .int .u8 jf, .int .u32 K], .agg #[.int .u32 d0, .int .u32 d1, .int .u64 d2, .int .u64 d3, .int .u64 d4, .int .u64 d5, .int .u64 d6, .int .u64 d7, .int .u64 d8]] w fun e w' => e = .returned (.bool b) ∧ Mine.IsM Try.prog 79 23 B w' g gm (n + 1) s'.a s'.x s'.o s'.r s'.C ∧ Mine.Two g gm w w' := by
  have hM := Aside0.mk h
  have hBw := Aside0.mk (Nat.le_trans h.bg (Nat.le_of_lt h.lt))
  have c0 := h.c0
  have c1 := h.c1
  have c2 := h.c2
  have f0 := h.fr 0
  have f1 := h.fr 1
  have hlt := h.lt
  have hn0 := World.new_ne w _ c0
  rw [vm_moves.f, if_neg (by decide), vm_MV, if_neg (by decide), if_neg (by decide), if_neg (by decide), if_neg (by decide), if_neg (by decide), if_neg (by decide), if_neg (by decide), if_neg (by decide), if_neg (by decide), if_neg (by decide), if_pos (by decide)] at H
  simp only [Option.some.injEq, Prod.mk.injEq] at H
  obtain ⟨rfl, rfl⟩ := H
  clear h
  go_enter Try.func46, Try.ntmps46
  go_wp2_with (first | (go_at_call 57; (refine (vm_machine_end.calls B g gm n s.a s.x s.o s.r s.C s.a _ ((hM.out.alloc _).alloc _)).mono ?_); rintro e w' ⟨rfl, hM2, hB2⟩))
  go_ret
  exact ⟨rfl, hM2.mono (Nat.le_succ n), ((Mine.Two.refl g gm _).alloc2 _ _).trans hB2⟩
set_option maxHeartbeats 8000000 in
set_option maxRecDepth 100000 in
theorem vm_machine_moves.c32 (k B g gm n : Nat) (s : VmS) (jt jf K : Int) (d0 d1 d2 d3 d4 d5 d6 d7 d8 : Int) (b : Bool) (s' : VmS) (w : World) (hn : n < maxLen) (h : Mine.IsM Try.prog 79 23 B w g gm n s.a s.x s.o s.r s.C) (H : vm_moves.f k 32 K d0 d1 d2 d3 d4 d5 d6 d7 d8 s = some (b, s')) :
    Calls Try.prog 46 #[.pointer (some ⟨g, 0, none⟩), .agg #[.int .u16 32, .int .u8 jt, .int .u8 jf, .int .u32 K], .agg #[.int .u32 d0, .int .u32 d1, .int .u64 d2, .int .u64 d3, .int .u64 d4, .int .u64 d5, .int .u64 d6, .int .u64 d7, .int .u64 d8]] w fun e w' => e = .returned (.bool b) ∧ Mine.IsM Try.prog 79 23 B w' g gm (n + 1) s'.a s'.x s'.o s'.r s'.C ∧ Mine.Two g gm w w' := by
  have hM := Aside0.mk h
  have hBw := Aside0.mk (Nat.le_trans h.bg (Nat.le_of_lt h.lt))
  have c0 := h.c0
  have c1 := h.c1
  have c2 := h.c2
  have f0 := h.fr 0
  have f1 := h.fr 1
  have hlt := h.lt
  have hn0 := World.new_ne w _ c0
  rw [vm_moves.f, if_pos (by decide)] at H
  obtain ⟨⟨t, e0⟩, hL, H⟩ := Option.bind_eq_some_iff.mp H
  have hL' := Aside0.mk hL
  simp only [Option.some.injEq, Prod.mk.injEq] at H
  obtain ⟨rfl, rfl⟩ := H
  clear h hL
  go_enter Try.func46, Try.ntmps46
  go_wp2_with (first | (go_at_call 56; (refine (data_Load.calls k d0 d1 d2 d3 d4 d5 d6 d7 d8 K t e0 _ hL'.out).mono ?_); rintro e w' ⟨rfl, hB2⟩; have hM2 := Aside0.mk (((hM.out.alloc _).alloc _).below hB2); have g0 := hM2.out.c0; have gf := hM2.out.fr 0; have hB3 := Aside0.mk hB2; clear hB2))
  go_ret
  exact ⟨rfl, (hM2.out.put 0 _ rfl).mono (Nat.le_succ n), (((Mine.Two.refl g gm _).alloc2 _ _).trans (Mine.Two.of_below hB3.out)).setCell _ _⟩
set_option maxHeartbeats 8000000 in
set_option maxRecDepth 100000 in
theorem vm_machine_moves.other (k B g gm n : Nat) (s : VmS) (jt jf K : Int) (d0 d1 d2 d3 d4 d5 d6 d7 d8 : Int) (b : Bool) (s' : VmS) (w : World) (hn : n < maxLen) (h : Mine.IsM Try.prog 79 23 B w g gm n s.a s.x s.o s.r s.C) (c : Int) (h32 : (c == 32) = false) (h0 : (c == 0) = false) (h1 : (c == 1) = false) (h96 : (c == 96) = false) (h97 : (c == 97) = false) (h2 : (c == 2) = false) (h3 : (c == 3) = false) (h7 : (c == 7) = false) (h135 : (c == 135) = false) (h132 : (c == 132) = false) (h6 : (c == 6) = false) (h22 : (c == 22) = false) (H : vm_moves.f k c K d0 d1 d2 d3 d4 d5 d6 d7 d8 s = some (b, s')) :
    Calls Try.prog 46 #[.pointer (some ⟨g, 0, none⟩), .agg #[.int .u16 c, .int .u8 jt, .int .u8 jf, .int .u32 K], .agg #[.int .u32 d0, .int .u32 d1, .int .u64 d2, .int .u64 d3, .int .u64 d4, .int .u64 d5, .int .u64 d6, .int .u64 d7, .int .u64 d8]] w fun e w' => e = .returned (.bool b) ∧ Mine.IsM Try.prog 79 23 B w' g gm (n + 1) s'.a s'.x s'.o s'.r s'.C ∧ Mine.Two g gm w w' := by
  have hM := Aside0.mk h
  have hBw := Aside0.mk (Nat.le_trans h.bg (Nat.le_of_lt h.lt))
  have c0 := h.c0
  have c1 := h.c1
  have c2 := h.c2
  have f0 := h.fr 0
  have f1 := h.fr 1
  have hlt := h.lt
  have hn0 := World.new_ne w _ c0
  simp only [vm_moves.f, vm_MV, *, Bool.false_eq_true, if_false, Option.some.injEq, Prod.mk.injEq] at H
  obtain ⟨rfl, rfl⟩ := H
  clear h
  go_enter Try.func46, Try.ntmps46
  go_wp2
  go_ret
  exact ⟨rfl, ((hM.out.alloc _).alloc _).mono (Nat.le_succ n), (Mine.Two.refl g gm _).alloc2 _ _⟩
theorem vm_machine_moves.calls (k B g gm n : Nat) (s : VmS) (c jt jf K : Int) (d0 d1 d2 d3 d4 d5 d6 d7 d8 : Int) (b : Bool) (s' : VmS) (w : World) (hn : n < maxLen) (h : Mine.IsM Try.prog 79 23 B w g gm n s.a s.x s.o s.r s.C) (H : vm_moves.f k c K d0 d1 d2 d3 d4 d5 d6 d7 d8 s = some (b, s')) :
    Calls Try.prog 46 #[.pointer (some ⟨g, 0, none⟩), .agg #[.int .u16 c, .int .u8 jt, .int .u8 jf, .int .u32 K], .agg #[.int .u32 d0, .int .u32 d1, .int .u64 d2, .int .u64 d3, .int .u64 d4, .int .u64 d5, .int .u64 d6, .int .u64 d7, .int .u64 d8]] w fun e w' => e = .returned (.bool b) ∧ Mine.IsM Try.prog 79 23 B w' g gm (n + 1) s'.a s'.x s'.o s'.r s'.C ∧ Mine.Two g gm w w' := by
  by_cases h32 : c = 32
  · subst h32
    exact vm_machine_moves.c32 k B g gm n s jt jf K d0 d1 d2 d3 d4 d5 d6 d7 d8 b s' w hn h H
  by_cases h0 : c = 0
  · subst h0
    exact vm_machine_moves.c0 k B g gm n s jt jf K d0 d1 d2 d3 d4 d5 d6 d7 d8 b s' w hn h H
  by_cases h1 : c = 1
  · subst h1
    exact vm_machine_moves.c1 k B g gm n s jt jf K d0 d1 d2 d3 d4 d5 d6 d7 d8 b s' w hn h H
  by_cases h96 : c = 96
  · subst h96
    exact vm_machine_moves.c96 k B g gm n s jt jf K d0 d1 d2 d3 d4 d5 d6 d7 d8 b s' w hn h H
  by_cases h97 : c = 97
  · subst h97
    exact vm_machine_moves.c97 k B g gm n s jt jf K d0 d1 d2 d3 d4 d5 d6 d7 d8 b s' w hn h H
  by_cases h2 : c = 2
  · subst h2
    exact vm_machine_moves.c2 k B g gm n s jt jf K d0 d1 d2 d3 d4 d5 d6 d7 d8 b s' w hn h H
  by_cases h3 : c = 3
  · subst h3
    exact vm_machine_moves.c3 k B g gm n s jt jf K d0 d1 d2 d3 d4 d5 d6 d7 d8 b s' w hn h H
  by_cases h7 : c = 7
  · subst h7
    exact vm_machine_moves.c7 k B g gm n s jt jf K d0 d1 d2 d3 d4 d5 d6 d7 d8 b s' w hn h H
  by_cases h135 : c = 135
  · subst h135
    exact vm_machine_moves.c135 k B g gm n s jt jf K d0 d1 d2 d3 d4 d5 d6 d7 d8 b s' w hn h H
  by_cases h132 : c = 132
  · subst h132
    exact vm_machine_moves.c132 k B g gm n s jt jf K d0 d1 d2 d3 d4 d5 d6 d7 d8 b s' w hn h H
  by_cases h6 : c = 6
  · subst h6
    exact vm_machine_moves.c6 k B g gm n s jt jf K d0 d1 d2 d3 d4 d5 d6 d7 d8 b s' w hn h H
  by_cases h22 : c = 22
  · subst h22
    exact vm_machine_moves.c22 k B g gm n s jt jf K d0 d1 d2 d3 d4 d5 d6 d7 d8 b s' w hn h H
  exact vm_machine_moves.other k B g gm n s jt jf K d0 d1 d2 d3 d4 d5 d6 d7 d8 b s' w hn h c (beq_eq_false_iff_ne.2 h32) (beq_eq_false_iff_ne.2 h0) (beq_eq_false_iff_ne.2 h1) (beq_eq_false_iff_ne.2 h96) (beq_eq_false_iff_ne.2 h97) (beq_eq_false_iff_ne.2 h2) (beq_eq_false_iff_ne.2 h3) (beq_eq_false_iff_ne.2 h7) (beq_eq_false_iff_ne.2 h135) (beq_eq_false_iff_ne.2 h132) (beq_eq_false_iff_ne.2 h6) (beq_eq_false_iff_ne.2 h22) H
/-- What an instruction does that brings nothing from one place to another: how many are passed over. -/
def vm_ST (c jt jf K : Int) (s : VmS) : Int × VmS :=
  let by_ := Go.bits .and .u16 c 8 != 0
  let n := if by_ = true then s.x else K
  let q := if by_ = true then Go.bits .andNot .u16 c 8 else c
  if (q == 5) = true then (wrap64 K, s) else if ((q == 21) || (q == 37) || (q == 53) || (q == 69)) = true then ((if vm_HL q s.a n = true then wrap64 jt else wrap64 jf), s) else (0, { s with a := (vm_RK q s.a n s.o s.r).1, o := (vm_RK q s.a n s.o s.r).2.1, r := (vm_RK q s.a n s.o s.r).2.2 })
def vm_step.f (k : Nat) (c jt jf K : Int) (d0 d1 d2 d3 d4 d5 d6 d7 d8 : Int) (s : VmS) : Option (Int × VmS) := (vm_moves.f k c K d0 d1 d2 d3 d4 d5 d6 d7 d8 s).bind fun p => if p.1 = true then some (0, p.2) else if 0 ≤ s.x ∧ 0 ≤ K ∧ K ≤ 4294967295 then some (vm_ST c jt jf K p.2) else none
theorem vm_MV_false {c K : Int} {s s' : VmS} (h : vm_MV c K s = some (false, s')) : s' = s := by
  unfold vm_MV at h
  repeat' split at h
  all_goals first | (simp only [Option.some.injEq, Prod.mk.injEq] at h; first | exact absurd h.1 (by decide) | exact h.2.symm) | cases h
theorem vm_moves_false {k : Nat} {c K : Int} {d0 d1 d2 d3 d4 d5 d6 d7 d8 : Int} {s s' : VmS} (h : vm_moves.f k c K d0 d1 d2 d3 d4 d5 d6 d7 d8 s = some (false, s')) : s' = s := by
  unfold vm_moves.f at h
  split at h
  · obtain ⟨t, _, h⟩ := Option.bind_eq_some_iff.mp h
    simp only [Option.some.injEq, Prod.mk.injEq] at h
    exact absurd h.1 (by decide)
  · exact vm_MV_false h
set_option maxHeartbeats 8000000 in
set_option maxRecDepth 100000 in
theorem vm_machine_step.calls (k B g gm n : Nat) (s : VmS) (c jt jf K : Int) (d0 d1 d2 d3 d4 d5 d6 d7 d8 : Int) (q : Int) (s' : VmS) (w : World) (hn : n < maxLen) (h : Mine.IsM Try.prog 79 23 B w g gm n s.a s.x s.o s.r s.C) (H : vm_step.f k c jt jf K d0 d1 d2 d3 d4 d5 d6 d7 d8 s = some (q, s')) :
    Calls Try.prog 36 #[.pointer (some ⟨g, 0, none⟩), .agg #[.int .u16 c, .int .u8 jt, .int .u8 jf, .int .u32 K], .agg #[.int .u32 d0, .int .u32 d1, .int .u64 d2, .int .u64 d3, .int .u64 d4, .int .u64 d5, .int .u64 d6, .int .u64 d7, .int .u64 d8]] w fun e w' => e = .returned (.int .i64 q) ∧ Mine.IsM Try.prog 79 23 B w' g gm (n + 1) s'.a s'.x s'.o s'.r s'.C ∧ Mine.Two g gm w w' := by
  have hM := Aside0.mk h
  have hBw := Aside0.mk (Nat.le_trans h.bg (Nat.le_of_lt h.lt))
  have hn' := Aside0.mk hn
  obtain ⟨⟨b, s1⟩, hmv, H⟩ := Option.bind_eq_some_iff.mp H
  have A1 := Aside0.mk hmv
  cases b with
  | true =>
    rw [if_pos rfl] at H
    simp only [Option.some.injEq, Prod.mk.injEq] at H
    obtain ⟨rfl, rfl⟩ := H
    clear hmv h hn
    go_enter Try.func36, Try.ntmps36
    go_wp2_with (first | (go_at_call 46; (refine (vm_machine_moves.calls k B g gm n s c jt jf K d0 d1 d2 d3 d4 d5 d6 d7 d8 true s1 _ hn'.out (by first | exact hM.out | exact hM.out.alloc _ | exact (hM.out.alloc _).alloc _) A1.out).mono ?_); rintro e w' ⟨rfl, hM2, hB2⟩))
    go_ret
    exact ⟨rfl, hM2, ((Mine.Two.refl g gm _).alloc2 _ _).trans hB2⟩
  | false =>
    obtain rfl := vm_moves_false hmv
    have hng := Aside0.mk (show w.heap.size ≠ g from Nat.ne_of_gt h.lt)
    have hngm := Aside0.mk (show w.heap.size ≠ gm from Nat.ne_of_gt h.mlt)
    rw [if_neg (by simp)] at H
    by_cases hx : 0 ≤ s1.x ∧ 0 ≤ K ∧ K ≤ 4294967295
    · rw [if_pos hx] at H
      have hST := Aside0.mk (Option.some.inj H)
      have hx' := Aside0.mk hx
      clear hmv h hn H hx
      go_enter Try.func36, Try.ntmps36
      go_wp2_with (first | (go_at_call 46; (refine (vm_machine_moves.calls k B g gm n s1 c jt jf K d0 d1 d2 d3 d4 d5 d6 d7 d8 false s1 _ hn'.out (by first | exact hM.out | exact hM.out.alloc _ | exact (hM.out.alloc _).alloc _) A1.out).mono ?_); rintro e w' ⟨rfl, hM2, hB2⟩; have b3 : w'.cell? ⟨w.heap.size, 3, none⟩ = some (.int .u32 K) := hB2.cell (a := ⟨w.heap.size, 3, none⟩) (Mine.box0 w _ _ _ 3 rfl) hng.out hngm.out; have b0 : w'.cell? ⟨w.heap.size, 0, none⟩ = some (.int .u16 c) := hB2.cell (a := ⟨w.heap.size, 0, none⟩) (Mine.box0 w _ _ _ 0 rfl) hng.out hngm.out; have b1 : w'.cell? ⟨w.heap.size, 1, none⟩ = some (.int .u8 jt) := hB2.cell (a := ⟨w.heap.size, 1, none⟩) (Mine.box0 w _ _ _ 1 rfl) hng.out hngm.out; have b2 : w'.cell? ⟨w.heap.size, 2, none⟩ = some (.int .u8 jf) := hB2.cell (a := ⟨w.heap.size, 2, none⟩) (Mine.box0 w _ _ _ 2 rfl) hng.out hngm.out; have m0 := hM2.c0; have m1 := hM2.c1; have hM3 := Aside0.mk hM2; have hB3 := Aside0.mk hB2; clear hM2 hB2))
      go_region_held3 (fun w' => w'.cell? ⟨w.heap.size, 3, none⟩ = some (.int .u32 K) ∧ w'.cell? ⟨w.heap.size, 0, none⟩ = some (.int .u16 c)) (go_keep) (fail)
      go_wp2_with (first | (go_at_call 47; (refine (vm_machine_holds.calls B g gm (n + 1) s1.a s1.x s1.o s1.r s1.C _ _ _ (by first | exact hM3.out.drew | exact hM3.out)).mono ?_); rintro e w2 ⟨rfl, hM4, hB4⟩; have e1 : w2.cell? ⟨w.heap.size, 1, none⟩ = some (.int .u8 jt) := hB4.cell (a := ⟨w.heap.size, 1, none⟩) (show w'.drew.cell? _ = _ from b1) hng.out hngm.out; have e2 : w2.cell? ⟨w.heap.size, 2, none⟩ = some (.int .u8 jf) := hB4.cell (a := ⟨w.heap.size, 2, none⟩) (show w'.drew.cell? _ = _ from b2) hng.out hngm.out; have hB5 := Aside0.mk hB4; have hM5 := Aside0.mk hM4; clear hB4 hM4) | (go_at_call 48; (refine (vm_machine_reckon.calls B g gm (n + 1) s1.a s1.x s1.o s1.r s1.C _ _ _ (by first | exact hx'.out.1 | exact hx'.out.2.1) (by first | exact hM3.out.drew | exact hM3.out)).mono ?_); rintro e w2 ⟨rfl, hM4, hB4⟩))
      all_goals
        go_ret
        have hS := hST.out
        clear hST
        simp only [vm_ST, *, if_true, if_false, Bool.false_eq_true, Bool.or_true, Bool.true_or, Bool.or_false, Bool.or_self, Prod.mk.injEq] at hS
        obtain ⟨rfl, rfl⟩ := hS
        first
        | exact ⟨rfl, hM5.out, ((((Mine.Two.refl g gm _).alloc2 _ _).trans hB3.out).drew).trans hB5.out⟩
        | exact ⟨rfl, hM4, ((((Mine.Two.refl g gm _).alloc2 _ _).trans hB3.out).drew).trans hB4⟩
        | exact ⟨rfl, hM3.out.drew, (((Mine.Two.refl g gm _).alloc2 _ _).trans hB3.out).drew⟩
    · rw [if_neg hx] at H
      cases H
/-- A program that is played: its answer, the places in their order. -/
def vm_play.l0 : Nat → List S53 → Int → Int → Int → Int → Int → Int → Int → Int → Int → Int → VmS → List Int → Option (Int × List Int)
  | 0, _, _, _, _, _, _, _, _, _, _, _, _, _ => none
  | k + 1, l, d0, d1, d2, d3, d4, d5, d6, d7, d8, i, s, L => if s.o = true then some (s.r, L) else if 0 ≤ i ∧ i < (l.length : Int) ∧ L.length < 1000000000 then ((vm_step.f k (rd_T53 l i).f0 (rd_T53 l i).f1 (rd_T53 l i).f2 (rd_T53 l i).f3 d0 d1 d2 d3 d4 d5 d6 d7 d8 s).bind fun p => vm_play.l0 k l d0 d1 d2 d3 d4 d5 d6 d7 d8 (wrap64 (wrap64 (i + p.1) + 1)) p.2 (L ++ [i])) else none
def vm_play.f (k : Nat) (l : List S53) (d0 d1 d2 d3 d4 d5 d6 d7 d8 : Int) : Option (Int × List Int × Int) := (check_Check.f k l).bind fun t => if t.1 = 0 then ((vm_play.l0 k l d0 d1 d2 d3 d4 d5 d6 d7 d8 0 ⟨0, 0, false, 0, fun _ => 0⟩ []).bind fun q => some (q.1, q.2, 0)) else some (0, [], t.1)
set_option maxHeartbeats 8000000 in
set_option maxRecDepth 100000 in
theorem vm_Run_seen.calls (sb : Nat) (a n : Int) (w : World) (h : w.heap[sb]? = some (.cells #[.int .i64 n] 3 (0, 0))) :
    Calls Try.prog 30 #[.int .i64 a, .pointer (some ⟨sb, 0, none⟩)] w fun e w' => e = .returned (.tuple #[]) ∧ w'.heap[sb]? = some (.cells #[.int .i64 (wrap64 (n + 1))] 3 (0, 0)) ∧ Mine.Two sb sb w w' := by
  have hb := Aside0.mk h
  have c0 : w.cell? ⟨sb, 0, none⟩ = some (.int .i64 n) := (blk_cell h 0).trans rfl
  have f0 := blk_frozen h 0
  clear h
  go_enter Try.func30, Try.ntmps30
  go_wp2
  go_end0
  exact ⟨rfl, blk_put hb.out 0 _ rfl, (Mine.Two.refl sb sb _).setCell _ _⟩
set_option maxHeartbeats 8000000 in
set_option maxRecDepth 100000 in
theorem vm_play.run (k : Nat) (A0 : Option Addr) (c0 : Nat) (l : List S53) (d0 d1 d2 d3 d4 d5 d6 d7 d8 : Int) (ans : Int) (LL : List Int) (er : Int) (w0 w : World) (sb : Nat) (hr : Kd.C k53 w0 A0 l.length l) (hc : l.length ≤ c0) (hB : Below w0.heap.size w0 w) (hs : w.heap[sb]? = some (.cells #[.int .i64 0] 3 (0, 0))) (hsB : w0.heap.size ≤ sb) (H : vm_play.f k l d0 d1 d2 d3 d4 d5 d6 d7 d8 = some (ans, LL, er)) :
    Calls Try.prog 29 #[.slice A0 l.length c0, .agg #[.int .u32 d0, .int .u32 d1, .int .u64 d2, .int .u64 d3, .int .u64 d4, .int .u64 d5, .int .u64 d6, .int .u64 d7, .int .u64 d8], .func (.func 30) #[] #[.pointer (some ⟨sb, 0, none⟩)]] w fun e w' => e = .returned (.tuple #[.int .u32 ans, .int .i64 er]) ∧ w'.heap[sb]? = some (.cells #[.int .i64 LL.length] 3 (0, 0)) ∧ Below w0.heap.size w0 w' := by
  have hR := Aside0.mk hr
  have hC := Aside0.mk hc
  have HB := Aside0.mk hB
  have HS := Aside0.mk hs
  have HSB := Aside0.mk hsB
  have hmm := @run_makeMap Try.prog
  have hwB := Aside0.mk hB.size
  obtain ⟨⟨t1, t2⟩, hch, H⟩ := Option.bind_eq_some_iff.mp H
  have A1 := Aside0.mk hch
  clear hr hc hB hs hsB hch
  by_cases ht : t1 = 0
  · subst ht
    rw [if_pos rfl] at H
    obtain ⟨⟨q1, q2⟩, hq, H⟩ := Option.bind_eq_some_iff.mp H
    simp only [Option.some.injEq, Prod.mk.injEq] at H
    obtain ⟨rfl, rfl, rfl⟩ := H
    have H' := Aside0.mk hq
    clear hq
    go_enter Try.func29, Try.ntmps29
    go_wp2_with (first | (go_at_call 22; (refine (check_Check.calls k A0 c0 l 0 t2 _ (Kd.C_below hR.out (HB.out.alloc hwB.out _)) hC.out A1.out).mono ?_); rintro e w1 ⟨rfl, hB1⟩; have hd1 := Aside0.mk (blk_below (blk_new w (.cells #[.int .u32 d0, .int .u32 d1, .int .u64 d2, .int .u64 d3, .int .u64 d4, .int .u64 d5, .int .u64 d6, .int .u64 d7, .int .u64 d8] 27 (0, 0))) hB1); have HBs := Aside0.mk (blk_below (blk_alloc HS.out (.cells #[.int .u32 d0, .int .u32 d1, .int .u64 d2, .int .u64 d3, .int .u64 d4, .int .u64 d5, .int .u64 d6, .int .u64 d7, .int .u64 d8] 27 (0, 0))) hB1); have hw1 := Aside0.mk (Nat.le_trans (show w.heap.size + 1 ≤ (w.alloc (.cells #[.int .u32 d0, .int .u32 d1, .int .u64 d2, .int .u64 d3, .int .u64 d4, .int .u64 d5, .int .u64 d6, .int .u64 d7, .int .u64 d8] 27 (0, 0))).heap.size by simp) hB1.size); have HB1 := Aside0.mk ((HB.out.alloc hwB.out (.cells #[.int .u32 d0, .int .u32 d1, .int .u64 d2, .int .u64 d3, .int .u64 d4, .int .u64 d5, .int .u64 d6, .int .u64 d7, .int .u64 d8] 27 (0, 0))).trans (hB1.mono (Nat.le_trans hwB.out (by simp)))); clear hB1))
    have hsw := Aside0.mk (blk_lt HS.out)
    go_loopg [11] k (fun kq v11 w' => ∃ (i : Int) (s : VmS) (L : List Int), v11 = .int .i64 i ∧ Aside0 (vm_play.l0 kq l d0 d1 d2 d3 d4 d5 d6 d7 d8 i s L = some (q1, q2)) ∧ Aside0 (Mine.IsM Try.prog 79 23 w0.heap.size w' (w1.heap.size + 1) w1.heap.size L.length s.a s.x s.o s.r s.C) ∧ Aside0 (w'.heap[w.heap.size]? = some (.cells #[.int .u32 d0, .int .u32 d1, .int .u64 d2, .int .u64 d3, .int .u64 d4, .int .u64 d5, .int .u64 d6, .int .u64 d7, .int .u64 d8] 27 (0, 0))) ∧ Aside0 (w'.heap[sb]? = some (.cells #[.int .i64 L.length] 3 (0, 0))) ∧ Aside0 (Below w0.heap.size w0 w') ∧ Aside0 (w1.heap.size ≤ w'.heap.size))
    case atStart => exact ⟨0, ⟨0, 0, false, 0, fun _ => 0⟩, [], rfl, H', ⟨Mine.made Try.prog 79 23 w1 HB1.out.size⟩, ⟨blk_alloc (blk_alloc hd1.out _) _⟩, ⟨blk_alloc (blk_alloc HBs.out _) _⟩, ⟨Mine.below2 HB1.out HB1.out.size _ _⟩, ⟨by simp; omega⟩⟩
    case round =>
      clear H' HBs
      obtain ⟨i, s, L, rfl, HA, hM, hD, hS, hBr, hsz⟩ := hrel
      cases gk with
      | zero => exact absurd HA.out (by simp [vm_play.l0])
      | succ k1 =>
        have H := HA.out
        clear HA
        simp only [vm_play.l0] at H
        by_cases ho : s.o = true
        · rw [if_pos ho] at H
          simp only [Option.some.injEq, Prod.mk.injEq] at H
          obtain ⟨rfl, rfl⟩ := H
          have c3 := hM.out.c3
          rw [ho] at c3
          have c4 := hM.out.c4
          clear ho
          go_wp2
          go_ret2
          exact ⟨rfl, hS.out, hBr.out⟩
        · rw [if_neg ho] at H
          by_cases hi : 0 ≤ i ∧ i < (l.length : Int) ∧ L.length < 1000000000
          · rw [if_pos hi] at H
            obtain ⟨⟨q, s2⟩, hst, H⟩ := Option.bind_eq_some_iff.mp H
            have A2 := Aside0.mk hst
            have H' := Aside0.mk H
            have hL := Aside0.mk hi.2.2
            have i0 := hi.1
            have i1 := hi.2.1
            have c3 := hM.out.c3
            have ho2 : s.o = false := by simpa using ho
            rw [ho2] at c3
            clear H hst ho hi ho2
            obtain ⟨ad, e0, _⟩ := at_T53 (Kd.C_below hR.out hBr.out) i i0 i1
            cases e0
            go_wp2_with (first | (go_at_call 30; (refine (vm_Run_seen.calls sb i L.length _ hS.out).mono ?_); rintro e w2 ⟨rfl, hS2, hT2⟩; have hB2 := hBr.out.trans (hT2.below (Nat.le_trans hBr.out.size (Nat.le_refl _)) HSB.out HSB.out); obtain ⟨ad2, e2, x0, x1, x2, x3⟩ := at_T53 (Kd.C_below hR.out hB2) i i0 i1; cases e2; have hD2 := hT2.blk hD.out (Nat.ne_of_gt hsw.out) (Nat.ne_of_gt hsw.out); have hM2 := Aside0.mk (hM.out.two hT2 (by have := hsw.out; have := hw1.out; omega) (by have := hsw.out; have := hw1.out; omega) (by have := hsw.out; have := hw1.out; omega) (by have := hsw.out; have := hw1.out; omega)); have hD3 := Aside0.mk hD2; have hS3 := Aside0.mk hS2; have hB3 := Aside0.mk hB2; have hT3 := Aside0.mk hT2; clear hD2 hS2 hB2 hT2))
            go_region_held3 (fun w' => w'.cell? (ad.add (i.toNat * 4)) = some (.int .u16 (rd_T53 l i).f0) ∧ w'.cell? ⟨(ad.add (i.toNat * 4)).block, (ad.add (i.toNat * 4)).off + 1, none⟩ = some (.int .u8 (rd_T53 l i).f1) ∧ w'.cell? ⟨(ad.add (i.toNat * 4)).block, (ad.add (i.toNat * 4)).off + 2, none⟩ = some (.int .u8 (rd_T53 l i).f2) ∧ w'.cell? ⟨(ad.add (i.toNat * 4)).block, (ad.add (i.toNat * 4)).off + 3, none⟩ = some (.int .u32 (rd_T53 l i).f3) ∧ w'.cell? ⟨w.heap.size, 0, none⟩ = some (.int .u32 d0) ∧ w'.cell? ⟨w.heap.size, 1, none⟩ = some (.int .u32 d1) ∧ w'.cell? ⟨w.heap.size, 2, none⟩ = some (.int .u64 d2) ∧ w'.cell? ⟨w.heap.size, 3, none⟩ = some (.int .u64 d3) ∧ w'.cell? ⟨w.heap.size, 4, none⟩ = some (.int .u64 d4) ∧ w'.cell? ⟨w.heap.size, 5, none⟩ = some (.int .u64 d5) ∧ w'.cell? ⟨w.heap.size, 6, none⟩ = some (.int .u64 d6) ∧ w'.cell? ⟨w.heap.size, 7, none⟩ = some (.int .u64 d7) ∧ w'.cell? ⟨w.heap.size, 8, none⟩ = some (.int .u64 d8)) (first | exact ⟨x0, x1, x2, x3, (blk_cell hD3.out 0).trans rfl, (blk_cell hD3.out 1).trans rfl, (blk_cell hD3.out 2).trans rfl, (blk_cell hD3.out 3).trans rfl, (blk_cell hD3.out 4).trans rfl, (blk_cell hD3.out 5).trans rfl, (blk_cell hD3.out 6).trans rfl, (blk_cell hD3.out 7).trans rfl, (blk_cell hD3.out 8).trans rfl⟩ | exact ⟨z0, z1, z2, z3, (blk_cell hD4.out 0).trans rfl, (blk_cell hD4.out 1).trans rfl, (blk_cell hD4.out 2).trans rfl, (blk_cell hD4.out 3).trans rfl, (blk_cell hD4.out 4).trans rfl, (blk_cell hD4.out 5).trans rfl, (blk_cell hD4.out 6).trans rfl, (blk_cell hD4.out 7).trans rfl, (blk_cell hD4.out 8).trans rfl⟩)
              ((go_at_call 36; (refine (vm_machine_step.calls k1 w0.heap.size (w1.heap.size + 1) w1.heap.size L.length s (rd_T53 l i).f0 (rd_T53 l i).f1 (rd_T53 l i).f2 (rd_T53 l i).f3 d0 d1 d2 d3 d4 d5 d6 d7 d8 q s2 _ (by have := hL.out; unfold maxLen; omega) hM2.out.drew A2.out).mono ?_); rintro e w3 ⟨rfl, hM3, hT4⟩; have hB4 := hB3.out.drew.trans (hT4.below hB3.out.size (Nat.le_trans HB1.out.size (Nat.le_succ _)) HB1.out.size); obtain ⟨ad3, e3, z0, z1, z2, z3⟩ := at_T53 (Kd.C_below hR.out hB4) i i0 i1; cases e3; have hD4 := Aside0.mk (hT4.blk hD3.out (by have := hw1.out; omega) (by have := hw1.out; omega)); have hB5 := Aside0.mk hB4; have hT5 := Aside0.mk hT4; have hM5 := Aside0.mk hM3; clear hB4 hT4 hM3))
            go_wp2
            go_roundg k1
            case measure => omega
            case rel =>
              have hwl : wrap64 ((L.length : Int) + 1) = ((L ++ [i]).length : Int) := by have := hL.out; rw [List.length_append, List.length_singleton]; unfold wrap64; omega
              refine ⟨wrap64 (wrap64 (i + q) + 1), s2, L ++ [i], by first | rfl | (simp only [i64_w]), H', ⟨by rw [List.length_append]; exact hM5.out⟩, hD4, ⟨?_⟩, hB5, ⟨?_⟩⟩
              · rw [← hwl]
                exact hT5.out.blk hS3.out (by have := hsw.out; have := hw1.out; omega) (by have := hsw.out; have := hw1.out; omega)
              · exact Nat.le_trans hsz.out (Nat.le_trans hT3.out.size hT5.out.size)
          · rw [if_neg hi] at H
            cases H
  · rw [if_neg ht] at H
    simp only [Option.some.injEq, Prod.mk.injEq] at H
    obtain ⟨rfl, rfl, rfl⟩ := H
    have ht1 : (t1 != 0) = true := bne_iff_ne.2 ht
    go_enter Try.func29, Try.ntmps29
    go_wp2_with (first | (go_at_call 22; (refine (check_Check.calls k A0 c0 l t1 t2 _ (Kd.C_below hR.out (HB.out.alloc hwB.out _)) hC.out A1.out).mono ?_); rintro e w1 ⟨rfl, hB1⟩; have HBs := Aside0.mk (blk_below (blk_alloc HS.out (.cells #[.int .u32 d0, .int .u32 d1, .int .u64 d2, .int .u64 d3, .int .u64 d4, .int .u64 d5, .int .u64 d6, .int .u64 d7, .int .u64 d8] 27 (0, 0))) hB1); have HB1 := Aside0.mk ((HB.out.alloc hwB.out (.cells #[.int .u32 d0, .int .u32 d1, .int .u64 d2, .int .u64 d3, .int .u64 d4, .int .u64 d5, .int .u64 d6, .int .u64 d7, .int .u64 d8] 27 (0, 0))).trans (hB1.mono (Nat.le_trans hwB.out (by simp)))); clear hB1))
    go_ret2
    exact ⟨rfl, HBs.out, HB1.out⟩
theorem vm_moves.mono (c K d0 d1 d2 d3 d4 d5 d6 d7 d8 : Int) (s : VmS) (k : Nat) : LeO (vm_moves.f k c K d0 d1 d2 d3 d4 d5 d6 d7 d8 s) (vm_moves.f (k + 1) c K d0 d1 d2 d3 d4 d5 d6 d7 d8 s) := by
  unfold vm_moves.f
  exact LeO.ite (LeO.bind (data_Load.mono _ _ _ _ _ _ _ _ _ _ _) (fun _ => LeO.refl _)) (LeO.refl _)
theorem vm_step.mono (c jt jf K d0 d1 d2 d3 d4 d5 d6 d7 d8 : Int) (s : VmS) (k : Nat) : LeO (vm_step.f k c jt jf K d0 d1 d2 d3 d4 d5 d6 d7 d8 s) (vm_step.f (k + 1) c jt jf K d0 d1 d2 d3 d4 d5 d6 d7 d8 s) := by
  unfold vm_step.f
  exact LeO.bind (vm_moves.mono _ _ _ _ _ _ _ _ _ _ _ _ _) (fun _ => LeO.refl _)
def vm_Run.f (k : Nat) (l : List S53) (d0 d1 d2 d3 d4 d5 d6 d7 d8 : Int) : Option (Int × Int × Int) := (vm_play.f k l d0 d1 d2 d3 d4 d5 d6 d7 d8).bind fun t => some (t.1, (t.2.1.length : Int), t.2.2)
set_option maxHeartbeats 8000000 in
set_option maxRecDepth 100000 in
theorem vm_Run.calls (k : Nat) (A0 : Option Addr) (c0 : Nat) (l0 : List S53) (d0 d1 d2 d3 d4 d5 d6 d7 d8 : Int) (r1 r2 r3 : Int) (w : World) (hr0 : Kd.C k53 w A0 l0.length l0) (hc0 : l0.length ≤ c0) (h : vm_Run.f k l0 d0 d1 d2 d3 d4 d5 d6 d7 d8 = some (r1, r2, r3)) :
    Calls Try.prog 19 #[.slice A0 l0.length c0, .agg #[.int .u32 d0, .int .u32 d1, .int .u64 d2, .int .u64 d3, .int .u64 d4, .int .u64 d5, .int .u64 d6, .int .u64 d7, .int .u64 d8]] w fun e w' => e = .returned (.tuple #[.int .u32 r1, .int .i64 r2, .int .i64 r3]) ∧ Below w.heap.size w w' := by
  obtain ⟨⟨q1, q2, q3⟩, hp, h⟩ := Option.bind_eq_some_iff.mp h
  simp only [Option.some.injEq, Prod.mk.injEq] at h
  obtain ⟨rfl, rfl, rfl⟩ := h
  have hR := Aside0.mk hr0
  have hC := Aside0.mk hc0
  have hP := Aside0.mk hp
  clear hr0 hc0 hp
  have hmf : ∀ (fn : Fn) (first cap : Array Value) (w : World), (Instr.makeFunc fn first cap).run Try.prog w = .ok (.func fn first cap) w := fun _ _ _ _ => rfl
  go_enter Try.func19, Try.ntmps19
  go_wp2_with (first | (go_at_call 29; (refine (vm_play.run k A0 c0 l0 d0 d1 d2 d3 d4 d5 d6 d7 d8 q1 q2 q3 w _ (w.heap.size + 1) hR.out hC.out (Mine.below2 (Below.refl _ _) (Nat.le_refl _) _ _) (by simpa using blk_new (w.alloc _) _) (Nat.le_succ _) hP.out).mono ?_); rintro e w1 ⟨rfl, hs1, hB1⟩))
  have hS := Aside0.mk ((blk_cell hs1 0).trans rfl : w1.cell? ⟨w.heap.size + 1, 0, none⟩ = some (.int .i64 q2.length))
  go_region_held3 (fun w' => w'.cell? ⟨w.heap.size + 1, 0, none⟩ = some (.int .i64 q2.length)) (exact hS.out) (fail)
  go_wp2
  (try simp only [Exit.inBlock, Exit.then])
  refine bodyPost_ret (results_tmp3 rfl _ _ _) rfl ?_
  exact ⟨rfl, hB1.drew⟩
end Go.Proofs.Yteojfjlklikaoaa.M
