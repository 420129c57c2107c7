-- Laid by a program (wip/tools/myprint.py) out of the loaded program's own print: for each Go function a Lean function and the proof of its contract.
import Derived.Test.YtfahchgglapglaaQMx0
import Derived.Test.YtfahchgglapglaaQMx5
import Derived.Test.YtfahchgglapglaaQMx6
import Derived.Test.YtfahchgglapglaaQMx9
namespace Go.Proofs.Ytfahchgglapglaa.M
open Go.RowKit Go.Proofs.YtfahchgglapglaaW.PrintWords Go.Proofs.YtfahchgglapglaaW.PrintLast Go.Proofs.YtfahchgglapglaaW.PrintMore
attribute [local go_sem] max2_int min2_int max_two min_two max_three min_three max_four min_four   -- for this text's walks alone
set_option linter.unusedVariables false
set_option linter.unusedSimpArgs false
-- HAND rounds=True making=True
open Mine
theorem run_assert (v : Value) (w : World) : (Instr.typeAssert (.iface 48 v) 20 48 true).run Try.prog w = .ok (.tuple #[v, .bool true]) w := by
 have hu := Try.underlying48
 unfold Instr.typeAssert
 go_simp
theorem run_assert_nil (w : World) : (Instr.typeAssert .nilIface 20 48 true).run Try.prog w = .ok (.tuple #[.agg #[.int .i64 0, .int .i64 0], .bool false]) w := by
 have hz : ∀ w : World, (zeroValue 48).run Try.prog w = .ok (.agg #[.int .i64 0, .int .i64 0]) w := (fun w => by kernel_rfl)
 have hu := Try.underlying48
 unfold Instr.typeAssert
 go_simp
theorem cfar {w : World} {a : Addr} {v : Value} (h : w.cell? a = some v) {p : Addr} (hp : a.block ≠ p.block) (u : Value) : (w.setCell p u).cell? a = some v := (World.cell?_of_block (w := w) (Below.heap_setCell w p u a.block hp)).trans h
theorem drew0_ {w : World} {a : Addr} {v : Value} (h : w.cell? a = some v) : w.drew.cell? a = some v := h
theorem cs3_ {w : World} {b o : Nat} {v : Value} (h : w.cell? ⟨b, o, none⟩ = some v) {c : Nat} (hc : b ≠ c) {u0 u1 u2 : Value} : (((w.setCell ⟨c, 0, none⟩ u0).setCell ⟨c, 1, none⟩ u1).setCell ⟨c, 2, none⟩ u2).drew.cell? ⟨b, o, none⟩ = some v := drew0_ (cfar (cfar (cfar h hc _) hc _) hc _)
theorem cs4_ {w : World} {b o : Nat} {v : Value} (h : w.cell? ⟨b, o, none⟩ = some v) {c d : Nat} (hc : b ≠ c) (hd : b ≠ d) {u0 u1 u2 u3 : Value} : ((((w.setCell ⟨c, 0, none⟩ u0).setCell ⟨c, 1, none⟩ u1).setCell ⟨c, 2, none⟩ u2).setCell ⟨d, 0, none⟩ u3).drew.cell? ⟨b, o, none⟩ = some v := drew0_ (cfar (cfar (cfar (cfar h hc _) hc _) hc _) hd _)
theorem cs5_ {w : World} {b o : Nat} {v : Value} (h : w.cell? ⟨b, o, none⟩ = some v) {c d e : Nat} (hc : b ≠ c) (hd : b ≠ d) (he : b ≠ e) {u0 u1 u2 u3 u4 : Value} : (((((w.setCell ⟨c, 0, none⟩ u0).setCell ⟨c, 1, none⟩ u1).setCell ⟨c, 2, none⟩ u2).setCell ⟨d, 0, none⟩ u3).setCell ⟨e, 0, none⟩ u4).drew.cell? ⟨b, o, none⟩ = some v := drew0_ (cfar (cfar (cfar (cfar (cfar h hc _) hc _) hc _) hd _) he _)
section
variable {P : Program} {ops : Array Oper} {Q : Exit → Act → List Frame → World → Prop} {i : Nat} {rest : List Nat} {o : Oper} {a : Act} {cs : List Frame} {w w' : World}
theorem sS_value {v : Value} (ho : ops[i]? = some o) (hg : o.guard = none) (hrun : (execOp a.eval o).run P w = .ok (.value v) w') (h : Aside0 (wpOpsS P ops Q rest (a.put o.dst v) cs w')) : Aside0 (wpOpsS P ops Q (i :: rest) a cs w) := ⟨wpOpsS_value ho hg hrun h.out⟩
theorem sS_skip (ho : ops[i]? = some o) (hg : o.guard = none) (hrun : (execOp a.eval o).run P w = .ok .skip w') (h : Aside0 (wpOpsS P ops Q rest (a.put o.dst undef) cs w')) : Aside0 (wpOpsS P ops Q (i :: rest) a cs w) := ⟨wpOpsS_skip ho hg hrun h.out⟩
theorem sS_recover {v : Value} {cs' : List Frame} (ho : ops[i]? = some o) (hg : o.guard = none) (hrun : (execOp a.eval o).run P w = .ok .recover w') (hr : recoverD cs = some (v, cs')) (h : Aside0 (wpOpsS P ops Q rest (a.put o.dst v) cs' w')) : Aside0 (wpOpsS P ops Q (i :: rest) a cs w) := ⟨wpOpsS_recover ho hg hrun hr h.out⟩
theorem sS_idle (ho : ops[i]? = some o) (hg : o.guard = none) (hrun : (execOp a.eval o).run P w = .ok .recover w') (hr : recoverD cs = none) (h : Aside0 (wpOpsS P ops Q rest (a.put o.dst .nilIface) cs w')) : Aside0 (wpOpsS P ops Q (i :: rest) a cs w) := ⟨wpOpsS_idle ho hg hrun hr h.out⟩
theorem sS_end (h : Q .normal a cs w) : Aside0 (wpOpsS P ops Q [] a cs w) := ⟨h⟩
end
set_option maxHeartbeats 8000000 in
set_option maxRecDepth 100000 in
theorem parse_catch_panicking (b2 b3 b4 : Nat) (x0 x1 y z : Int) (vl : Value) (er at_ : Int) (older : List PanicEntry) (w : World) (h2 : w.heap[b2]? = some (.cells #[.int .i64 x0, .int .i64 x1, vl] 27 (0, 0))) (h3 : w.heap[b3]? = some (.cells #[.int .i64 y] 28 (0, 0))) (h4 : w.heap[b4]? = some (.cells #[.int .i64 z] 3 (0, 0))) (n23 : b2 ≠ b3) (n24 : b2 ≠ b4) (n34 : b3 ≠ b4) :
  CallsD Try.prog 15 #[.pointer (some ⟨b2, 0, none⟩), .pointer (some ⟨b3, 0, none⟩), .pointer (some ⟨b4, 0, none⟩)] (.panicking ({ v := .iface 48 (.agg #[.int .i64 er, .int .i64 at_]), recovered := false } :: older)) w fun e u' w' =>
   e = .returned (.tuple #[]) ∧ u' = .panicking ({ v := .iface 48 (.agg #[.int .i64 er, .int .i64 at_]), recovered := true } :: older) ∧ w'.heap[b2]? = some (.cells #[.int .i64 0, .int .i64 0, .slice none 0 0] 27 (0, 0)) ∧ w'.heap[b3]? = some (.cells #[.int .i64 er] 28 (0, 0)) ∧ w'.heap[b4]? = some (.cells #[.int .i64 at_] 3 (0, 0)) ∧ ∀ B, B ≤ b2 → B ≤ b3 → B ≤ b4 → B ≤ w.heap.size → Below B w w' := by
 have c20 := (blk_cell h2 0).trans (show _ = some (.int .i64 x0 : Value) from rfl)
 have c21 := (blk_cell h2 1).trans (show _ = some (.int .i64 x1 : Value) from rfl)
 have c22 := (blk_cell h2 2).trans (show _ = some (vl : Value) from rfl)
 have c3 := (blk_cell h3 0).trans (show _ = some (.int .i64 y : Value) from rfl)
 have c4 := (blk_cell h4 0).trans (show _ = some (.int .i64 z : Value) from rfl)
 have f2 := fun j => blk_frozen h2 j
 have f3 := blk_frozen h3 0
 have f4 := blk_frozen h4 0
 have l2 := blk_lt h2
 have l3 := blk_lt h3
 have l4 := blk_lt h4
 have hu48 := Try.underlying48
 have hu27 := Try.underlying27
 have H2 := am h2
 have H3 := am h3
 have H4 := am h4
 clear h2 h3 h4
 refine callsD_of_wpS Try.func15 rfl fun c₀ cs hu => ?_
 simp only [Try.ntmps15, List.size_toArray, List.length_cons, List.length_nil, Nat.reduceAdd, Nat.reduceSub, Array.replicate_succ, Array.replicate_zero, List.push_toArray, List.append_toArray, List.nil_append, List.cons_append]
 have hz : ∀ w : World, (zeroValue 48).run Try.prog w = .ok (.agg #[.int .i64 0, .int .i64 0]) w := (fun w => by kernel_rfl)
 have hr0 : recoverD (c₀ :: cs) = some (.iface 48 (.agg #[.int .i64 er, .int .i64 at_]), { c₀ with mode := .panicking ({ v := .iface 48 (.agg #[.int .i64 er, .int .i64 at_]), recovered := true } :: older) } :: cs) := by
  show (match c₀.mode with | .panicking ({ v := v, recovered := false, goexit := false } :: older) => some (v, { c₀ with mode := .panicking ({ v := v, recovered := true } :: older) } :: cs) | _ => none) = _
  rw [hu]
 generalize hcs : ({ c₀ with mode := .panicking ({ v := .iface 48 (.agg #[.int .i64 er, .int .i64 at_]), recovered := true } :: older) } :: cs) = cs' at hr0
 have HCS := am hcs
 clear hcs
 refine wpS_seq (wpS_region ?_)
 refine Aside0.out (p := _) ?_
 change Aside0 (wpOpsS _ _ _ [0, 1, 2, 3, 4, 5, 6, 7] _ _ _)
 apply sS_recover (hr := hr0) (w' := w)
 case ho => (simp only [List.getElem?_toArray, List.getElem?_cons_zero, List.getElem?_cons_succ]; exact rfl)
 case hg => rfl
 case hrun => rfl
 simp only [Act.put, List.setIfInBounds_toArray, List.set_cons_zero, List.set_cons_succ]
 apply sS_value (w' := w) (v := .tuple #[(.agg #[.int .i64 er, .int .i64 at_]), .bool true])
 case ho => (simp only [List.getElem?_toArray, List.getElem?_cons_zero, List.getElem?_cons_succ]; exact rfl)
 case hg => rfl
 case hrun => (have h_ := run_assert (.agg #[.int .i64 er, .int .i64 at_]) w; unfold execOp; simp [Act.eval, h_, go_sem])
 simp only [Act.put, List.setIfInBounds_toArray, List.set_cons_zero, List.set_cons_succ]
 apply sS_value (w' := w) (v := .tuple #[(.agg #[.int .i64 er, .int .i64 at_]), .bool true])
 case ho => (simp only [List.getElem?_toArray, List.getElem?_cons_zero, List.getElem?_cons_succ]; exact rfl)
 case hg => rfl
 case hrun => (unfold execOp; simp [Act.eval, go_sem])
 simp only [Act.put, List.setIfInBounds_toArray, List.set_cons_zero, List.set_cons_succ]
 apply sS_value (w' := w) (v := (.agg #[.int .i64 er, .int .i64 at_]))
 case ho => (simp only [List.getElem?_toArray, List.getElem?_cons_zero, List.getElem?_cons_succ]; exact rfl)
 case hg => rfl
 case hrun => (unfold execOp; simp [Act.eval, go_sem, Instr.extract])
 simp only [Act.put, List.setIfInBounds_toArray, List.set_cons_zero, List.set_cons_succ]
 apply sS_value (w' := w) (v := .bool true)
 case ho => (simp only [List.getElem?_toArray, List.getElem?_cons_zero, List.getElem?_cons_succ]; exact rfl)
 case hg => rfl
 case hrun => (unfold execOp; simp [Act.eval, go_sem, Instr.extract])
 simp only [Act.put, List.setIfInBounds_toArray, List.set_cons_zero, List.set_cons_succ]
 apply sS_value (w' := (w.alloc (.cells #[.int .i64 0, .int .i64 0] 48 (0, 0)))) (v := .pointer (some ⟨w.heap.size, 0, none⟩))
 case ho => (simp only [List.getElem?_toArray, List.getElem?_cons_zero, List.getElem?_cons_succ]; exact rfl)
 case hg => rfl
 case hrun => (unfold execOp; simp [Act.eval, go_sem, Instr.alloc, hz])
 simp only [Act.put, List.setIfInBounds_toArray, List.set_cons_zero, List.set_cons_succ]
 obtain ⟨W1, hW1⟩ : ∃ W1, W1 = (w.alloc (.cells #[.int .i64 0, .int .i64 0] 48 (0, 0))) := ⟨_, rfl⟩
 obtain ⟨gr, hgr⟩ : ∃ gr, gr = w.heap.size := ⟨_, rfl⟩
 rw [← hW1, ← hgr]
 have hbx : W1.heap[gr]? = some (.cells #[.int .i64 0, .int .i64 0] 48 (0, 0)) := by rw [hW1, hgr]; exact blk_new _ _
 have hbl : Below w.heap.size w W1 := by rw [hW1]; exact below_alloc (Below.refl _ _) _
 have s0 := (blk_cell hbx 0).trans (show _ = some (.int .i64 0 : Value) from rfl)
 have s1 := (blk_cell hbx 1).trans (show _ = some (.int .i64 0 : Value) from rfl)
 have sf0 := blk_frozen hbx 0
 have sf1 := blk_frozen hbx 1
 have HBX := am hbx
 have HBL := am hbl
 have HGR := am hgr
 clear hbx hbl hW1 hgr
 apply sS_skip (w' := (W1.setCell ⟨gr, 0, none⟩ (.int .i64 er)).setCell ⟨gr, 1, none⟩ (.int .i64 at_))
 case ho => (simp only [List.getElem?_toArray, List.getElem?_cons_zero, List.getElem?_cons_succ]; exact rfl)
 case hg => rfl
 case hrun => (unfold execOp; simp only [Act.eval]; go_simp)
 simp only [Act.put, List.setIfInBounds_toArray, List.set_cons_zero, List.set_cons_succ]
 apply sS_value (v := .bool true)
 case ho => (simp only [List.getElem?_toArray, List.getElem?_cons_zero, List.getElem?_cons_succ]; exact rfl)
 case hg => rfl
 case hrun => (unfold execOp; simp [Act.eval, go_sem]; rfl)
 simp only [Act.put, List.setIfInBounds_toArray, List.set_cons_zero, List.set_cons_succ]
 refine sS_end ?_
 simp only [Exit.thenS]
 refine wpS_of_wp ?_
 have NE2 := am (show gr ≠ b2 from by have := HGR.out; omega)
 have NE3 := am (show gr ≠ b3 from by have := HGR.out; omega)
 have NE4 := am (show gr ≠ b4 from by have := HGR.out; omega)
 obtain ⟨W2, hW2⟩ : ∃ W2, W2 = (W1.setCell ⟨gr, 0, none⟩ (.int .i64 er)).setCell ⟨gr, 1, none⟩ (.int .i64 at_) := ⟨_, rfl⟩
 rw [← hW2]
 have B2 := am (show W2.heap[b2]? = some (.cells #[.int .i64 x0, .int .i64 x1, vl] 27 (0, 0)) from by rw [hW2]; exact blk_far (blk_far (blk_below H2.out HBL.out) (Ne.symm NE2.out) _) (Ne.symm NE2.out) _)
 have B3 := am (show W2.heap[b3]? = some (.cells #[.int .i64 y] 28 (0, 0)) from by rw [hW2]; exact blk_far (blk_far (blk_below H3.out HBL.out) (Ne.symm NE3.out) _) (Ne.symm NE3.out) _)
 have B4 := am (show W2.heap[b4]? = some (.cells #[.int .i64 z] 3 (0, 0)) from by rw [hW2]; exact blk_far (blk_far (blk_below H4.out HBL.out) (Ne.symm NE4.out) _) (Ne.symm NE4.out) _)
 have BG := am (show W2.heap[gr]? = some (.cells #[.int .i64 er, .int .i64 at_] 48 (0, 0)) from by rw [hW2]; exact blk_put (blk_put HBX.out 0 _ rfl) 1 _ rfl)
 have BL := am (show Below w.heap.size w W2 from by rw [hW2]; exact below_set (below_set HBL.out (by rw [HGR.out]; exact Nat.le_refl _)) (by rw [HGR.out]; exact Nat.le_refl _))
 clear HBX HBL H2 H3 H4 hW2 s0 s1 sf0 sf1 c20 c21 c22 c3 c4 f2 f3 f4 hz hr0 hu48
 have HU := am hu
 clear hu
 have d20 := (blk_cell B2.out 0).trans (show _ = some (.int .i64 x0 : Value) from rfl)
 have d21 := (blk_cell B2.out 1).trans (show _ = some (.int .i64 x1 : Value) from rfl)
 have d22 := (blk_cell B2.out 2).trans (show _ = some (vl : Value) from rfl)
 have d3 := (blk_cell B3.out 0).trans (show _ = some (.int .i64 y : Value) from rfl)
 have d4 := (blk_cell B4.out 0).trans (show _ = some (.int .i64 z : Value) from rfl)
 have g0 := (blk_cell BG.out 0).trans (show _ = some (.int .i64 er : Value) from rfl)
 have g1 := (blk_cell BG.out 1).trans (show _ = some (.int .i64 at_ : Value) from rfl)
 have f2 := fun j => blk_frozen B2.out j
 have f3 := fun j => blk_frozen B3.out j
 have f4 := fun j => blk_frozen B4.out j
 have e2 := NE2.out
 have e3 := NE3.out
 have e4 := NE4.out
 have e2' := Ne.symm NE2.out
 have e3' := Ne.symm NE3.out
 have e4' := Ne.symm NE4.out
 have n32 := Ne.symm n23
 have n42 := Ne.symm n24
 have n43 := Ne.symm n34
 have hu48 := Try.underlying48
 go_wp2
 refine wp_region_noPanic ?_
 go_region_held3 (fun w' => w'.cell? ⟨gr, 0, none⟩ = some (.int .i64 er) ∧ w'.cell? ⟨gr, 1, none⟩ = some (.int .i64 at_)) (first | with_reducible exact ⟨drew0_ g0, drew0_ g1⟩ | with_reducible exact ⟨cs3_ g0 e2, cs3_ g1 e2⟩ | with_reducible exact ⟨cs4_ g0 e2 e3, cs4_ g1 e2 e3⟩ | with_reducible exact ⟨cs5_ g0 e2 e3 e4, cs5_ g1 e2 e3 e4⟩) (fail)
 refine NoPanic.normal ?_
 show bodyPostS _ _ _ _ _ Exit.normal _ _ _
 have C2 := blk_drew (blk_far (blk_far (blk_put (blk_put (blk_put B2.out 0 (.int .i64 0) rfl) 1 (.int .i64 0) rfl) 2 (.slice none 0 0) rfl) (p := ⟨b3, 0, none⟩) n23 (.int .i64 er)) (p := ⟨b4, 0, none⟩) n24 (.int .i64 at_))
 have C3 := blk_drew (blk_far (blk_put (blk_far (blk_far (blk_far B3.out (p := ⟨b2, 0, none⟩) n32 (.int .i64 0)) (p := ⟨b2, 1, none⟩) n32 (.int .i64 0)) (p := ⟨b2, 2, none⟩) n32 (.slice none 0 0)) 0 (.int .i64 er) rfl) (p := ⟨b4, 0, none⟩) n34 (.int .i64 at_))
 have C4 := blk_drew (blk_put (blk_far (blk_far (blk_far (blk_far B4.out (p := ⟨b2, 0, none⟩) n42 (.int .i64 0)) (p := ⟨b2, 1, none⟩) n42 (.int .i64 0)) (p := ⟨b2, 2, none⟩) n42 (.slice none 0 0)) (p := ⟨b3, 0, none⟩) n43 (.int .i64 er)) 0 (.int .i64 at_) rfl)
 refine ⟨rfl, _, HCS.out.symm, .tuple #[], results_none rfl _ _ _, rfl, rfl, C2, C3, C4, fun B q2 q3 q4 qw => ?_⟩
 exact below_drew1 ((((((BL.out.mono (show B ≤ w.heap.size from by have := HGR.out; omega)).setCell (p := ⟨b2, 0, none⟩) q2 _).setCell (p := ⟨b2, 1, none⟩) q2 _).setCell (p := ⟨b2, 2, none⟩) q2 _).setCell (p := ⟨b3, 0, none⟩) q3 _).setCell (p := ⟨b4, 0, none⟩) q4 _)
set_option maxHeartbeats 8000000 in
set_option maxRecDepth 100000 in
theorem parse_catch_idle (b2 b3 b4 : Nat) (w : World) :
  CallsD Try.prog 15 #[.pointer (some ⟨b2, 0, none⟩), .pointer (some ⟨b3, 0, none⟩), .pointer (some ⟨b4, 0, none⟩)] .returning w fun e u' w' =>
   e = .returned (.tuple #[]) ∧ u' = .returning ∧ Below w.heap.size w w' := by
 have hu48 := Try.underlying48
 have hz : ∀ w : World, (zeroValue 48).run Try.prog w = .ok (.agg #[.int .i64 0, .int .i64 0]) w := (fun w => by kernel_rfl)
 refine callsD_of_wpS Try.func15 rfl fun c₀ cs hu => ?_
 simp only [Try.ntmps15, List.size_toArray, List.length_cons, List.length_nil, Nat.reduceAdd, Nat.reduceSub, Array.replicate_succ, Array.replicate_zero, List.push_toArray, List.append_toArray, List.nil_append, List.cons_append]
 have hr0 : recoverD (c₀ :: cs) = none := by
  show (match c₀.mode with | .panicking ({ v := v, recovered := false, goexit := false } :: older) => some (v, { c₀ with mode := .panicking ({ v := v, recovered := true } :: older) } :: cs) | _ => none) = _
  rw [hu]
 have HCS : Aside0 ({ c₀ with mode := .returning } :: cs = c₀ :: cs) := ⟨by rw [← hu]⟩
 clear hu
 refine wpS_seq (wpS_region ?_)
 refine Aside0.out (p := _) ?_
 change Aside0 (wpOpsS _ _ _ [0, 1, 2, 3, 4, 5, 6, 7] _ _ _)
 apply sS_idle (hr := hr0) (w' := w)
 case ho => (simp only [List.getElem?_toArray, List.getElem?_cons_zero, List.getElem?_cons_succ]; exact rfl)
 case hg => rfl
 case hrun => rfl
 simp only [Act.put, List.setIfInBounds_toArray, List.set_cons_zero, List.set_cons_succ]
 apply sS_value (w' := w) (v := .tuple #[(.agg #[.int .i64 0, .int .i64 0]), .bool false])
 case ho => (simp only [List.getElem?_toArray, List.getElem?_cons_zero, List.getElem?_cons_succ]; exact rfl)
 case hg => rfl
 case hrun => (have h_ := run_assert_nil w; unfold execOp; simp [Act.eval, h_, go_sem])
 simp only [Act.put, List.setIfInBounds_toArray, List.set_cons_zero, List.set_cons_succ]
 apply sS_value (w' := w) (v := .tuple #[(.agg #[.int .i64 0, .int .i64 0]), .bool false])
 case ho => (simp only [List.getElem?_toArray, List.getElem?_cons_zero, List.getElem?_cons_succ]; exact rfl)
 case hg => rfl
 case hrun => (unfold execOp; simp [Act.eval, go_sem])
 simp only [Act.put, List.setIfInBounds_toArray, List.set_cons_zero, List.set_cons_succ]
 apply sS_value (w' := w) (v := (.agg #[.int .i64 0, .int .i64 0]))
 case ho => (simp only [List.getElem?_toArray, List.getElem?_cons_zero, List.getElem?_cons_succ]; exact rfl)
 case hg => rfl
 case hrun => (unfold execOp; simp [Act.eval, go_sem, Instr.extract])
 simp only [Act.put, List.setIfInBounds_toArray, List.set_cons_zero, List.set_cons_succ]
 apply sS_value (w' := w) (v := .bool false)
 case ho => (simp only [List.getElem?_toArray, List.getElem?_cons_zero, List.getElem?_cons_succ]; exact rfl)
 case hg => rfl
 case hrun => (unfold execOp; simp [Act.eval, go_sem, Instr.extract])
 simp only [Act.put, List.setIfInBounds_toArray, List.set_cons_zero, List.set_cons_succ]
 apply sS_value (w' := (w.alloc (.cells #[.int .i64 0, .int .i64 0] 48 (0, 0)))) (v := .pointer (some ⟨w.heap.size, 0, none⟩))
 case ho => (simp only [List.getElem?_toArray, List.getElem?_cons_zero, List.getElem?_cons_succ]; exact rfl)
 case hg => rfl
 case hrun => (unfold execOp; simp [Act.eval, go_sem, Instr.alloc, hz])
 simp only [Act.put, List.setIfInBounds_toArray, List.set_cons_zero, List.set_cons_succ]
 obtain ⟨W1, hW1⟩ : ∃ W1, W1 = (w.alloc (.cells #[.int .i64 0, .int .i64 0] 48 (0, 0))) := ⟨_, rfl⟩
 obtain ⟨gr, hgr⟩ : ∃ gr, gr = w.heap.size := ⟨_, rfl⟩
 have hbl : Below w.heap.size w W1 := by rw [hW1]; exact below_alloc (Below.refl _ _) _
 rw [← hW1, ← hgr]
 have hbx : W1.heap[gr]? = some (.cells #[.int .i64 0, .int .i64 0] 48 (0, 0)) := by rw [hW1, hgr]; exact blk_new _ _
 have s0 := (blk_cell hbx 0).trans (show _ = some (.int .i64 0 : Value) from rfl)
 have s1 := (blk_cell hbx 1).trans (show _ = some (.int .i64 0 : Value) from rfl)
 have sf0 := blk_frozen hbx 0
 have sf1 := blk_frozen hbx 1
 have HBL := am hbl
 have HGR := am hgr
 clear hbx hbl hW1 hgr
 apply sS_skip (w' := (W1.setCell ⟨gr, 0, none⟩ (.int .i64 0)).setCell ⟨gr, 1, none⟩ (.int .i64 0))
 case ho => (simp only [List.getElem?_toArray, List.getElem?_cons_zero, List.getElem?_cons_succ]; exact rfl)
 case hg => rfl
 case hrun => (unfold execOp; simp only [Act.eval]; go_simp)
 simp only [Act.put, List.setIfInBounds_toArray, List.set_cons_zero, List.set_cons_succ]
 apply sS_value (v := .bool false)
 case ho => (simp only [List.getElem?_toArray, List.getElem?_cons_zero, List.getElem?_cons_succ]; exact rfl)
 case hg => rfl
 case hrun => (unfold execOp; simp [Act.eval, go_sem]; rfl)
 simp only [Act.put, List.setIfInBounds_toArray, List.set_cons_zero, List.set_cons_succ]
 refine sS_end ?_
 simp only [Exit.thenS]
 refine wpS_of_wp ?_
 clear hr0 s0 s1 sf0 sf1
 go_wp2
 show bodyPostS _ _ _ _ _ Exit.normal _ _ _
 refine ⟨rfl, _, HCS.out.symm, .tuple #[], results_none rfl _ _ _, rfl, rfl, ?_⟩
 rw [HGR.out]
 exact below_set (below_set HBL.out (Nat.le_refl _)) (Nat.le_refl _)
/-- The tmps hold the three named results' variables. -/
structure PTmps (b2 b3 b4 : Nat) (T : Array Value) : Prop where
 t2 : T[2]? = some (.pointer (some ⟨b2, 0, none⟩))
 t3 : T[3]? = some (.pointer (some ⟨b3, 0, none⟩))
 t4 : T[4]? = some (.pointer (some ⟨b4, 0, none⟩))
theorem PTmps.put {b2 b3 b4 : Nat} {a : Act} {j : Nat} {v : Value} (h : PTmps b2 b3 b4 (a.put (some j) v).tmps) (h2 : j ≠ 2 ∧ j ≠ 3 ∧ j ≠ 4) : PTmps b2 b3 b4 a.tmps := by
 obtain ⟨t2, t3, t4⟩ := h
 simp only [Act.put, Array.getElem?_setIfInBounds, h2.1, h2.2.1, h2.2.2, if_false] at t2 t3 t4
 exact ⟨t2, t3, t4⟩
/-- The three variables' blocks. -/
structure PBlks (b2 b3 b4 : Nat) (kd ar : Int) (v : Value) (e p : Int) (w : World) : Prop where
 c2 : w.heap[b2]? = some (.cells #[.int .i64 kd, .int .i64 ar, v] 27 (0, 0))
 c3 : w.heap[b3]? = some (.cells #[.int .i64 e] 28 (0, 0))
 c4 : w.heap[b4]? = some (.cells #[.int .i64 p] 3 (0, 0))
theorem parse_results {b2 b3 b4 : Nat} {kd ar : Int} {v : Value} {e p : Int} {T : Array Value} {w : World} (ht : PTmps b2 b3 b4 T) (h : PBlks b2 b3 b4 kd ar v e p w) :
  (results Try.f10 T).run Try.prog w = .ok (.tuple #[.agg #[.int .i64 kd, .int .i64 ar, v], .int .i64 e, .int .i64 p]) w := by
 have hp2 : T[2]?.getD undef = .pointer (some ⟨b2, 0, none⟩) := by rw [ht.t2]; rfl
 have hp3 : T[3]?.getD undef = .pointer (some ⟨b3, 0, none⟩) := by rw [ht.t3]; rfl
 have hp4 : T[4]?.getD undef = .pointer (some ⟨b4, 0, none⟩) := by rw [ht.t4]; rfl
 have d20 := (blk_cell h.c2 0).trans (show _ = some (.int .i64 kd : Value) from rfl)
 have d21 := (blk_cell h.c2 1).trans (show _ = some (.int .i64 ar : Value) from rfl)
 have d22 := (blk_cell h.c2 2).trans (show _ = some (v : Value) from rfl)
 have d3 := (blk_cell h.c3 0).trans (show _ = some (.int .i64 e : Value) from rfl)
 have d4 := (blk_cell h.c4 0).trans (show _ = some (.int .i64 p : Value) from rfl)
 simp [results, Try.results10, hp2, hp3, hp4, asAddr, d20, d21, d22, d3, d4, go_sem]
/-- What Parse's call comes to. -/
def prEnd (w : World) (kd ar : Int) (rs : List S44) (er p : Int) (e : Ending) (w' : World) : Prop := ∃ v0_ : Value, e = .returned (.tuple #[.agg #[.int .i64 kd, .int .i64 ar, v0_], .int .i64 er, .int .i64 p]) ∧ Kd.S k44 44 w' w.heap.size (fun _ => True) v0_ rs ∧ Below w.heap.size w w'
/-- The door of a way that made no deferred call. -/
theorem parse_door_early {b2 b3 b4 : Nat} {T : Array Value} {w w' : World} {kd ar e p : Int} {v : Value} {rs : List S44} (ht : PTmps b2 b3 b4 T) (h : PBlks b2 b3 b4 kd ar v e p w') (hv : Kd.S k44 44 w' w.heap.size (fun _ => True) v rs) (hb : Below w.heap.size w w') :
  Leaves Try.prog Try.f10 T (prEnd w kd ar rs e p) [] .returning w' := ⟨_, parse_results ht h, v, rfl, hv, hb⟩
theorem PBlks.below {b2 b3 b4 : Nat} {kd ar e p : Int} {v : Value} {w w' : World} (h : PBlks b2 b3 b4 kd ar v e p w) (hb : Below w.heap.size w w') : PBlks b2 b3 b4 kd ar v e p w' := ⟨blk_below h.c2 hb, blk_below h.c3 hb, blk_below h.c4 hb⟩
theorem PBlks.one {b2 b3 b4 g : Nat} {kd ar e p : Int} {v : Value} {w w' : World} (h : PBlks b2 b3 b4 kd ar v e p w) (ho : One g w w') (n2 : b2 ≠ g) (n3 : b3 ≠ g) (n4 : b4 ≠ g) : PBlks b2 b3 b4 kd ar v e p w' := ⟨ho.blk h.c2 n2, ho.blk h.c3 n3, ho.blk h.c4 n4⟩
theorem PBlks.ne {b2 b3 b4 : Nat} {kd ar e p : Int} {v : Value} {w : World} (h : PBlks b2 b3 b4 kd ar v e p w) : b2 ≠ b3 ∧ b2 ≠ b4 ∧ b3 ≠ b4 := ⟨blk_ne h.c2 h.c3 (by decide), blk_ne h.c2 h.c4 (by decide), blk_ne h.c3 h.c4 (by decide)⟩
/-- The call that Parse has deferred. -/
def pDefer (b2 b3 b4 : Nat) : Deferred := { target := .fn (.func 15) #[.pointer (some ⟨b2, 0, none⟩), .pointer (some ⟨b3, 0, none⟩), .pointer (some ⟨b4, 0, none⟩)], args := #[] }
/-- The door of a way that returns. -/
theorem parse_door_ok {b2 b3 b4 : Nat} {T : Array Value} {w w' : World} {kd ar e p : Int} {v : Value} {rs : List S44} (ht : PTmps b2 b3 b4 T) (h : PBlks b2 b3 b4 kd ar v e p w') (hv : Kd.S k44 44 w' w.heap.size (fun _ => True) v rs) (hb : Below w.heap.size w w') :
  Leaves Try.prog Try.f10 T (prEnd w kd ar rs e p) [pDefer b2 b3 b4] .returning w' := by
 refine leaves_cons (f := 15) (args := #[.pointer (some ⟨b2, 0, none⟩), .pointer (some ⟨b3, 0, none⟩), .pointer (some ⟨b4, 0, none⟩)]) (by simp) (by simp [go_sem]) ?_
 refine (parse_catch_idle b2 b3 b4 w').mono ?_
 rintro e u' w'' ⟨rfl, rfl, hb2⟩
 exact parse_door_early ht (h.below hb2) (Kd.S_below hv hb2) (hb.trans (hb2.mono hb.size))
/-- The door of a way that panics. -/
theorem parse_door_bad {b2 b3 b4 : Nat} {T : Array Value} {w w' : World} {kd ar e p er at_ : Int} {v : Value} (ht : PTmps b2 b3 b4 T) (h : PBlks b2 b3 b4 kd ar v e p w') (hb : Below w.heap.size w w') (l2 : w.heap.size ≤ b2) (l3 : w.heap.size ≤ b3) (l4 : w.heap.size ≤ b4) :
  Leaves Try.prog Try.f10 T (prEnd w 0 0 [] er at_) [pDefer b2 b3 b4] (.panicking [{ v := .iface 48 (.agg #[.int .i64 er, .int .i64 at_]), recovered := false }]) w' := by
 obtain ⟨n23, n24, n34⟩ := h.ne
 refine leaves_cons (f := 15) (args := #[.pointer (some ⟨b2, 0, none⟩), .pointer (some ⟨b3, 0, none⟩), .pointer (some ⟨b4, 0, none⟩)]) (by simp) (by simp [go_sem]) ?_
 refine (parse_catch_panicking b2 b3 b4 kd ar e p v er at_ [] w' h.c2 h.c3 h.c4 n23 n24 n34).mono ?_
 rintro e u' w'' ⟨rfl, rfl, d2, d3, d4, hb2⟩
 exact parse_door_early ht ⟨d2, d3, d4⟩ (Kd.S_nil _ _ _ _ _) (hb.trans (hb2 _ l2 l3 l4 hb.size))
/-- A reader, and what it stands upon, when another block, which holds no text, is written. -/
theorem IsRd.both {W w : World} {g : Nat} {L : List S39} {n : Int} (h : IsRd W w g L n) (hL : 0 < L.length) {b t m c : Nat} {x y : Int} {A : Option Addr} (hb : W.heap[b]? = some (.cells #[.int .i64 x, .int .i64 y, .slice A m c] t (0, 0))) (j : Nat) (v : Value) : IsRd (W.setCell ⟨b, j, none⟩ v) (w.setCell ⟨b, j, none⟩ v) g L n := by
 obtain ⟨A0, c0, h1, h2, h3, h4⟩ := h
 have hbW := blk_lt hb
 obtain ⟨ad, rfl, x0, x1, x2, x3⟩ := at_T39 h3 0 (by omega) (by omega)
 have hne : ad.block ≠ b := by
  intro e
  have e2 : (⟨(ad.add ((0 : Int).toNat * 4)).block, (ad.add ((0 : Int).toNat * 4)).off + 2, none⟩ : Addr) = ⟨b, ad.off + 2, none⟩ := by rw [add_block, e]; rfl
  rw [e2, blk_cell hb] at x2
  generalize ad.off = q at x2
  match q, x2 with
  | 0, x2 => cases x2
  | q + 1, x2 => simp at x2
 refine ⟨some ad, c0, blk_far h1 (Ne.symm (by show b ≠ g; omega)) v, by simpa [World.setCell] using h2, ?_, ?_⟩
 ·refine ⟨h3.1, h3.2.1, fun hn => ?_⟩
  obtain ⟨ad', e, hc⟩ := h3.2.2 hn
  cases e
  refine ⟨ad, rfl, fun j' p hj => ?_⟩
  obtain ⟨cs, hs, hr, hcell⟩ := hc j' p hj
  refine ⟨cs, hs, ?_, fun i u hu => ?_⟩
  ·exact hr
  ·exact cfar (hcell i u hu) (by simpa [add_block] using hne) _
 ·refine ⟨h4.os, h4.tape, h4.output, by simpa [World.setCell] using h4.size, fun k hk => ?_⟩
  have hk' : k < W.heap.size := by simpa [World.setCell] using hk
  by_cases e : k = b
  ·subst e
   have hb' : w.heap[k]? = some (.cells #[.int .i64 x, .int .i64 y, .slice A m c] t (0, 0)) := (h4.block k hk').trans hb
   rw [blk_set hb j v, blk_set hb' j v]
  ·rw [Below.heap_setCell _ _ _ _ e, Below.heap_setCell _ _ _ _ e]
   exact h4.block k hk'
section
variable {b2 b3 b4 : Nat} {kd ar e p kd' ar' e' p' : Int} {v v' : Value} {w : World}
theorem PBlks.drew (h : PBlks b2 b3 b4 kd ar v e p w) : PBlks b2 b3 b4 kd ar v e p w.drew := ⟨blk_drew h.c2, blk_drew h.c3, blk_drew h.c4⟩
theorem PBlks.set2 (h : PBlks b2 b3 b4 kd ar v e p w) (kd' ar' : Int) : PBlks b2 b3 b4 kd' ar' v e p ((w.setCell ⟨b2, 0, none⟩ (.int .i64 kd')).setCell ⟨b2, 1, none⟩ (.int .i64 ar')) := by
 obtain ⟨n23, n24, n34⟩ := h.ne
 exact ⟨blk_put (blk_put h.c2 0 _ rfl) 1 _ rfl, blk_far (blk_far h.c3 (p := ⟨b2, 0, none⟩) (Ne.symm n23) _) (p := ⟨b2, 1, none⟩) (Ne.symm n23) _, blk_far (blk_far h.c4 (p := ⟨b2, 0, none⟩) (Ne.symm n24) _) (p := ⟨b2, 1, none⟩) (Ne.symm n24) _⟩
theorem PBlks.set1 (h : PBlks b2 b3 b4 kd ar v e p w) (v' : Value) : PBlks b2 b3 b4 kd ar v' e p (w.setCell ⟨b2, 2, none⟩ v') := by
 obtain ⟨n23, n24, n34⟩ := h.ne
 exact ⟨blk_put h.c2 2 _ rfl, blk_far h.c3 (p := ⟨b2, 2, none⟩) (Ne.symm n23) _, blk_far h.c4 (p := ⟨b2, 2, none⟩) (Ne.symm n24) _⟩
theorem PBlks.set3 (h : PBlks b2 b3 b4 kd ar v e p w) (kd' ar' : Int) (v' : Value) : PBlks b2 b3 b4 kd' ar' v' e p (((w.setCell ⟨b2, 0, none⟩ (.int .i64 kd')).setCell ⟨b2, 1, none⟩ (.int .i64 ar')).setCell ⟨b2, 2, none⟩ v') := (h.set2 kd' ar').set1 v'
theorem PBlks.setE (h : PBlks b2 b3 b4 kd ar v e p w) (e' : Int) : PBlks b2 b3 b4 kd ar v e' p (w.setCell ⟨b3, 0, none⟩ (.int .i64 e')) := by
 obtain ⟨n23, n24, n34⟩ := h.ne
 exact ⟨blk_far h.c2 (p := ⟨b3, 0, none⟩) n23 _, blk_put h.c3 0 _ rfl, blk_far h.c4 (p := ⟨b3, 0, none⟩) (Ne.symm n34) _⟩
theorem PBlks.setP (h : PBlks b2 b3 b4 kd ar v e p w) (p' : Int) : PBlks b2 b3 b4 kd ar v e p' (w.setCell ⟨b4, 0, none⟩ (.int .i64 p')) := by
 obtain ⟨n23, n24, n34⟩ := h.ne
 exact ⟨blk_far h.c2 (p := ⟨b4, 0, none⟩) n24 _, blk_far h.c3 (p := ⟨b4, 0, none⟩) n34 _, blk_put h.c4 0 _ rfl⟩
theorem PBlks.ep (h : PBlks b2 b3 b4 kd ar v e p w) : w.cell? ⟨b3, 0, none⟩ = some (.int .i64 e) ∧ w.cell? ⟨b4, 0, none⟩ = some (.int .i64 p) := ⟨(blk_cell h.c3 0).trans rfl, (blk_cell h.c4 0).trans rfl⟩
theorem PBlks.ep0 (h : PBlks b2 b3 b4 kd ar v e p w) : w.drew.cell? ⟨b3, 0, none⟩ = some (.int .i64 e) ∧ w.drew.cell? ⟨b4, 0, none⟩ = some (.int .i64 p) := h.drew.ep
theorem PBlks.ep3 (h : PBlks b2 b3 b4 kd ar v e p w) : (((w.setCell ⟨b2, 0, none⟩ (.int .i64 kd')).setCell ⟨b2, 1, none⟩ (.int .i64 ar')).setCell ⟨b2, 2, none⟩ v').drew.cell? ⟨b3, 0, none⟩ = some (.int .i64 e) ∧ (((w.setCell ⟨b2, 0, none⟩ (.int .i64 kd')).setCell ⟨b2, 1, none⟩ (.int .i64 ar')).setCell ⟨b2, 2, none⟩ v').drew.cell? ⟨b4, 0, none⟩ = some (.int .i64 p) := (h.set3 kd' ar' v').drew.ep
theorem PBlks.ep4 (h : PBlks b2 b3 b4 kd ar v e p w) : ((((w.setCell ⟨b2, 0, none⟩ (.int .i64 kd')).setCell ⟨b2, 1, none⟩ (.int .i64 ar')).setCell ⟨b2, 2, none⟩ v').setCell ⟨b3, 0, none⟩ (.int .i64 e)).drew.cell? ⟨b3, 0, none⟩ = some (.int .i64 e) ∧ ((((w.setCell ⟨b2, 0, none⟩ (.int .i64 kd')).setCell ⟨b2, 1, none⟩ (.int .i64 ar')).setCell ⟨b2, 2, none⟩ v').setCell ⟨b3, 0, none⟩ (.int .i64 e)).drew.cell? ⟨b4, 0, none⟩ = some (.int .i64 p) := ((h.set3 kd' ar' v').setE e).drew.ep
theorem PBlks.ep5 (h : PBlks b2 b3 b4 kd ar v e p w) : (((((w.setCell ⟨b2, 0, none⟩ (.int .i64 kd')).setCell ⟨b2, 1, none⟩ (.int .i64 ar')).setCell ⟨b2, 2, none⟩ v').setCell ⟨b3, 0, none⟩ (.int .i64 e)).setCell ⟨b4, 0, none⟩ (.int .i64 p)).drew.cell? ⟨b3, 0, none⟩ = some (.int .i64 e) ∧ (((((w.setCell ⟨b2, 0, none⟩ (.int .i64 kd')).setCell ⟨b2, 1, none⟩ (.int .i64 ar')).setCell ⟨b2, 2, none⟩ v').setCell ⟨b3, 0, none⟩ (.int .i64 e)).setCell ⟨b4, 0, none⟩ (.int .i64 p)).drew.cell? ⟨b4, 0, none⟩ = some (.int .i64 p) := (((h.set3 kd' ar' v').setE e).setP p).drew.ep
/-- Stores into the three variables alone. -/
theorem below_set5 {W : World} (h : Below W.heap.size W w) (m2 : W.heap.size ≤ b2) (m3 : W.heap.size ≤ b3) (m4 : W.heap.size ≤ b4) (u0 u1 u2 u3 u4 : Value) : Below W.heap.size W (((((w.setCell ⟨b2, 0, none⟩ u0).setCell ⟨b2, 1, none⟩ u1).setCell ⟨b2, 2, none⟩ u2).setCell ⟨b3, 0, none⟩ u3).setCell ⟨b4, 0, none⟩ u4) :=
 below_set (below_set (below_set (below_set (below_set h m2) m2) m2) m3) m4
end
/-- A post of which the ways that panic hang on the three variables and the deferred calls alone. -/
def PQ (b2 b3 b4 : Nat) (D : List Deferred) (BAD : List PanicEntry → World → Prop) (Q : Exit → Act → World → Prop) : Exit → Act → World → Prop
 | .panic ch, a, w => PTmps b2 b3 b4 a.tmps ∧ a.defers = D ∧ BAD ch w
 | e, a, w => Q e a w
theorem PQ.normal {b2 b3 b4 : Nat} {D : List Deferred} {BAD : List PanicEntry → World → Prop} {Q : Exit → Act → World → Prop} {a : Act} {w : World} (h : Q .normal a w) : PQ b2 b3 b4 D BAD Q .normal a w := h
theorem PQ.put {b2 b3 b4 : Nat} {D : List Deferred} {BAD : List PanicEntry → World → Prop} {Q : Exit → Act → World → Prop} {a : Act} {w : World} {ch : List PanicEntry} {j : Nat} {v : Value} (h : PQ b2 b3 b4 D BAD Q (.panic ch) (a.put (some j) v) w) (hj : j ≠ 2 ∧ j ≠ 3 ∧ j ≠ 4) : PQ b2 b3 b4 D BAD Q (.panic ch) a w := ⟨PTmps.put h.1 hj, h.2.1, h.2.2⟩
theorem PQ.use {P : Program} {c : Code} {b2 b3 b4 : Nat} {D : List Deferred} {BAD : List PanicEntry → World → Prop} {Q : Exit → Act → World → Prop} {a : Act} {w : World} (hbad : ∀ ch a w, PTmps b2 b3 b4 a.tmps → a.defers = D → BAD ch w → Q (.panic ch) a w) (h : c.wp P (PQ b2 b3 b4 D BAD Q) a w) : c.wp P Q a w :=
 Code.wp_mono (fun e a w hq => by
  cases e with
  | panic ch => exact hbad ch a w hq.1 hq.2.1 hq.2.2
  | _ => exact hq) h
/-- A row that a rule's reading has made, seen from the row of rules. -/
theorem prRow {α : Type} {d : Kd α} {e B B' g b2 b3 b4 : Nat} {wb w' : World} {v vs : Value} {xs : List α} (h : d.R e w' B (fun k => k ≠ g ∧ wb.heap.size ≤ k) v xs) (hB : B' ≤ B) (l2 : b2 < wb.heap.size) (l3 : b3 < wb.heap.size) (l4 : b4 < wb.heap.size) (ho : ∀ k, vs.ownBlock = some k → k < wb.heap.size) : d.R e w' B' (fun k => ((k ≠ g ∧ k ≠ b2 ∧ k ≠ b3 ∧ k ≠ b4) ∧ some k ≠ vs.ownBlock) ∧ wb.heap.size ≤ k) v xs :=
 Kd.R_mono (Kd.R_lower h hB) (fun k hk => ⟨⟨⟨hk.1, by have := hk.2; omega, by have := hk.2; omega, by have := hk.2; omega⟩, fun e => by have := ho k e.symm; have := hk.2; omega⟩, hk.2⟩)
/-- The rules, one by one, to the end. -/
def parse_Parse.l0 : Nat → List S39 → Int → List S44 → Option (PRes (List S44))
 | 0, _, _, _ => none
 | k + 1, L, n, rs => if 0 ≤ n ∧ n < (L.length : Int) then (if (rd_T39 L n).f0 = 4 then some (.ok rs) else if rs.length < 1000 then (parse_rule.f k L n (decide ((rs.length : Int) < 64))).bind fun r => match r with
   | .bad e p => some (.bad e p)
   | .ok (x, n1) => parse_Parse.l0 k L n1 (rs ++ [x]) else none) else none
/-- Behind the default act. -/
def parse_Parse.h (k : Nat) (L : List S39) (n : Int) : Option (PRes (List S44)) :=
 if 0 ≤ n ∧ n < (L.length : Int) then (if ((rd_T39 L n).f0 = 3 ∧ (rd_T39 L n).f2.toList = (⟨#[59]⟩ : ByteArray).toList) then parse_Parse.l0 k L (wrap64 (n + 1)) [] else some (.bad 7 (rd_T39 L n).f1)) else none
/-- The tokens' rules. -/
def parse_Parse.g (k : Nat) (L : List S39) : Option (PRes (Int × Int × List S44)) :=
 if 0 ≤ (0 : Int) ∧ (0 : Int) < (L.length : Int) then (if ((rd_T39 L 0).f0 = 1 ∧ (rd_T39 L 0).f2.toList = (⟨#[100, 101, 102, 97, 117, 108, 116]⟩ : ByteArray).toList) then (parse_act.f L (wrap64 (0 + 1)) true).bind fun r => match r with
   | .bad e p => some (.bad e p)
   | .ok (kd, ar, n1) => (parse_Parse.h k L n1).bind fun r => match r with
    | .bad e p => some (.bad e p)
    | .ok rs => some (.ok (kd, ar, rs))
  else some (.bad 7 (rd_T39 L 0).f1)) else none
def parse_Parse.f (k : Nat) (a0 : ByteArray) : Option (Int × Int × List S44 × Int × Int) := (lex_All.f k a0).bind fun (l, e, p) => if e = 0 then (parse_Parse.g k l).bind fun r => match r with
  | .bad er q => some (0, 0, [], er, q)
  | .ok (kd, ar, rs) => some (kd, ar, rs, 0, -1)
 else some (0, 0, [], e, p)
set_option maxHeartbeats 60000000 in
set_option maxRecDepth 100000 in
theorem parse_Parse.calls (k : Nat) (a0 : ByteArray) (r1 r2 : Int) (r3 : List S44) (r4 r5 : Int) (w : World) (h : parse_Parse.f k a0 = some (r1, r2, r3, r4, r5)) :
  Calls Try.prog 10 #[.string a0] w (prEnd w r1 r2 r3 r4 r5) := by
 have hu27 := Try.underlying27
 have hu24 := Try.underlying24
 have hu := Try.underlying39
 have hfd := fun (cs_ : Array Value) (j_ : Nat) (w_ : World) => Mine.run_field (P := Try.prog) Try.underlying39 cs_ j_ w_
 have hmf : ∀ (fn : Fn) (first cap : Array Value) (w : World), (Instr.makeFunc fn first cap).run Try.prog w = .ok (.func fn first cap) w := fun _ _ _ _ => rfl
 unfold parse_Parse.f at h
 obtain ⟨⟨L, er, p⟩, HLX, h⟩ := Option.bind_eq_some_iff.mp h
 have HLX := am HLX
 by_cases he : er = 0
 ·have h := h
  subst he
  obtain ⟨R, HG, h⟩ := Option.bind_eq_some_iff.mp (show (parse_Parse.g k L).bind _ = _ from by simpa using h)
  unfold parse_Parse.g at HG
  by_cases hz : 0 ≤ (0 : Int) ∧ (0 : Int) < (L.length : Int)
  ·rw [if_pos hz] at HG
   have z0 := hz.1
   have z1 := hz.2
   have HLL : Aside0 (0 < L.length) := ⟨by omega⟩
   clear hz
   by_cases hd : ((rd_T39 L 0).f0 = 1 ∧ (rd_T39 L 0).f2.toList = (⟨#[100, 101, 102, 97, 117, 108, 116]⟩ : ByteArray).toList)
   ·rw [if_pos hd] at HG
    have A1 : Aside0 (prTake L 0 1 ⟨#[100, 101, 102, 97, 117, 108, 116]⟩ true) := ⟨.inl ⟨rfl, hd.1, hd.2⟩⟩
    clear hd
    obtain ⟨ra, A2, HG⟩ := Option.bind_eq_some_iff.mp HG
    have A2 := am A2
    cases ra with
    | bad e2 q2 =>
     obtain rfl := Option.some.inj HG
     simp only [Option.some.injEq, Prod.mk.injEq] at h
     obtain ⟨h1, h2, h3, h4, h5⟩ := h
     subst h1 h2 h3 h4 h5
     clear HG
     have e1 : ((0 : Int) != 0) = false := rfl
     go_enter_defers Try.func10, Try.ntmps10
     go_wp2_with (first | ((with_reducible refine gate_dst (N := 2) rfl ?_); refine box_event rfl (N := 2) rfl (cs := #[.int .i64 0, .int .i64 0, .slice none 0 0]) (t := 27) (by first | (go_simp; done) | (go_simp; rfl)) ?_; intro b2 hg w1 hbox hb; have E2 := am hg; have B2a := am hbox; have HB1 := am hb; clear hbox hb hg) | ((with_reducible refine gate_dst (N := 3) rfl ?_); refine box_event rfl (N := 3) rfl (cs := #[.int .i64 0]) (t := 28) (by first | (go_simp; done) | (go_simp; rfl)) ?_; intro b3 hg w2 hbox hb; have E3 := am hg; have B3a := am hbox; have B2b := am (blk_below B2a.out hb); have HB2 := am (HB1.out.trans (hb.mono HB1.out.size)); clear B2a; clear hbox hb hg) | ((with_reducible refine gate_dst (N := 4) rfl ?_); refine box_event rfl (N := 4) rfl (cs := #[.int .i64 0]) (t := 3) (by first | (go_simp; done) | (go_simp; rfl)) ?_; intro b4 hg w3 hbox hb; have E4 := am hg; have B4c := am hbox; have B2c := am (blk_below B2b.out hb); have B3c := am (blk_below B3a.out hb); have HB3 := am (HB2.out.trans (hb.mono HB2.out.size)); clear B2b B3a; clear hbox hb hg) | (go_at_call 13; (refine (lex_All.calls k a0 L _ _ w3 HLX.out).mono ?_); rintro e w4 ⟨v0, rfl, hR, hb⟩; obtain ⟨A0, c0, rfl⟩ := Kd.R_slice hR; have PB4 : Aside0 (PBlks b2 b3 b4 0 0 (.slice none 0 0) 0 0 w4) := ⟨⟨blk_below B2c.out hb, blk_below B3c.out hb, blk_below B4c.out hb⟩⟩; have HR4 := am (Kd.R_bound hR); have HB4 := am (HB3.out.trans (hb.mono HB3.out.size)); have S3 := am hb.size; have X2 : Aside0 (b2 < w3.heap.size) := ⟨blk_lt B2c.out⟩; have X3 : Aside0 (b3 < w3.heap.size) := ⟨blk_lt B3c.out⟩; have X4 : Aside0 (b4 < w3.heap.size) := ⟨blk_lt B4c.out⟩; clear hR hb B2c B3c B4c; have i20 := (blk_cell PB4.out.c2 0).trans (show _ = some (.int .i64 0 : Value) from rfl); have i21 := (blk_cell PB4.out.c2 1).trans (show _ = some (.int .i64 0 : Value) from rfl); have i22 := (blk_cell PB4.out.c2 2).trans (show _ = some (.slice none 0 0 : Value) from rfl); have i3 := (blk_cell PB4.out.c3 0).trans (show _ = some (.int .i64 0 : Value) from rfl); have i4 := (blk_cell PB4.out.c4 0).trans (show _ = some (.int .i64 0 : Value) from rfl); have k20 := blk_frozen PB4.out.c2 0; have k21 := blk_frozen PB4.out.c2 1; have k22 := blk_frozen PB4.out.c2 2; have k3 := blk_frozen PB4.out.c3 0; have k4 := blk_frozen PB4.out.c4 0; have n23 := PB4.out.ne.1; have n24 := PB4.out.ne.2.1; have n34 := PB4.out.ne.2.2; have n32 := Ne.symm n23; have n42 := Ne.symm n24; have n43 := Ne.symm n34; have M2 : Aside0 (w.heap.size ≤ b2) := ⟨by rw [E2.out]; exact Nat.le_refl _⟩; have M3 : Aside0 (w.heap.size ≤ b3) := ⟨by rw [E3.out]; exact HB1.out.size⟩; have M4 : Aside0 (w.heap.size ≤ b4) := ⟨by rw [E4.out]; exact HB2.out.size⟩) | ((with_reducible refine gate_dst (N := 21) rfl ?_); refine box_event rfl (N := 21) rfl (cs := #[.slice A0 L.length c0, .int .i64 0]) (t := 52) (by first | (go_simp; done) | (go_simp; rfl)) ?_; intro g hg w5 hbox hb; obtain ⟨w0, E0⟩ : ∃ w0 : World, w0 = ((w4.setCell ⟨b3, 0, none⟩ (.int .i64 0)).setCell ⟨b4, 0, none⟩ (.int .i64 p)) := ⟨_, rfl⟩; rw [← E0] at hb hg; have KC : Aside0 (Kd.C k39 w0 A0 L.length L) := ⟨by rw [E0]; exact (Kd.R_reads' (Kd.R_far (p := ⟨b4, 0, none⟩) (Kd.R_far (p := ⟨b3, 0, none⟩) HR4.out (fun k_ h_ => by have := X3.out; have := h_.2.1; show k_ ≠ b3; omega) _) (fun k_ h_ => by have := X4.out; have := h_.2.1; show k_ ≠ b4; omega) _)).2.2⟩; have L5 : Aside0 (IsRd w0 w5 g L 0) := ⟨⟨A0, c0, hbox, by rw [hg]; exact Nat.le_refl _, KC.out, hb⟩⟩; have PB5 : Aside0 (PBlks b2 b3 b4 0 0 (.slice none 0 0) 0 p w5) := ⟨by refine PBlks.below ?_ hb; rw [E0]; exact ⟨blk_far (blk_far PB4.out.c2 (p := ⟨b3, 0, none⟩) n23 _) (p := ⟨b4, 0, none⟩) n24 _, blk_far (blk_put PB4.out.c3 0 _ rfl) (p := ⟨b4, 0, none⟩) n34 _, blk_put (blk_far PB4.out.c4 (p := ⟨b3, 0, none⟩) n43 _) 0 _ rfl⟩⟩; have HB0 : Aside0 (Below w.heap.size w w0) := ⟨by rw [E0]; exact (HB4.out.setCell (p := ⟨b3, 0, none⟩) (by show _ ≤ b3; rw [E3.out]; exact HB1.out.size) _).setCell (p := ⟨b4, 0, none⟩) (by show _ ≤ b4; rw [E4.out]; exact HB2.out.size) _⟩; have PB0 : Aside0 (PBlks b2 b3 b4 0 0 (.slice none 0 0) 0 p w0) := ⟨by rw [E0]; exact ⟨blk_far (blk_far PB4.out.c2 (p := ⟨b3, 0, none⟩) n23 _) (p := ⟨b4, 0, none⟩) n24 _, blk_far (blk_put PB4.out.c3 0 _ rfl) (p := ⟨b4, 0, none⟩) n34 _, blk_put (blk_far PB4.out.c4 (p := ⟨b3, 0, none⟩) n43 _) 0 _ rfl⟩⟩; have HB5 := am (HB0.out.trans (hb.mono HB0.out.size)); have O5 := am (One.refl g w5); have G2 : Aside0 (b2 ≠ g) := ⟨by have := blk_lt PB0.out.c2; omega⟩; have G3 : Aside0 (b3 ≠ g) := ⟨by have := blk_lt PB0.out.c3; omega⟩; have G4 : Aside0 (b4 ≠ g) := ⟨by have := blk_lt PB0.out.c4; omega⟩; have GW : Aside0 (w.heap.size ≤ g) := ⟨by have := HB0.out.size; omega⟩; clear PB4 HR4 KC E0 HB4 S3 i20 i21 i22 i3 i4 k20 k21 k22 k3 k4; have q5 := L5.out.c1; have r5 := L5.out.fr 1; clear hbox hb hg) | (go_at_call 16; (refine (parse_reader_take.calls g L 0 1 ⟨#[100, 101, 102, 97, 117, 108, 116]⟩ true _ _ L5.out z0 z1 A1.out).mono ?_); rintro e w6 ⟨rfl, hR0_, hO_⟩; have hR_ : IsRd _ w6 g L (wrap64 (0 + 1)) := hR0_; clear hR0_; have L6 := am (hR_); have O6 := am (One.trans O5.out hO_); clear L5 O5 q5 r5; have q6 := L6.out.c1; have r6 := L6.out.fr 1; clear hO_ hR_) | (go_at_call 18; (refine (parse_reader_act.calls g L (wrap64 (0 + 1)) true _ _ _ L6.out A2.out).mono ?_); rintro e w9 ⟨hO_, he⟩; obtain rfl : e = .panicked [{ v := .iface 48 (.agg #[.int .i64 e2, .int .i64 q2]), recovered := false }] := he; have HF := am (One.trans O6.out hO_); clear hO_))
     exact parse_door_bad ⟨rfl, rfl, rfl⟩ (PB5.out.one HF.out G2.out G3.out G4.out) ((HF.out).toBelow HB5.out HB5.out.size GW.out) M2.out M3.out M4.out
    | ok va =>
     obtain ⟨kd, ar, n1⟩ := va
     simp only at HG
     obtain ⟨res, HR, HG⟩ := Option.bind_eq_some_iff.mp HG
     unfold parse_Parse.h at HR
     by_cases hn : 0 ≤ n1 ∧ n1 < (L.length : Int)
     ·rw [if_pos hn] at HR
      have h2 := hn.1
      have h3 := hn.2
      clear hn
      by_cases hs : ((rd_T39 L n1).f0 = 3 ∧ (rd_T39 L n1).f2.toList = (⟨#[59]⟩ : ByteArray).toList)
      ·rw [if_pos hs] at HR
       have A3 : Aside0 (prTake L n1 3 ⟨#[59]⟩ true) := ⟨.inl ⟨rfl, hs.1, hs.2⟩⟩
       have HR' := am HR
       have HG' := am HG
       have h' := am h
       clear hs HR HG h
       have e1 : ((0 : Int) != 0) = false := rfl
       go_enter_defers Try.func10, Try.ntmps10
       go_wp2_with (first | ((with_reducible refine gate_dst (N := 2) rfl ?_); refine box_event rfl (N := 2) rfl (cs := #[.int .i64 0, .int .i64 0, .slice none 0 0]) (t := 27) (by first | (go_simp; done) | (go_simp; rfl)) ?_; intro b2 hg w1 hbox hb; have E2 := am hg; have B2a := am hbox; have HB1 := am hb; clear hbox hb hg) | ((with_reducible refine gate_dst (N := 3) rfl ?_); refine box_event rfl (N := 3) rfl (cs := #[.int .i64 0]) (t := 28) (by first | (go_simp; done) | (go_simp; rfl)) ?_; intro b3 hg w2 hbox hb; have E3 := am hg; have B3a := am hbox; have B2b := am (blk_below B2a.out hb); have HB2 := am (HB1.out.trans (hb.mono HB1.out.size)); clear B2a; clear hbox hb hg) | ((with_reducible refine gate_dst (N := 4) rfl ?_); refine box_event rfl (N := 4) rfl (cs := #[.int .i64 0]) (t := 3) (by first | (go_simp; done) | (go_simp; rfl)) ?_; intro b4 hg w3 hbox hb; have E4 := am hg; have B4c := am hbox; have B2c := am (blk_below B2b.out hb); have B3c := am (blk_below B3a.out hb); have HB3 := am (HB2.out.trans (hb.mono HB2.out.size)); clear B2b B3a; clear hbox hb hg) | (go_at_call 13; (refine (lex_All.calls k a0 L _ _ w3 HLX.out).mono ?_); rintro e w4 ⟨v0, rfl, hR, hb⟩; obtain ⟨A0, c0, rfl⟩ := Kd.R_slice hR; have PB4 : Aside0 (PBlks b2 b3 b4 0 0 (.slice none 0 0) 0 0 w4) := ⟨⟨blk_below B2c.out hb, blk_below B3c.out hb, blk_below B4c.out hb⟩⟩; have HR4 := am (Kd.R_bound hR); have HB4 := am (HB3.out.trans (hb.mono HB3.out.size)); have S3 := am hb.size; have X2 : Aside0 (b2 < w3.heap.size) := ⟨blk_lt B2c.out⟩; have X3 : Aside0 (b3 < w3.heap.size) := ⟨blk_lt B3c.out⟩; have X4 : Aside0 (b4 < w3.heap.size) := ⟨blk_lt B4c.out⟩; clear hR hb B2c B3c B4c; have i20 := (blk_cell PB4.out.c2 0).trans (show _ = some (.int .i64 0 : Value) from rfl); have i21 := (blk_cell PB4.out.c2 1).trans (show _ = some (.int .i64 0 : Value) from rfl); have i22 := (blk_cell PB4.out.c2 2).trans (show _ = some (.slice none 0 0 : Value) from rfl); have i3 := (blk_cell PB4.out.c3 0).trans (show _ = some (.int .i64 0 : Value) from rfl); have i4 := (blk_cell PB4.out.c4 0).trans (show _ = some (.int .i64 0 : Value) from rfl); have k20 := blk_frozen PB4.out.c2 0; have k21 := blk_frozen PB4.out.c2 1; have k22 := blk_frozen PB4.out.c2 2; have k3 := blk_frozen PB4.out.c3 0; have k4 := blk_frozen PB4.out.c4 0; have n23 := PB4.out.ne.1; have n24 := PB4.out.ne.2.1; have n34 := PB4.out.ne.2.2; have n32 := Ne.symm n23; have n42 := Ne.symm n24; have n43 := Ne.symm n34; have M2 : Aside0 (w.heap.size ≤ b2) := ⟨by rw [E2.out]; exact Nat.le_refl _⟩; have M3 : Aside0 (w.heap.size ≤ b3) := ⟨by rw [E3.out]; exact HB1.out.size⟩; have M4 : Aside0 (w.heap.size ≤ b4) := ⟨by rw [E4.out]; exact HB2.out.size⟩) | ((with_reducible refine gate_dst (N := 21) rfl ?_); refine box_event rfl (N := 21) rfl (cs := #[.slice A0 L.length c0, .int .i64 0]) (t := 52) (by first | (go_simp; done) | (go_simp; rfl)) ?_; intro g hg w5 hbox hb; obtain ⟨w0, E0⟩ : ∃ w0 : World, w0 = ((w4.setCell ⟨b3, 0, none⟩ (.int .i64 0)).setCell ⟨b4, 0, none⟩ (.int .i64 p)) := ⟨_, rfl⟩; rw [← E0] at hb hg; have KC : Aside0 (Kd.C k39 w0 A0 L.length L) := ⟨by rw [E0]; exact (Kd.R_reads' (Kd.R_far (p := ⟨b4, 0, none⟩) (Kd.R_far (p := ⟨b3, 0, none⟩) HR4.out (fun k_ h_ => by have := X3.out; have := h_.2.1; show k_ ≠ b3; omega) _) (fun k_ h_ => by have := X4.out; have := h_.2.1; show k_ ≠ b4; omega) _)).2.2⟩; have L5 : Aside0 (IsRd w0 w5 g L 0) := ⟨⟨A0, c0, hbox, by rw [hg]; exact Nat.le_refl _, KC.out, hb⟩⟩; have PB5 : Aside0 (PBlks b2 b3 b4 0 0 (.slice none 0 0) 0 p w5) := ⟨by refine PBlks.below ?_ hb; rw [E0]; exact ⟨blk_far (blk_far PB4.out.c2 (p := ⟨b3, 0, none⟩) n23 _) (p := ⟨b4, 0, none⟩) n24 _, blk_far (blk_put PB4.out.c3 0 _ rfl) (p := ⟨b4, 0, none⟩) n34 _, blk_put (blk_far PB4.out.c4 (p := ⟨b3, 0, none⟩) n43 _) 0 _ rfl⟩⟩; have HB0 : Aside0 (Below w.heap.size w w0) := ⟨by rw [E0]; exact (HB4.out.setCell (p := ⟨b3, 0, none⟩) (by show _ ≤ b3; rw [E3.out]; exact HB1.out.size) _).setCell (p := ⟨b4, 0, none⟩) (by show _ ≤ b4; rw [E4.out]; exact HB2.out.size) _⟩; have PB0 : Aside0 (PBlks b2 b3 b4 0 0 (.slice none 0 0) 0 p w0) := ⟨by rw [E0]; exact ⟨blk_far (blk_far PB4.out.c2 (p := ⟨b3, 0, none⟩) n23 _) (p := ⟨b4, 0, none⟩) n24 _, blk_far (blk_put PB4.out.c3 0 _ rfl) (p := ⟨b4, 0, none⟩) n34 _, blk_put (blk_far PB4.out.c4 (p := ⟨b3, 0, none⟩) n43 _) 0 _ rfl⟩⟩; have HB5 := am (HB0.out.trans (hb.mono HB0.out.size)); have O5 := am (One.refl g w5); have G2 : Aside0 (b2 ≠ g) := ⟨by have := blk_lt PB0.out.c2; omega⟩; have G3 : Aside0 (b3 ≠ g) := ⟨by have := blk_lt PB0.out.c3; omega⟩; have G4 : Aside0 (b4 ≠ g) := ⟨by have := blk_lt PB0.out.c4; omega⟩; have GW : Aside0 (w.heap.size ≤ g) := ⟨by have := HB0.out.size; omega⟩; clear PB4 HR4 KC E0 HB4 S3 i20 i21 i22 i3 i4 k20 k21 k22 k3 k4; have q5 := L5.out.c1; have r5 := L5.out.fr 1; clear hbox hb hg) | (go_at_call 16; (refine (parse_reader_take.calls g L 0 1 ⟨#[100, 101, 102, 97, 117, 108, 116]⟩ true _ _ L5.out z0 z1 A1.out).mono ?_); rintro e w6 ⟨rfl, hR0_, hO_⟩; have hR_ : IsRd _ w6 g L (wrap64 (0 + 1)) := hR0_; clear hR0_; have L6 := am (hR_); have O6 := am (One.trans O5.out hO_); clear L5 O5 q5 r5; have q6 := L6.out.c1; have r6 := L6.out.fr 1; clear hO_ hR_) | (go_at_call 18; (refine (parse_reader_act.calls g L (wrap64 (0 + 1)) true _ _ _ L6.out A2.out).mono ?_); rintro e w7 ⟨hO_, he, hR_⟩; obtain rfl : e = .returned (.agg #[.int .i64 kd, .int .i64 ar]) := he; have L7 := am (hR_); have O7 := am (One.trans O6.out hO_); clear L6 O6 q6 r6; have q7 := L7.out.c1; have r7 := L7.out.fr 1; clear hO_ hR_; have PB7 : Aside0 (PBlks b2 b3 b4 0 0 (.slice none 0 0) 0 p w7) := ⟨PB5.out.one O7.out G2.out G3.out G4.out⟩; have HB7 := am (O7.out.toBelow HB5.out HB5.out.size GW.out); have LB : Aside0 (IsRd ((w0.setCell ⟨b2, 0, none⟩ (.int .i64 kd)).setCell ⟨b2, 1, none⟩ (.int .i64 ar)) ((w7.setCell ⟨b2, 0, none⟩ (.int .i64 kd)).setCell ⟨b2, 1, none⟩ (.int .i64 ar)) g L n1) := ⟨IsRd.both (IsRd.both L7.out HLL.out PB0.out.c2 0 _) HLL.out (blk_put PB0.out.c2 0 _ rfl) 1 _⟩; have OB : Aside0 (One g ((w7.setCell ⟨b2, 0, none⟩ (.int .i64 kd)).setCell ⟨b2, 1, none⟩ (.int .i64 ar)) ((w7.setCell ⟨b2, 0, none⟩ (.int .i64 kd)).setCell ⟨b2, 1, none⟩ (.int .i64 ar))) := ⟨One.refl _ _⟩; have PBB : Aside0 (PBlks b2 b3 b4 kd ar (.slice none 0 0) 0 p ((w7.setCell ⟨b2, 0, none⟩ (.int .i64 kd)).setCell ⟨b2, 1, none⟩ (.int .i64 ar))) := ⟨PB7.out.set2 kd ar⟩; have HBB : Aside0 (Below w.heap.size w ((w7.setCell ⟨b2, 0, none⟩ (.int .i64 kd)).setCell ⟨b2, 1, none⟩ (.int .i64 ar))) := ⟨below_set (below_set HB7.out M2.out) M2.out⟩; have PC0 : Aside0 (PBlks b2 b3 b4 kd ar (.slice none 0 0) 0 p ((w0.setCell ⟨b2, 0, none⟩ (.int .i64 kd)).setCell ⟨b2, 1, none⟩ (.int .i64 ar))) := ⟨PB0.out.set2 kd ar⟩; have j20 := (blk_cell PB7.out.c2 0).trans (show _ = some (.int .i64 0 : Value) from rfl); have j21 := (blk_cell PB7.out.c2 1).trans (show _ = some (.int .i64 0 : Value) from rfl); have l2 := fun j => blk_frozen PB7.out.c2 j; have v6 := (blk_cell (PBB.out.c2) 0).trans (show _ = some (.int .i64 kd : Value) from rfl); clear v6) | (go_at_call 16; (refine (parse_reader_take.calls g L n1 3 ⟨#[59]⟩ true _ _ LB.out h2 h3 A3.out).mono ?_); rintro e w8 ⟨rfl, hR0_, hO_⟩; have hR_ : IsRd _ w8 g L (wrap64 (n1 + 1)) := hR0_; clear hR0_; have L8 := am (hR_); have O8 := am (One.trans OB.out hO_); clear LB OB q7 r7 j20 j21 l2; have q8 := L8.out.c1; have r8 := L8.out.fr 1; clear hO_ hR_))
       go_loopg [] k (fun kq w' => ∃ (n : Int) (rs : List S44) (v : Value) (u0 : World), Aside0 (parse_Parse.l0 kq L n rs = some res) ∧ Aside0 (IsRd u0 w' g L n) ∧ Aside0 (PBlks b2 b3 b4 kd ar v 0 p u0) ∧ Aside0 (Below w.heap.size w w') ∧ Aside0 (Below w.heap.size w u0) ∧ Aside0 (Kd.S k44 44 w' u0.heap.size (fun k_ => k_ ≠ g ∧ k_ ≠ b2 ∧ k_ ≠ b3 ∧ k_ ≠ b4) v rs))
       case atStart => exact ⟨(wrap64 (n1 + 1)), [], .slice none 0 0, _, HR', L8, PC0, ⟨O8.out.toBelow HBB.out HBB.out.size GW.out⟩, ⟨below_set (below_set HB0.out M2.out) M2.out⟩, ⟨Kd.S_nil _ _ _ _ _⟩⟩
       case round =>
        clear HR' A1 A2 A3 PB0 HB0 HBB PBB PC0
        try clear q8 r8 L8 O8
        obtain ⟨n, rs, v, w0, HA, zL, zPB, zHB, zHU, zR⟩ := hrel
        obtain ⟨Av, cv, rfl⟩ := Kd.S_slice zR.out
        have zO := am (One.refl g wr)
        cases gk with
        | zero => exact absurd HA.out (by simp [parse_Parse.l0])
        | succ k1 =>
         have H := HA.out
         clear HA
         rw [parse_Parse.l0.eq_2] at H
         by_cases hm : 0 ≤ n ∧ n < (L.length : Int)
         ·rw [if_pos hm] at H
          have h0 := hm.1
          have h1 := hm.2
          clear hm
          by_cases h4 : (rd_T39 L n).f0 = 4
          ·rw [if_pos h4] at H
           obtain rfl := Option.some.inj H
           have HG := HG'.out
           have h := h'.out
           obtain rfl := Option.some.inj HG
           simp only [Option.some.injEq, Prod.mk.injEq] at h
           obtain ⟨e1_, e2_, e3_, e4_, e5_⟩ := h
           subst e1_ e2_ e3_ e4_ e5_
           have a1 := bne_eq_false_iff_eq.mpr h4
           clear H HG h4
           go_wp2_with (first | (go_at_call 19; (refine (parse_reader_now.calls g L n _ _ zL.out h0 h1).mono ?_); rintro e w21 ⟨rfl, hb⟩; have L21 := am (IsRd.below zL.out hb); have O21 := am (One.below zO.out hb); have R21_rs := am (Kd.S_below zR.out hb); clear zL zO zR; have q21 := L21.out.c1; have r21 := L21.out.fr 1; clear hb; have PX21 := am (zPB.out.below (IsRd.w0 L21.out)); have y21_20 := (blk_cell PX21.out.c2 0).trans (show _ = some (.int .i64 kd : Value) from rfl); have y21_21 := (blk_cell PX21.out.c2 1).trans (show _ = some (.int .i64 ar : Value) from rfl); have y21_22 := (blk_cell PX21.out.c2 2).trans (show _ = some (.slice Av rs.length cv : Value) from rfl); have y21_3 := (blk_cell PX21.out.c3 0).trans (show _ = some (.int .i64 0 : Value) from rfl); have y21_4 := (blk_cell PX21.out.c4 0).trans (show _ = some (.int .i64 p : Value) from rfl); have y21_f2 := fun j => blk_frozen PX21.out.c2 j; have y21_f3 := fun j => blk_frozen PX21.out.c3 j; have y21_f4 := fun j => blk_frozen PX21.out.c4 j))
           show Leaves _ _ _ _ [pDefer b2 b3 b4] .returning _
           exact parse_door_ok ⟨rfl, rfl, rfl⟩ (((PX21.out.set3 kd ar (.slice Av rs.length cv)).setE 0).setP (-1)) (Kd.S_mono (Kd.S_lower (Kd.S_far (p := ⟨b4, 0, none⟩) (Kd.S_far (p := ⟨b3, 0, none⟩) (Kd.S_far (p := ⟨b2, 2, none⟩) (Kd.S_far (p := ⟨b2, 1, none⟩) (Kd.S_far (p := ⟨b2, 0, none⟩) R21_rs.out (fun _ o_ => o_.2.1) _) (fun _ o_ => o_.2.1) _) (fun _ o_ => o_.2.1) _) (fun _ o_ => o_.2.2.1) _) (fun _ o_ => o_.2.2.2) _) zHU.out.size) (fun _ _ => trivial)) (below_set5 (O21.out.toBelow zHB.out zHB.out.size GW.out) M2.out M3.out M4.out _ _ _ _ _)
          ·rw [if_neg h4] at H
           have a1 := bne_iff_ne.mpr h4
           clear h4
           by_cases hl : rs.length < 1000
           ·rw [if_pos hl] at H
            have hlen := am hl
            clear hl
            obtain ⟨rr, A4, H⟩ := Option.bind_eq_some_iff.mp H
            have A4 := am A4
            cases rr with
            | bad er q =>
             obtain rfl := Option.some.inj H
             have HG := HG'.out
             have h := h'.out
             obtain rfl := Option.some.inj HG
             simp only [Option.some.injEq, Prod.mk.injEq] at h
             obtain ⟨e1_, e2_, e3_, e4_, e5_⟩ := h
             subst e1_ e2_ e3_ e4_ e5_
             clear H HG
             go_wp2_with (first | (go_at_call 19; (refine (parse_reader_now.calls g L n _ _ zL.out h0 h1).mono ?_); rintro e w21 ⟨rfl, hb⟩; have L21 := am (IsRd.below zL.out hb); have O21 := am (One.below zO.out hb); have R21_rs := am (Kd.S_below zR.out hb); clear zL zO zR; have q21 := L21.out.c1; have r21 := L21.out.fr 1; clear hb))
             refine PQ.use (b2 := b2) (b3 := b3) (b4 := b4) (D := [pDefer b2 b3 b4]) (BAD := fun ch w9 => ch = [{ v := .iface 48 (.agg #[.int .i64 er, .int .i64 q]), recovered := false }] ∧ PBlks b2 b3 b4 kd ar (.slice Av rs.length cv) 0 p w9 ∧ Below w.heap.size w w9) ?hq ?_
             case hq =>
              rintro ch a_ w9 ht hd ⟨rfl, hp, hb⟩
              show Leaves _ _ a_.tmps _ a_.defers _ _
              rw [hd]
              exact parse_door_bad ht hp hb M2.out M3.out M4.out
             have L22 := am (IsRd.drew L21.out)
             have O22 := am (One.drew O21.out)
             have R22_rs := am (Kd.S_drew R21_rs.out)
             clear L21 O21 R21_rs q21 r21
             have q22 := L22.out.c1
             have r22 := L22.out.fr 1
             have PX22 := am (zPB.out.below (IsRd.w0 L22.out))
             have y22_20 := (blk_cell PX22.out.c2 0).trans (show _ = some (.int .i64 kd : Value) from rfl)
             have y22_21 := (blk_cell PX22.out.c2 1).trans (show _ = some (.int .i64 ar : Value) from rfl)
             have y22_22 := (blk_cell PX22.out.c2 2).trans (show _ = some (.slice Av rs.length cv : Value) from rfl)
             have y22_3 := (blk_cell PX22.out.c3 0).trans (show _ = some (.int .i64 0 : Value) from rfl)
             have y22_4 := (blk_cell PX22.out.c4 0).trans (show _ = some (.int .i64 p : Value) from rfl)
             have y22_f2 := fun j => blk_frozen PX22.out.c2 j
             have y22_f3 := fun j => blk_frozen PX22.out.c3 j
             have y22_f4 := fun j => blk_frozen PX22.out.c4 j
             clear q22 r22
             have q22 := L22.out.c1
             have r22 := L22.out.fr 1
             refine start_ (n := 12) (S := fun w' => w'.cell? ⟨b2, 2, none⟩ = some (.slice Av rs.length cv)) (ds := [11]) #[false, false, false, false, false, false, false, false, false, false, false, false] (by kernel_rfl) rfl rfl (y22_22) (fun hHeld => ?_)
             refine pure_ (i := 0) (N := some 39) (v := ?_) (a' := ?_) #[true, false, false, false, false, false, false, false, false, false, false, false] rfl rfl (by kernel_rfl) (fun _ _ _ h => PQ.put h (by decide)) (Or.inl ⟨by rfl, ?_⟩) ?_ ?_
             rotate_left
             ·intro w'
              go_simp
              with_reducible rfl
             rotate_left
             ·simp only [Act.put, List.setIfInBounds_toArray, List.set_cons_zero, List.set_cons_succ, i64_w, i32_w]
              rfl
             refine pure_ (i := 2) (N := some 41) (v := ?_) (a' := ?_) #[true, false, true, false, false, false, false, false, false, false, false, false] rfl rfl (by kernel_rfl) (fun _ _ _ h => PQ.put h (by decide)) (Or.inl ⟨by rfl, ?_⟩) ?_ ?_
             rotate_left
             ·intro w'
              go_simp
              with_reducible rfl
             rotate_left
             ·simp only [Act.put, List.setIfInBounds_toArray, List.set_cons_zero, List.set_cons_succ, i64_w, i32_w]
              rfl
             refine pure_ (i := 3) (N := some 42) (v := ?_) (a' := ?_) #[true, false, true, true, false, false, false, false, false, false, false, false] rfl rfl (by kernel_rfl) (fun _ _ _ h => PQ.put h (by decide)) (Or.inl ⟨by rfl, ?_⟩) ?_ ?_
             rotate_left
             ·intro w'
              go_simp
              with_reducible rfl
             rotate_left
             ·simp only [Act.put, List.setIfInBounds_toArray, List.set_cons_zero, List.set_cons_succ, i64_w, i32_w]
              rfl
             refine take_ (i := 1) (N := some 40) (v := ?_) (a' := ?_) #[true, true, true, true, false, false, false, false, false, false, false, false] rfl rfl (by kernel_rfl) (fun _ _ _ h => PQ.put h (by decide)) (Or.inl ⟨by rfl, ?_⟩) hHeld ?_ ?_
             rotate_left
             ·intro w' s0
              go_simp
              with_reducible rfl
             rotate_left
             ·simp only [Act.put, List.setIfInBounds_toArray, List.set_cons_zero, List.set_cons_succ, i64_w, i32_w]
              rfl
             refine take_ (i := 4) (N := some 43) (v := ?_) (a' := ?_) #[true, true, true, true, true, false, false, false, false, false, false, false] rfl rfl (by kernel_rfl) (fun _ _ _ h => PQ.put h (by decide)) (Or.inl ⟨by rfl, ?_⟩) hHeld ?_ ?_
             rotate_left
             ·intro w' s0
              go_simp
              with_reducible rfl
             rotate_left
             ·simp only [Act.put, List.setIfInBounds_toArray, List.set_cons_zero, List.set_cons_succ, i64_w, i32_w]
              rfl
             refine pure_ (i := 5) (N := some 44) (v := ?_) (a' := ?_) #[true, true, true, true, true, true, false, false, false, false, false, false] rfl rfl (by kernel_rfl) (fun _ _ _ h => PQ.put h (by decide)) (Or.inl ⟨by rfl, ?_⟩) ?_ ?_
             rotate_left
             ·intro w'
              go_simp
              with_reducible rfl
             rotate_left
             ·simp only [Act.put, List.setIfInBounds_toArray, List.set_cons_zero, List.set_cons_succ, i64_w, i32_w]
              rfl
             refine pure_ (i := 6) (N := some 45) (v := ?_) (a' := ?_) #[true, true, true, true, true, true, true, false, false, false, false, false] rfl rfl (by kernel_rfl) (fun _ _ _ h => PQ.put h (by decide)) (Or.inl ⟨by rfl, ?_⟩) ?_ ?_
             rotate_left
             ·intro w'
              go_simp
              with_reducible rfl
             rotate_left
             ·simp only [Act.put, List.setIfInBounds_toArray, List.set_cons_zero, List.set_cons_succ, i64_w, i32_w]
              rfl
             refine one_ (i := 7) (N := some 46) #[true, true, true, true, true, true, true, true, false, false, false, false] rfl rfl (by kernel_rfl) (by decide) (fun K hK => ?_)
             refine goes_bad Try.func20 (by kernel_rfl) rfl #[.pointer (some ⟨g, 0, none⟩), .bool (decide ((rs.length : Int) < 64))] (by rfl) rfl rfl (by simp only [List.map_toArray, List.map_cons, List.map_nil]; rfl) ?_
             refine (parse_reader_rule.calls k1 g L n _ _ w0 _ L22.out A4.out).mono ?_
             rintro e w9 ⟨hO_, he⟩
             obtain rfl : e = .panicked [{ v := .iface 48 (.agg #[.int .i64 er, .int .i64 q]), recovered := false }] := he
             refine ⟨_, rfl, ?_⟩
             exact ⟨⟨rfl, rfl, rfl⟩, rfl, rfl, PX22.out.one hO_ G2.out G3.out G4.out, One.toBelow hO_ (O22.out.toBelow zHB.out zHB.out.size GW.out) (O22.out.toBelow zHB.out zHB.out.size GW.out).size GW.out⟩
            | ok vx =>
             obtain ⟨x, n1⟩ := vx
             have H' := am (show parse_Parse.l0 k1 L n1 (rs ++ [x]) = some res from H)
             clear H
             go_wp2_with (first | (go_at_call 19; (refine (parse_reader_now.calls g L n _ _ zL.out h0 h1).mono ?_); rintro e w21 ⟨rfl, hb⟩; have L21 := am (IsRd.below zL.out hb); have O21 := am (One.below zO.out hb); have R21_rs := am (Kd.S_below zR.out hb); clear zL zO zR; have q21 := L21.out.c1; have r21 := L21.out.fr 1; clear hb))
             refine PQ.use (b2 := b2) (b3 := b3) (b4 := b4) (D := [pDefer b2 b3 b4]) (BAD := fun _ _ => False) (fun _ _ _ _ _ hf => hf.elim) ?_
             have L22 := am (IsRd.drew L21.out)
             have O22 := am (One.drew O21.out)
             have R22_rs := am (Kd.S_drew R21_rs.out)
             clear L21 O21 R21_rs q21 r21
             have q22 := L22.out.c1
             have r22 := L22.out.fr 1
             have PX22 := am (zPB.out.below (IsRd.w0 L22.out))
             have y22_20 := (blk_cell PX22.out.c2 0).trans (show _ = some (.int .i64 kd : Value) from rfl)
             have y22_21 := (blk_cell PX22.out.c2 1).trans (show _ = some (.int .i64 ar : Value) from rfl)
             have y22_22 := (blk_cell PX22.out.c2 2).trans (show _ = some (.slice Av rs.length cv : Value) from rfl)
             have y22_3 := (blk_cell PX22.out.c3 0).trans (show _ = some (.int .i64 0 : Value) from rfl)
             have y22_4 := (blk_cell PX22.out.c4 0).trans (show _ = some (.int .i64 p : Value) from rfl)
             have y22_f2 := fun j => blk_frozen PX22.out.c2 j
             have y22_f3 := fun j => blk_frozen PX22.out.c3 j
             have y22_f4 := fun j => blk_frozen PX22.out.c4 j
             clear q22 r22
             have q22 := L22.out.c1
             have r22 := L22.out.fr 1
             refine start_ (n := 12) (S := fun w' => w'.cell? ⟨b2, 2, none⟩ = some (.slice Av rs.length cv)) (ds := [11]) #[false, false, false, false, false, false, false, false, false, false, false, false] (by kernel_rfl) rfl rfl (y22_22) (fun hHeld => ?_)
             refine pure_ (i := 0) (N := some 39) (v := ?_) (a' := ?_) #[true, false, false, false, false, false, false, false, false, false, false, false] rfl rfl (by kernel_rfl) (fun _ _ _ h => PQ.put h (by decide)) (Or.inl ⟨by rfl, ?_⟩) ?_ ?_
             rotate_left
             ·intro w'
              go_simp
              with_reducible rfl
             rotate_left
             ·simp only [Act.put, List.setIfInBounds_toArray, List.set_cons_zero, List.set_cons_succ, i64_w, i32_w]
              rfl
             refine pure_ (i := 2) (N := some 41) (v := ?_) (a' := ?_) #[true, false, true, false, false, false, false, false, false, false, false, false] rfl rfl (by kernel_rfl) (fun _ _ _ h => PQ.put h (by decide)) (Or.inl ⟨by rfl, ?_⟩) ?_ ?_
             rotate_left
             ·intro w'
              go_simp
              with_reducible rfl
             rotate_left
             ·simp only [Act.put, List.setIfInBounds_toArray, List.set_cons_zero, List.set_cons_succ, i64_w, i32_w]
              rfl
             refine pure_ (i := 3) (N := some 42) (v := ?_) (a' := ?_) #[true, false, true, true, false, false, false, false, false, false, false, false] rfl rfl (by kernel_rfl) (fun _ _ _ h => PQ.put h (by decide)) (Or.inl ⟨by rfl, ?_⟩) ?_ ?_
             rotate_left
             ·intro w'
              go_simp
              with_reducible rfl
             rotate_left
             ·simp only [Act.put, List.setIfInBounds_toArray, List.set_cons_zero, List.set_cons_succ, i64_w, i32_w]
              rfl
             refine take_ (i := 1) (N := some 40) (v := ?_) (a' := ?_) #[true, true, true, true, false, false, false, false, false, false, false, false] rfl rfl (by kernel_rfl) (fun _ _ _ h => PQ.put h (by decide)) (Or.inl ⟨by rfl, ?_⟩) hHeld ?_ ?_
             rotate_left
             ·intro w' s0
              go_simp
              with_reducible rfl
             rotate_left
             ·simp only [Act.put, List.setIfInBounds_toArray, List.set_cons_zero, List.set_cons_succ, i64_w, i32_w]
              rfl
             refine take_ (i := 4) (N := some 43) (v := ?_) (a' := ?_) #[true, true, true, true, true, false, false, false, false, false, false, false] rfl rfl (by kernel_rfl) (fun _ _ _ h => PQ.put h (by decide)) (Or.inl ⟨by rfl, ?_⟩) hHeld ?_ ?_
             rotate_left
             ·intro w' s0
              go_simp
              with_reducible rfl
             rotate_left
             ·simp only [Act.put, List.setIfInBounds_toArray, List.set_cons_zero, List.set_cons_succ, i64_w, i32_w]
              rfl
             refine pure_ (i := 5) (N := some 44) (v := ?_) (a' := ?_) #[true, true, true, true, true, true, false, false, false, false, false, false] rfl rfl (by kernel_rfl) (fun _ _ _ h => PQ.put h (by decide)) (Or.inl ⟨by rfl, ?_⟩) ?_ ?_
             rotate_left
             ·intro w'
              go_simp
              with_reducible rfl
             rotate_left
             ·simp only [Act.put, List.setIfInBounds_toArray, List.set_cons_zero, List.set_cons_succ, i64_w, i32_w]
              rfl
             refine pure_ (i := 6) (N := some 45) (v := ?_) (a' := ?_) #[true, true, true, true, true, true, true, false, false, false, false, false] rfl rfl (by kernel_rfl) (fun _ _ _ h => PQ.put h (by decide)) (Or.inl ⟨by rfl, ?_⟩) ?_ ?_
             rotate_left
             ·intro w'
              go_simp
              with_reducible rfl
             rotate_left
             ·simp only [Act.put, List.setIfInBounds_toArray, List.set_cons_zero, List.set_cons_succ, i64_w, i32_w]
              rfl
             refine one_ (i := 7) (N := some 46) #[true, true, true, true, true, true, true, true, false, false, false, false] rfl rfl (by kernel_rfl) (by decide) (fun K hK => ?_)
             refine goes_ Try.func20 (by kernel_rfl) rfl #[.pointer (some ⟨g, 0, none⟩), .bool (decide ((rs.length : Int) < 64))] (by rfl) rfl rfl (by simp only [List.map_toArray, List.map_cons, List.map_nil]; rfl) ?_
             refine (parse_reader_rule.calls k1 g L n _ _ w0 _ L22.out A4.out).mono ?_
             rintro e w23 ⟨hO_, vn, vc, he, hN_, hC_, hR_⟩
             obtain rfl : e = .returned (.agg #[.int .i64 x.f0.f0, .int .i64 x.f0.f1, vn, vc]) := he
             refine ⟨_, rfl, ?_⟩
             have L23 : Aside0 (IsRd w0 w23 g L n1) := ⟨hR_⟩
             have hown := fun k_ (e_ : (Value.slice Av rs.length cv).ownBlock = some k_) => own_lt (Kd.S_own R22_rs.out).choose_spec k_ e_
             have N23 := am (prRow (vs := .slice Av rs.length cv) hN_ (Nat.le_refl w0.heap.size) (blk_lt PX22.out.c2) (blk_lt PX22.out.c3) (blk_lt PX22.out.c4) hown)
             have C23 := am (prRow (vs := .slice Av rs.length cv) hC_ (Nat.le_refl w0.heap.size) (blk_lt PX22.out.c2) (blk_lt PX22.out.c3) (blk_lt PX22.out.c4) hown)
             have R23 := am (Kd.S_mono (ok' := fun k_ => (fun k_ => k_ ≠ g ∧ k_ ≠ b2 ∧ k_ ≠ b3 ∧ k_ ≠ b4) k_ ∧ ¬ (((k_ ≠ g ∧ k_ ≠ b2 ∧ k_ ≠ b3 ∧ k_ ≠ b4) ∧ some k_ ≠ (Value.slice Av rs.length cv).ownBlock) ∧ w21.drew.heap.size ≤ k_)) (Kd.S_step (Kd.S_bound R22_rs.out) (fun k_ ok_ hlt_ => One.block hO_ k_ hlt_ ok_.1.1)) (fun k_ hk_ => ⟨hk_.1, fun h_ => by have h1_ := hk_.2.2.1; have h2_ := h_.2; omega⟩))
             clear hO_ hN_ hC_ hR_ hown q22 r22 y22_20 y22_21 y22_22 y22_3 y22_4 y22_f2 y22_f3 y22_f4
             have PX23 := am (zPB.out.below (IsRd.w0 L23.out))
             have y23_20 := (blk_cell PX23.out.c2 0).trans (show _ = some (.int .i64 kd : Value) from rfl)
             have y23_21 := (blk_cell PX23.out.c2 1).trans (show _ = some (.int .i64 ar : Value) from rfl)
             have y23_22 := (blk_cell PX23.out.c2 2).trans (show _ = some (.slice Av rs.length cv : Value) from rfl)
             have y23_f2 := fun j => blk_frozen PX23.out.c2 j
             refine hK.out _ _ (y23_22) (fun hHeld => ?_)
             clear hK K
             refine norm_ (a' := ?_) ?_ ?_
             rotate_left
             ·show Act.put _ (some 46) _ = _
              simp only [Act.put, List.setIfInBounds_toArray, List.set_cons_zero, List.set_cons_succ, i64_w, i32_w]
              rfl
             refine one_ (i := 8) (N := some 47) #[true, true, true, true, true, true, true, true, true, false, false, false] rfl rfl (by kernel_rfl) (by decide) (fun K hK => ?_)
             refine value_ (w1 := ?_) (v := ?_) (by rfl) rfl ?_ ?_
             rotate_left 2
             ·go_simp
              constructor
              ·rfl
              ·rfl
             refine hK.out _ _ (((blk_cell (blk_alloc PX23.out.c2 _) 2).trans (show _ = some (.slice Av rs.length cv : Value) from rfl))) (fun hHeld => ?_)
             clear hK K
             refine norm_ (a' := ?_) ?_ ?_
             rotate_left
             ·show Act.put _ (some 47) _ = _
              simp only [Act.put, List.setIfInBounds_toArray, List.set_cons_zero, List.set_cons_succ, i64_w, i32_w]
              rfl
             refine one_ (i := 9) (N := some 48) #[true, true, true, true, true, true, true, true, true, true, false, false] rfl rfl (by kernel_rfl) (by decide) (fun K hK => ?_)
             refine Kd.S_append_step k44 (w0 := w0) w0.heap.size (by rfl) (.tmp 40) (.tmp 47) 25 44 (.agg #[.int .i64 0, .int .i64 0, .slice none 0 0, .slice none 0 0]) 64 rfl Try.underlying25 info44 rfl (by decide) (by omega) (.slice Av rs.length cv) rs x [.int .i64 x.f0.f0, .int .i64 x.f0.f1, vn, vc] (fun k_ => k_ ≠ g ∧ k_ ≠ b2 ∧ k_ ≠ b3 ∧ k_ ≠ b4) (fun k_ => ((k_ ≠ g ∧ k_ ≠ b2 ∧ k_ ≠ b3 ∧ k_ ≠ b4) ∧ some k_ ≠ (Value.slice Av rs.length cv).ownBlock) ∧ w21.drew.heap.size ≤ k_) (by rfl) (by first | (go_simp; done) | (go_simp; rfl)) (k44_mkM _ _ _ x N23.out C23.out) (fun _ hk_ => hk_.1) ?aF R23.out (IsRd.w0 L23.out) (Below.size (IsRd.w0 L23.out)) (by have := hlen.out; omega) ?_
             (case aF => exact (fun k_ hk_ => ⟨Nat.ne_of_gt (Nat.lt_of_lt_of_le (IsRd.lt L23.out) hk_), Nat.ne_of_gt (Nat.lt_of_lt_of_le (blk_lt PX23.out.c2) hk_), Nat.ne_of_gt (Nat.lt_of_lt_of_le (blk_lt PX23.out.c3) hk_), Nat.ne_of_gt (Nat.lt_of_lt_of_le (blk_lt PX23.out.c4) hk_)⟩))
             intro v24 w24 ho_ hb_ hg_ hat_
             obtain ⟨A24, c24, rfl⟩ := Kd.S_slice ho_
             rw [show (rs ++ [x]).length = rs.length + 1 from by simp] at ho_
             have L24 := am (IsRd.grown L23.out hg_ (fun e_ => ((Kd.S_R R23.out).1 g e_.symm).1.1 rfl) hb_)
             have R24 := am ho_
             have HX24 := am (zHU.out.trans (hb_.mono zHU.out.size))
             clear ho_ hb_ hg_ hat_ R23 N23 C23 y23_20 y23_21 y23_22 y23_f2
             have PX24 := am (zPB.out.below (IsRd.w0 L24.out))
             have y24_20 := (blk_cell PX24.out.c2 0).trans (show _ = some (.int .i64 kd : Value) from rfl)
             have y24_21 := (blk_cell PX24.out.c2 1).trans (show _ = some (.int .i64 ar : Value) from rfl)
             have y24_22 := (blk_cell PX24.out.c2 2).trans (show _ = some (.slice Av rs.length cv : Value) from rfl)
             have y24_f2 := fun j => blk_frozen PX24.out.c2 j
             refine hK.out _ _ (y24_22) (fun hHeld => ?_)
             clear hK K
             refine norm_ (a' := ?_) ?_ ?_
             rotate_left
             ·show Act.put _ (some 48) _ = _
              simp only [Act.put, List.setIfInBounds_toArray, List.set_cons_zero, List.set_cons_succ, i64_w, i32_w]
              rfl
             refine pure_ (i := 10) (N := some 49) (v := ?_) (a' := ?_) #[true, true, true, true, true, true, true, true, true, true, true, false] rfl rfl (by kernel_rfl) (fun _ _ _ h => PQ.put h (by decide)) (Or.inl ⟨by rfl, ?_⟩) ?_ ?_
             rotate_left
             ·intro w'
              go_simp
              with_reducible rfl
             rotate_left
             ·simp only [Act.put, List.setIfInBounds_toArray, List.set_cons_zero, List.set_cons_succ, i64_w, i32_w]
              rfl
             refine last_ (i := 11) (N := none) #[true, true, true, true, true, true, true, true, true, true, true, true] rfl rfl (by kernel_rfl) (by decide) (fun K hK => ?_)
             refine skip_ (w1 := ?_) (by rfl) rfl ?_ ?_
             rotate_left
             ·go_simp
              rfl
             refine hK.out _ _ ?_
             clear hK K
             refine done_ (by kernel_rfl) ?_
             refine PQ.normal ?_
             go_wp2
             go_roundg k1
             case measure => omega
             case rel => exact ⟨n1, rs ++ [x], (.slice A24 (rs.length + 1) c24), w0.setCell ⟨b2, 2, none⟩ (.slice A24 (rs.length + 1) c24), H', ⟨IsRd.both L24.out HLL.out zPB.out.c2 2 _⟩, ⟨zPB.out.set1 _⟩, ⟨below_set HX24.out M2.out⟩, ⟨below_set zHU.out M2.out⟩, ⟨Kd.S_lower (Kd.S_far (p := ⟨b2, 2, none⟩) R24.out (fun _ o_ => o_.2.1) _) (by simp [World.setCell])⟩⟩
           ·rw [if_neg hl] at H; cases H
         ·rw [if_neg hm] at H; cases H
      ·rw [if_neg hs] at HR
       have A3 : Aside0 (prTake L n1 3 ⟨#[59]⟩ false) := ⟨.inr ⟨rfl, hs⟩⟩
       clear hs
       obtain rfl := Option.some.inj HR
       obtain rfl := Option.some.inj HG
       simp only [Option.some.injEq, Prod.mk.injEq] at h
       obtain ⟨h1_, h2_, h3_, h4_, h5_⟩ := h
       subst h1_ h2_ h3_ h4_ h5_
       clear HR HG
       have e1 : ((0 : Int) != 0) = false := rfl
       go_enter_defers Try.func10, Try.ntmps10
       go_wp2_with (first | ((with_reducible refine gate_dst (N := 2) rfl ?_); refine box_event rfl (N := 2) rfl (cs := #[.int .i64 0, .int .i64 0, .slice none 0 0]) (t := 27) (by first | (go_simp; done) | (go_simp; rfl)) ?_; intro b2 hg w1 hbox hb; have E2 := am hg; have B2a := am hbox; have HB1 := am hb; clear hbox hb hg) | ((with_reducible refine gate_dst (N := 3) rfl ?_); refine box_event rfl (N := 3) rfl (cs := #[.int .i64 0]) (t := 28) (by first | (go_simp; done) | (go_simp; rfl)) ?_; intro b3 hg w2 hbox hb; have E3 := am hg; have B3a := am hbox; have B2b := am (blk_below B2a.out hb); have HB2 := am (HB1.out.trans (hb.mono HB1.out.size)); clear B2a; clear hbox hb hg) | ((with_reducible refine gate_dst (N := 4) rfl ?_); refine box_event rfl (N := 4) rfl (cs := #[.int .i64 0]) (t := 3) (by first | (go_simp; done) | (go_simp; rfl)) ?_; intro b4 hg w3 hbox hb; have E4 := am hg; have B4c := am hbox; have B2c := am (blk_below B2b.out hb); have B3c := am (blk_below B3a.out hb); have HB3 := am (HB2.out.trans (hb.mono HB2.out.size)); clear B2b B3a; clear hbox hb hg) | (go_at_call 13; (refine (lex_All.calls k a0 L _ _ w3 HLX.out).mono ?_); rintro e w4 ⟨v0, rfl, hR, hb⟩; obtain ⟨A0, c0, rfl⟩ := Kd.R_slice hR; have PB4 : Aside0 (PBlks b2 b3 b4 0 0 (.slice none 0 0) 0 0 w4) := ⟨⟨blk_below B2c.out hb, blk_below B3c.out hb, blk_below B4c.out hb⟩⟩; have HR4 := am (Kd.R_bound hR); have HB4 := am (HB3.out.trans (hb.mono HB3.out.size)); have S3 := am hb.size; have X2 : Aside0 (b2 < w3.heap.size) := ⟨blk_lt B2c.out⟩; have X3 : Aside0 (b3 < w3.heap.size) := ⟨blk_lt B3c.out⟩; have X4 : Aside0 (b4 < w3.heap.size) := ⟨blk_lt B4c.out⟩; clear hR hb B2c B3c B4c; have i20 := (blk_cell PB4.out.c2 0).trans (show _ = some (.int .i64 0 : Value) from rfl); have i21 := (blk_cell PB4.out.c2 1).trans (show _ = some (.int .i64 0 : Value) from rfl); have i22 := (blk_cell PB4.out.c2 2).trans (show _ = some (.slice none 0 0 : Value) from rfl); have i3 := (blk_cell PB4.out.c3 0).trans (show _ = some (.int .i64 0 : Value) from rfl); have i4 := (blk_cell PB4.out.c4 0).trans (show _ = some (.int .i64 0 : Value) from rfl); have k20 := blk_frozen PB4.out.c2 0; have k21 := blk_frozen PB4.out.c2 1; have k22 := blk_frozen PB4.out.c2 2; have k3 := blk_frozen PB4.out.c3 0; have k4 := blk_frozen PB4.out.c4 0; have n23 := PB4.out.ne.1; have n24 := PB4.out.ne.2.1; have n34 := PB4.out.ne.2.2; have n32 := Ne.symm n23; have n42 := Ne.symm n24; have n43 := Ne.symm n34; have M2 : Aside0 (w.heap.size ≤ b2) := ⟨by rw [E2.out]; exact Nat.le_refl _⟩; have M3 : Aside0 (w.heap.size ≤ b3) := ⟨by rw [E3.out]; exact HB1.out.size⟩; have M4 : Aside0 (w.heap.size ≤ b4) := ⟨by rw [E4.out]; exact HB2.out.size⟩) | ((with_reducible refine gate_dst (N := 21) rfl ?_); refine box_event rfl (N := 21) rfl (cs := #[.slice A0 L.length c0, .int .i64 0]) (t := 52) (by first | (go_simp; done) | (go_simp; rfl)) ?_; intro g hg w5 hbox hb; obtain ⟨w0, E0⟩ : ∃ w0 : World, w0 = ((w4.setCell ⟨b3, 0, none⟩ (.int .i64 0)).setCell ⟨b4, 0, none⟩ (.int .i64 p)) := ⟨_, rfl⟩; rw [← E0] at hb hg; have KC : Aside0 (Kd.C k39 w0 A0 L.length L) := ⟨by rw [E0]; exact (Kd.R_reads' (Kd.R_far (p := ⟨b4, 0, none⟩) (Kd.R_far (p := ⟨b3, 0, none⟩) HR4.out (fun k_ h_ => by have := X3.out; have := h_.2.1; show k_ ≠ b3; omega) _) (fun k_ h_ => by have := X4.out; have := h_.2.1; show k_ ≠ b4; omega) _)).2.2⟩; have L5 : Aside0 (IsRd w0 w5 g L 0) := ⟨⟨A0, c0, hbox, by rw [hg]; exact Nat.le_refl _, KC.out, hb⟩⟩; have PB5 : Aside0 (PBlks b2 b3 b4 0 0 (.slice none 0 0) 0 p w5) := ⟨by refine PBlks.below ?_ hb; rw [E0]; exact ⟨blk_far (blk_far PB4.out.c2 (p := ⟨b3, 0, none⟩) n23 _) (p := ⟨b4, 0, none⟩) n24 _, blk_far (blk_put PB4.out.c3 0 _ rfl) (p := ⟨b4, 0, none⟩) n34 _, blk_put (blk_far PB4.out.c4 (p := ⟨b3, 0, none⟩) n43 _) 0 _ rfl⟩⟩; have HB0 : Aside0 (Below w.heap.size w w0) := ⟨by rw [E0]; exact (HB4.out.setCell (p := ⟨b3, 0, none⟩) (by show _ ≤ b3; rw [E3.out]; exact HB1.out.size) _).setCell (p := ⟨b4, 0, none⟩) (by show _ ≤ b4; rw [E4.out]; exact HB2.out.size) _⟩; have PB0 : Aside0 (PBlks b2 b3 b4 0 0 (.slice none 0 0) 0 p w0) := ⟨by rw [E0]; exact ⟨blk_far (blk_far PB4.out.c2 (p := ⟨b3, 0, none⟩) n23 _) (p := ⟨b4, 0, none⟩) n24 _, blk_far (blk_put PB4.out.c3 0 _ rfl) (p := ⟨b4, 0, none⟩) n34 _, blk_put (blk_far PB4.out.c4 (p := ⟨b3, 0, none⟩) n43 _) 0 _ rfl⟩⟩; have HB5 := am (HB0.out.trans (hb.mono HB0.out.size)); have O5 := am (One.refl g w5); have G2 : Aside0 (b2 ≠ g) := ⟨by have := blk_lt PB0.out.c2; omega⟩; have G3 : Aside0 (b3 ≠ g) := ⟨by have := blk_lt PB0.out.c3; omega⟩; have G4 : Aside0 (b4 ≠ g) := ⟨by have := blk_lt PB0.out.c4; omega⟩; have GW : Aside0 (w.heap.size ≤ g) := ⟨by have := HB0.out.size; omega⟩; clear PB4 HR4 KC E0 HB4 S3 i20 i21 i22 i3 i4 k20 k21 k22 k3 k4; have q5 := L5.out.c1; have r5 := L5.out.fr 1; clear hbox hb hg) | (go_at_call 16; (refine (parse_reader_take.calls g L 0 1 ⟨#[100, 101, 102, 97, 117, 108, 116]⟩ true _ _ L5.out z0 z1 A1.out).mono ?_); rintro e w6 ⟨rfl, hR0_, hO_⟩; have hR_ : IsRd _ w6 g L (wrap64 (0 + 1)) := hR0_; clear hR0_; have L6 := am (hR_); have O6 := am (One.trans O5.out hO_); clear L5 O5 q5 r5; have q6 := L6.out.c1; have r6 := L6.out.fr 1; clear hO_ hR_) | (go_at_call 18; (refine (parse_reader_act.calls g L (wrap64 (0 + 1)) true _ _ _ L6.out A2.out).mono ?_); rintro e w7 ⟨hO_, he, hR_⟩; obtain rfl : e = .returned (.agg #[.int .i64 kd, .int .i64 ar]) := he; have L7 := am (hR_); have O7 := am (One.trans O6.out hO_); clear L6 O6 q6 r6; have q7 := L7.out.c1; have r7 := L7.out.fr 1; clear hO_ hR_; have PB7 : Aside0 (PBlks b2 b3 b4 0 0 (.slice none 0 0) 0 p w7) := ⟨PB5.out.one O7.out G2.out G3.out G4.out⟩; have HB7 := am (O7.out.toBelow HB5.out HB5.out.size GW.out); have LB : Aside0 (IsRd ((w0.setCell ⟨b2, 0, none⟩ (.int .i64 kd)).setCell ⟨b2, 1, none⟩ (.int .i64 ar)) ((w7.setCell ⟨b2, 0, none⟩ (.int .i64 kd)).setCell ⟨b2, 1, none⟩ (.int .i64 ar)) g L n1) := ⟨IsRd.both (IsRd.both L7.out HLL.out PB0.out.c2 0 _) HLL.out (blk_put PB0.out.c2 0 _ rfl) 1 _⟩; have OB : Aside0 (One g ((w7.setCell ⟨b2, 0, none⟩ (.int .i64 kd)).setCell ⟨b2, 1, none⟩ (.int .i64 ar)) ((w7.setCell ⟨b2, 0, none⟩ (.int .i64 kd)).setCell ⟨b2, 1, none⟩ (.int .i64 ar))) := ⟨One.refl _ _⟩; have PBB : Aside0 (PBlks b2 b3 b4 kd ar (.slice none 0 0) 0 p ((w7.setCell ⟨b2, 0, none⟩ (.int .i64 kd)).setCell ⟨b2, 1, none⟩ (.int .i64 ar))) := ⟨PB7.out.set2 kd ar⟩; have HBB : Aside0 (Below w.heap.size w ((w7.setCell ⟨b2, 0, none⟩ (.int .i64 kd)).setCell ⟨b2, 1, none⟩ (.int .i64 ar))) := ⟨below_set (below_set HB7.out M2.out) M2.out⟩; have PC0 : Aside0 (PBlks b2 b3 b4 kd ar (.slice none 0 0) 0 p ((w0.setCell ⟨b2, 0, none⟩ (.int .i64 kd)).setCell ⟨b2, 1, none⟩ (.int .i64 ar))) := ⟨PB0.out.set2 kd ar⟩; have j20 := (blk_cell PB7.out.c2 0).trans (show _ = some (.int .i64 0 : Value) from rfl); have j21 := (blk_cell PB7.out.c2 1).trans (show _ = some (.int .i64 0 : Value) from rfl); have l2 := fun j => blk_frozen PB7.out.c2 j; have v6 := (blk_cell (PBB.out.c2) 0).trans (show _ = some (.int .i64 kd : Value) from rfl); clear v6) | (go_at_call 16; (refine (parse_reader_take.calls g L n1 3 ⟨#[59]⟩ false _ _ LB.out h2 h3 A3.out).mono ?_); rintro e w8 ⟨rfl, hR0_, hO_⟩; have hR_ : IsRd _ w8 g L n1 := hR0_; clear hR0_; have L8 := am (hR_); have O8 := am (One.trans OB.out hO_); clear LB OB q7 r7 j20 j21 l2; have q8 := L8.out.c1; have r8 := L8.out.fr 1; clear hO_ hR_) | (go_at_call 17; (refine (parse_reader_fail.calls g L n1 7 _ _ L8.out h2 h3).mono ?_); rintro e w9 ⟨he, hb⟩; obtain rfl : e = .panicked [{ v := .iface 48 (.agg #[.int .i64 7, .int .i64 (rd_T39 L n1).f1]), recovered := false }] := he; have HF := am (One.below O8.out hb); clear hb))
       exact parse_door_bad ⟨rfl, rfl, rfl⟩ (PBB.out.one HF.out G2.out G3.out G4.out) ((HF.out).toBelow HBB.out HBB.out.size GW.out) M2.out M3.out M4.out
     ·rw [if_neg hn] at HR; cases HR
   ·rw [if_neg hd] at HG
    have A1 : Aside0 (prTake L 0 1 ⟨#[100, 101, 102, 97, 117, 108, 116]⟩ false) := ⟨.inr ⟨rfl, hd⟩⟩
    clear hd
    obtain rfl := Option.some.inj HG
    simp only [Option.some.injEq, Prod.mk.injEq] at h
    obtain ⟨h1, h2, h3, h4, h5⟩ := h
    subst h1 h2 h3 h4 h5
    clear HG
    have e1 : ((0 : Int) != 0) = false := rfl
    go_enter_defers Try.func10, Try.ntmps10
    go_wp2_with (first | ((with_reducible refine gate_dst (N := 2) rfl ?_); refine box_event rfl (N := 2) rfl (cs := #[.int .i64 0, .int .i64 0, .slice none 0 0]) (t := 27) (by first | (go_simp; done) | (go_simp; rfl)) ?_; intro b2 hg w1 hbox hb; have E2 := am hg; have B2a := am hbox; have HB1 := am hb; clear hbox hb hg) | ((with_reducible refine gate_dst (N := 3) rfl ?_); refine box_event rfl (N := 3) rfl (cs := #[.int .i64 0]) (t := 28) (by first | (go_simp; done) | (go_simp; rfl)) ?_; intro b3 hg w2 hbox hb; have E3 := am hg; have B3a := am hbox; have B2b := am (blk_below B2a.out hb); have HB2 := am (HB1.out.trans (hb.mono HB1.out.size)); clear B2a; clear hbox hb hg) | ((with_reducible refine gate_dst (N := 4) rfl ?_); refine box_event rfl (N := 4) rfl (cs := #[.int .i64 0]) (t := 3) (by first | (go_simp; done) | (go_simp; rfl)) ?_; intro b4 hg w3 hbox hb; have E4 := am hg; have B4c := am hbox; have B2c := am (blk_below B2b.out hb); have B3c := am (blk_below B3a.out hb); have HB3 := am (HB2.out.trans (hb.mono HB2.out.size)); clear B2b B3a; clear hbox hb hg) | (go_at_call 13; (refine (lex_All.calls k a0 L _ _ w3 HLX.out).mono ?_); rintro e w4 ⟨v0, rfl, hR, hb⟩; obtain ⟨A0, c0, rfl⟩ := Kd.R_slice hR; have PB4 : Aside0 (PBlks b2 b3 b4 0 0 (.slice none 0 0) 0 0 w4) := ⟨⟨blk_below B2c.out hb, blk_below B3c.out hb, blk_below B4c.out hb⟩⟩; have HR4 := am (Kd.R_bound hR); have HB4 := am (HB3.out.trans (hb.mono HB3.out.size)); have S3 := am hb.size; have X2 : Aside0 (b2 < w3.heap.size) := ⟨blk_lt B2c.out⟩; have X3 : Aside0 (b3 < w3.heap.size) := ⟨blk_lt B3c.out⟩; have X4 : Aside0 (b4 < w3.heap.size) := ⟨blk_lt B4c.out⟩; clear hR hb B2c B3c B4c; have i20 := (blk_cell PB4.out.c2 0).trans (show _ = some (.int .i64 0 : Value) from rfl); have i21 := (blk_cell PB4.out.c2 1).trans (show _ = some (.int .i64 0 : Value) from rfl); have i22 := (blk_cell PB4.out.c2 2).trans (show _ = some (.slice none 0 0 : Value) from rfl); have i3 := (blk_cell PB4.out.c3 0).trans (show _ = some (.int .i64 0 : Value) from rfl); have i4 := (blk_cell PB4.out.c4 0).trans (show _ = some (.int .i64 0 : Value) from rfl); have k20 := blk_frozen PB4.out.c2 0; have k21 := blk_frozen PB4.out.c2 1; have k22 := blk_frozen PB4.out.c2 2; have k3 := blk_frozen PB4.out.c3 0; have k4 := blk_frozen PB4.out.c4 0; have n23 := PB4.out.ne.1; have n24 := PB4.out.ne.2.1; have n34 := PB4.out.ne.2.2; have n32 := Ne.symm n23; have n42 := Ne.symm n24; have n43 := Ne.symm n34; have M2 : Aside0 (w.heap.size ≤ b2) := ⟨by rw [E2.out]; exact Nat.le_refl _⟩; have M3 : Aside0 (w.heap.size ≤ b3) := ⟨by rw [E3.out]; exact HB1.out.size⟩; have M4 : Aside0 (w.heap.size ≤ b4) := ⟨by rw [E4.out]; exact HB2.out.size⟩) | ((with_reducible refine gate_dst (N := 21) rfl ?_); refine box_event rfl (N := 21) rfl (cs := #[.slice A0 L.length c0, .int .i64 0]) (t := 52) (by first | (go_simp; done) | (go_simp; rfl)) ?_; intro g hg w5 hbox hb; obtain ⟨w0, E0⟩ : ∃ w0 : World, w0 = ((w4.setCell ⟨b3, 0, none⟩ (.int .i64 0)).setCell ⟨b4, 0, none⟩ (.int .i64 p)) := ⟨_, rfl⟩; rw [← E0] at hb hg; have KC : Aside0 (Kd.C k39 w0 A0 L.length L) := ⟨by rw [E0]; exact (Kd.R_reads' (Kd.R_far (p := ⟨b4, 0, none⟩) (Kd.R_far (p := ⟨b3, 0, none⟩) HR4.out (fun k_ h_ => by have := X3.out; have := h_.2.1; show k_ ≠ b3; omega) _) (fun k_ h_ => by have := X4.out; have := h_.2.1; show k_ ≠ b4; omega) _)).2.2⟩; have L5 : Aside0 (IsRd w0 w5 g L 0) := ⟨⟨A0, c0, hbox, by rw [hg]; exact Nat.le_refl _, KC.out, hb⟩⟩; have PB5 : Aside0 (PBlks b2 b3 b4 0 0 (.slice none 0 0) 0 p w5) := ⟨by refine PBlks.below ?_ hb; rw [E0]; exact ⟨blk_far (blk_far PB4.out.c2 (p := ⟨b3, 0, none⟩) n23 _) (p := ⟨b4, 0, none⟩) n24 _, blk_far (blk_put PB4.out.c3 0 _ rfl) (p := ⟨b4, 0, none⟩) n34 _, blk_put (blk_far PB4.out.c4 (p := ⟨b3, 0, none⟩) n43 _) 0 _ rfl⟩⟩; have HB0 : Aside0 (Below w.heap.size w w0) := ⟨by rw [E0]; exact (HB4.out.setCell (p := ⟨b3, 0, none⟩) (by show _ ≤ b3; rw [E3.out]; exact HB1.out.size) _).setCell (p := ⟨b4, 0, none⟩) (by show _ ≤ b4; rw [E4.out]; exact HB2.out.size) _⟩; have PB0 : Aside0 (PBlks b2 b3 b4 0 0 (.slice none 0 0) 0 p w0) := ⟨by rw [E0]; exact ⟨blk_far (blk_far PB4.out.c2 (p := ⟨b3, 0, none⟩) n23 _) (p := ⟨b4, 0, none⟩) n24 _, blk_far (blk_put PB4.out.c3 0 _ rfl) (p := ⟨b4, 0, none⟩) n34 _, blk_put (blk_far PB4.out.c4 (p := ⟨b3, 0, none⟩) n43 _) 0 _ rfl⟩⟩; have HB5 := am (HB0.out.trans (hb.mono HB0.out.size)); have O5 := am (One.refl g w5); have G2 : Aside0 (b2 ≠ g) := ⟨by have := blk_lt PB0.out.c2; omega⟩; have G3 : Aside0 (b3 ≠ g) := ⟨by have := blk_lt PB0.out.c3; omega⟩; have G4 : Aside0 (b4 ≠ g) := ⟨by have := blk_lt PB0.out.c4; omega⟩; have GW : Aside0 (w.heap.size ≤ g) := ⟨by have := HB0.out.size; omega⟩; clear PB4 HR4 KC E0 HB4 S3 i20 i21 i22 i3 i4 k20 k21 k22 k3 k4; have q5 := L5.out.c1; have r5 := L5.out.fr 1; clear hbox hb hg) | (go_at_call 16; (refine (parse_reader_take.calls g L 0 1 ⟨#[100, 101, 102, 97, 117, 108, 116]⟩ false _ _ L5.out z0 z1 A1.out).mono ?_); rintro e w6 ⟨rfl, hR0_, hO_⟩; have hR_ : IsRd _ w6 g L 0 := hR0_; clear hR0_; have L6 := am (hR_); have O6 := am (One.trans O5.out hO_); clear L5 O5 q5 r5; have q6 := L6.out.c1; have r6 := L6.out.fr 1; clear hO_ hR_) | (go_at_call 17; (refine (parse_reader_fail.calls g L 0 7 _ _ L6.out z0 z1).mono ?_); rintro e w9 ⟨he, hb⟩; obtain rfl : e = .panicked [{ v := .iface 48 (.agg #[.int .i64 7, .int .i64 (rd_T39 L 0).f1]), recovered := false }] := he; have HF := am (One.below O6.out hb); clear hb))
    exact parse_door_bad ⟨rfl, rfl, rfl⟩ (PB5.out.one HF.out G2.out G3.out G4.out) ((HF.out).toBelow HB5.out HB5.out.size GW.out) M2.out M3.out M4.out
  ·rw [if_neg hz] at HG; cases HG
 ·simp only [if_neg he, Option.some.injEq, Prod.mk.injEq] at h
  obtain ⟨h1, h2, h3, h4, h5⟩ := h
  subst h1 h2 h3 h4 h5
  have e1 := bne_iff_ne.mpr he
  go_enter_defers Try.func10, Try.ntmps10
  go_wp2_with (first | ((with_reducible refine gate_dst (N := 2) rfl ?_); refine box_event rfl (N := 2) rfl (cs := #[.int .i64 0, .int .i64 0, .slice none 0 0]) (t := 27) (by first | (go_simp; done) | (go_simp; rfl)) ?_; intro b2 hg w1 hbox hb; have E2 := am hg; have B2a := am hbox; have HB1 := am hb; clear hbox hb hg) | ((with_reducible refine gate_dst (N := 3) rfl ?_); refine box_event rfl (N := 3) rfl (cs := #[.int .i64 0]) (t := 28) (by first | (go_simp; done) | (go_simp; rfl)) ?_; intro b3 hg w2 hbox hb; have E3 := am hg; have B3a := am hbox; have B2b := am (blk_below B2a.out hb); have HB2 := am (HB1.out.trans (hb.mono HB1.out.size)); clear B2a; clear hbox hb hg) | ((with_reducible refine gate_dst (N := 4) rfl ?_); refine box_event rfl (N := 4) rfl (cs := #[.int .i64 0]) (t := 3) (by first | (go_simp; done) | (go_simp; rfl)) ?_; intro b4 hg w3 hbox hb; have E4 := am hg; have B4c := am hbox; have B2c := am (blk_below B2b.out hb); have B3c := am (blk_below B3a.out hb); have HB3 := am (HB2.out.trans (hb.mono HB2.out.size)); clear B2b B3a; clear hbox hb hg) | (go_at_call 13; (refine (lex_All.calls k a0 L _ _ w3 HLX.out).mono ?_); rintro e w4 ⟨v0, rfl, hR, hb⟩; obtain ⟨A0, c0, rfl⟩ := Kd.R_slice hR; have PB4 : Aside0 (PBlks b2 b3 b4 0 0 (.slice none 0 0) 0 0 w4) := ⟨⟨blk_below B2c.out hb, blk_below B3c.out hb, blk_below B4c.out hb⟩⟩; have HR4 := am (Kd.R_bound hR); have HB4 := am (HB3.out.trans (hb.mono HB3.out.size)); have S3 := am hb.size; have X2 : Aside0 (b2 < w3.heap.size) := ⟨blk_lt B2c.out⟩; have X3 : Aside0 (b3 < w3.heap.size) := ⟨blk_lt B3c.out⟩; have X4 : Aside0 (b4 < w3.heap.size) := ⟨blk_lt B4c.out⟩; clear hR hb B2c B3c B4c; have i20 := (blk_cell PB4.out.c2 0).trans (show _ = some (.int .i64 0 : Value) from rfl); have i21 := (blk_cell PB4.out.c2 1).trans (show _ = some (.int .i64 0 : Value) from rfl); have i22 := (blk_cell PB4.out.c2 2).trans (show _ = some (.slice none 0 0 : Value) from rfl); have i3 := (blk_cell PB4.out.c3 0).trans (show _ = some (.int .i64 0 : Value) from rfl); have i4 := (blk_cell PB4.out.c4 0).trans (show _ = some (.int .i64 0 : Value) from rfl); have k20 := blk_frozen PB4.out.c2 0; have k21 := blk_frozen PB4.out.c2 1; have k22 := blk_frozen PB4.out.c2 2; have k3 := blk_frozen PB4.out.c3 0; have k4 := blk_frozen PB4.out.c4 0; have n23 := PB4.out.ne.1; have n24 := PB4.out.ne.2.1; have n34 := PB4.out.ne.2.2; have n32 := Ne.symm n23; have n42 := Ne.symm n24; have n43 := Ne.symm n34; have M2 : Aside0 (w.heap.size ≤ b2) := ⟨by rw [E2.out]; exact Nat.le_refl _⟩; have M3 : Aside0 (w.heap.size ≤ b3) := ⟨by rw [E3.out]; exact HB1.out.size⟩; have M4 : Aside0 (w.heap.size ≤ b4) := ⟨by rw [E4.out]; exact HB2.out.size⟩))
  obtain ⟨w0, E0⟩ : ∃ w0 : World, w0 = ((w4.setCell ⟨b3, 0, none⟩ (.int .i64 er)).setCell ⟨b4, 0, none⟩ (.int .i64 p)) := ⟨_, rfl⟩
  rw [← E0]
  have PB0 : Aside0 (PBlks b2 b3 b4 0 0 (.slice none 0 0) er p w0) := ⟨by rw [E0]; exact (PB4.out.setE er).setP p⟩
  have HB0 : Aside0 (Below w.heap.size w w0) := ⟨by rw [E0]; exact (HB4.out.setCell (p := ⟨b3, 0, none⟩) M3.out _).setCell (p := ⟨b4, 0, none⟩) M4.out _⟩
  clear E0 PB4 HB4 HR4 i20 i21 i22 i3 i4 k20 k21 k22 k3 k4
  have i20 := (blk_cell PB0.out.c2 0).trans (show _ = some (.int .i64 0 : Value) from rfl)
  have i21 := (blk_cell PB0.out.c2 1).trans (show _ = some (.int .i64 0 : Value) from rfl)
  have i22 := (blk_cell PB0.out.c2 2).trans (show _ = some (.slice none 0 0 : Value) from rfl)
  have i3 := (blk_cell PB0.out.c3 0).trans (show _ = some (.int .i64 er : Value) from rfl)
  have i4 := (blk_cell PB0.out.c4 0).trans (show _ = some (.int .i64 p : Value) from rfl)
  have k2 := fun j => blk_frozen PB0.out.c2 j
  have k3 := fun j => blk_frozen PB0.out.c3 j
  have k4 := fun j => blk_frozen PB0.out.c4 j
  go_region_held3 (fun w' => w'.cell? ⟨b3, 0, none⟩ = some (.int .i64 er) ∧ w'.cell? ⟨b4, 0, none⟩ = some (.int .i64 p)) (first | with_reducible exact PB0.out.ep0 | with_reducible exact PB0.out.ep3 | with_reducible exact PB0.out.ep4 | with_reducible exact PB0.out.ep5) (fail)
  go_wp2
  show Leaves _ _ _ _ [] .returning _
  exact parse_door_early ⟨rfl, rfl, rfl⟩ ((((PB0.out.set3 0 0 (.slice none 0 0)).setE er).setP p).drew) (Kd.S_nil _ _ _ _ _) (below_drew1 (below_set5 HB0.out M2.out M3.out M4.out _ _ _ _ _))
end Go.Proofs.Ytfahchgglapglaa.M
