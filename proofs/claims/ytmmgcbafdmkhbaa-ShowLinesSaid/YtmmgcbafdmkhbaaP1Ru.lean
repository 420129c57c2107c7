import Derived.Test.YtmmgcbafdmkhbaaP1Wd
import Derived.Deep.MidRow
namespace Go.Proofs.Ytmmgcbafdmkhbaa.M
open Go Go.RowKit Go.Proofs.YtmmgcbafdmkhbaaW.PrintWords Go.Proofs.YtmmgcbafdmkhbaaW.PrintLast Go.Proofs.YtmmgcbafdmkhbaaW.PrintMore Go.Proofs
set_option linter.unusedVariables false
set_option linter.unusedSimpArgs false
theorem condw_size (T : Nat → Int) (c : S39) (h0 : 0 ≤ c.f0 ∧ c.f0 ≤ 5) (h2 : 0 ≤ c.f2 ∧ c.f2 ≤ 18446744073709551615) (h3 : 0 ≤ c.f3 ∧ c.f3 ≤ 18446744073709551615) : (CONDW T c).size ≤ 80 := by
  have a := num_size T c.f0.toNat (by omega)
  have b := num_size T c.f2.toNat (by omega)
  have d := num_size T c.f3.toNat (by omega)
  have s : (SIGN c.f1).size ≤ 2 := by unfold SIGN; (repeat' split) <;> (rw [bs_size]; decide)
  have p : (CONDA T c).size ≤ 46 := by
    unfold CONDA
    split <;> simp only [ByteArray.size_append, bs_size, List.length_cons, List.length_nil] <;> omega
  unfold CONDW
  simp only [ByteArray.size_append, bs_size, List.length_cons, List.length_nil]
  omega
theorem actw_size (T : Nat → Int) (k a : Int) (ha : 0 ≤ a ∧ a ≤ 65535) : (ACTW T k a).size ≤ 30 := by
  have n := num_size T a.toNat (by omega)
  have s : (AWORD k).size ≤ 6 := by unfold AWORD; (repeat' split) <;> (rw [bs_size]; decide)
  unfold ACTW
  split <;> (try simp only [ByteArray.size_append, bs_size, List.length_cons, List.length_nil]) <;> omega
/-- A text with conditions' words behind it, the i-th next. -/
def RCON (T : Nat → Int) : Nat → ByteArray → List S39 → ByteArray
  | _, s, [] => s
  | i, s, c :: r => RCON T (i + 1) ((if i = 0 then s ++ bs [32, 119, 104, 101, 110, 32] else s ++ bs [32, 97, 110, 100, 32]) ++ CONDW T c) r
def JOINW (l : List ByteArray) : ByteArray := ⟨(Lib.join (l.map (·.data.toList)) (⟨#[44, 32]⟩ : ByteArray).data.toList).toArray⟩
/-- A rule's words. -/
def RULEW (T : Nat → Int) (x : S42) : ByteArray := RCON T 0 (ACTW T x.f0.f0 x.f0.f1 ++ bs [32] ++ JOINW x.f1) x.f2
theorem str_cells {w : World} {A : Option Addr} {n : Nat} {l : List ByteArray} (h : Kd.C Kd.string w A n l) (hn : 0 < n) : ∃ bk o, A = some ⟨bk, o, none⟩ ∧ bk < w.heap.size ∧ ∀ (j : Nat) x, l[j]? = some x → w.cell? ⟨bk, o + j, none⟩ = some (.string x) := by
  have hl : l.length = n := h.1
  obtain ⟨ad, c0, e, _, hK0, hc0⟩ := Kd.C_get h ByteArray.empty 0 (Int.le_refl _) (by omega)
  have hget : ∀ j : Nat, j < n → w.cell? (ad.add j) = some (.string (l.getD j ByteArray.empty)) := fun j hj => by
    obtain ⟨ad2, c, e2, _, hK, hc⟩ := Kd.C_get h ByteArray.empty (j : Int) (by omega) (by omega)
    rw [e] at e2
    cases e2
    have hc1 : c = [.string (l.getD (j : Int).toNat ByteArray.empty)] := hK
    have := hc 0 _ (by rw [hc1]; rfl)
    rw [Int.toNat_natCast] at this
    have e3 : ad.add (j * Kd.string.sz + 0) = ad.add j := by show ad.add (j * 1 + 0) = ad.add j; rw [Nat.mul_one]; rfl
    rw [e3] at this
    exact this
  obtain ⟨bk, o, sp⟩ := ad
  have h0 := hget 0 hn
  have hsp : sp = none := by
    cases sp with
    | none => rfl
    | some s => exfalso; simp [World.cell?, Addr.add] at h0; split at h0 <;> simp at h0
  subst hsp
  refine ⟨bk, o, e, World.block_lt_of_cell? w _ h0, fun j x hj => ?_⟩
  have hj' : j < n := by have := (List.getElem?_eq_some_iff.1 hj).1; omega
  have := hget j hj'
  rw [List.getD_eq_getElem?_getD, hj, Lib.add_plain] at this
  exact this
theorem op_load_two {P : Program} {o : Oper} {ev : Operand → Value} {w : World} (ty : TypeId) (x : Operand) (ho : o.op = .load ty x) (g : Nat) (hx : ev x = .pointer (some ⟨g, 0, none⟩)) (u v : Value) (h0 : w.cell? ⟨g, 0, none⟩ = some u) (h1 : w.cell? ⟨g, 1, none⟩ = some v) (d : TypeDesc)
    (hu : P.underlying ty = some d) (hd : d.isRow = true) (hi : (P.info? ty).map (·.size) = some 2) : (execOp ev o).run P w = .ok (.value (.agg #[u, v])) w := by
  have hc : w.rangeAt g 0 [u, v] := fun j y hj => by
    match j, hj with
    | 0, hj => simp at hj; subst hj; exact h0
    | 1, hj => simp at hj; subst hj; exact h1
  unfold execOp
  simp only [ho, hx, Instr.loadAt, Instr.sureAddr, Sem.run_bind, Sem.run_pure, Result.andThen_ok, run_loadVar_mid w g 0 ty [u, v] d hc hu hd hi]
/-- A call's box, in a block that it made. -/
structure BW (w w' : World) (cs : Array Value) (t : Nat) : Prop where
  below : Below w.heap.size w w'
  box : w'.heap[w.heap.size]? = some (.cells cs t (0, 0))
theorem BW.init (w : World) (cs : Array Value) (t : Nat) : BW w (w.alloc (.cells cs t)) cs t := ⟨below_alloc (Below.refl _ _) _, blk_new _ _⟩
theorem BW.step {w w1 w2 : World} {cs : Array Value} {t : Nat} (h : BW w w1 cs t) (hb : Below w1.heap.size w1 w2) : BW w w2 cs t := ⟨below_step h.below hb, (hb.block _ (blk_lt h.box)).trans h.box⟩
theorem BW.drew {w w1 : World} {cs : Array Value} {t : Nat} (h : BW w w1 cs t) : BW w w1.drew cs t := h.step (below_drew (Below.refl _ _))
theorem BW.alloc {w w1 : World} {cs : Array Value} {t : Nat} (h : BW w w1 cs t) (o : Obj) : BW w (w1.alloc o) cs t := h.step (below_alloc (Below.refl _ _) _)
theorem BW.tb {w w1 : World} {cs : Array Value} {t : Nat} (h : BW w w1 cs t) {T : Nat → Int} (ht : TB w T) : TB w1 T := ht.below h.below ht.pos
theorem BW.cell {w w1 : World} {cs : Array Value} {t : Nat} (h : BW w w1 cs t) (i : Nat) : w1.cell? ⟨w.heap.size, i, none⟩ = cs[i]? := blk_cell h.box i
def CondOk (c : S39) : Prop := (0 ≤ c.f0 ∧ c.f0 ≤ 5) ∧ (1 ≤ c.f1 ∧ c.f1 ≤ 6) ∧ (0 ≤ c.f2 ∧ c.f2 ≤ 18446744073709551615) ∧ (0 ≤ c.f3 ∧ c.f3 ≤ 18446744073709551615)
theorem drop_rd39 (l : List S39) (i : Nat) (h : i < l.length) : l.drop i = rd_T39 l i :: l.drop (i + 1) := by
  rw [List.drop_eq_getElem_cons h]
  unfold rd_T39
  rw [Int.toNat_natCast, List.getD_eq_getElem?_getD, List.getElem?_eq_getElem h]
  rfl
theorem rd39_mem (l : List S39) (i : Nat) (h : i < l.length) : rd_T39 l i ∈ l := by
  unfold rd_T39
  rw [Int.toNat_natCast, List.getD_eq_getElem?_getD, List.getElem?_eq_getElem h]
  exact List.getElem_mem h
set_option maxHeartbeats 8000000 in
set_option maxRecDepth 100000 in
theorem rule_words (x : S42) (A1 : Option Addr) (c1 : Nat) (A2 : Option Addr) (c2 : Nat) (hk : 1 ≤ x.f0.f0 ∧ x.f0.f0 ≤ 8) (ha : 0 ≤ x.f0.f1 ∧ x.f0.f1 ≤ 65535) (w : World) (hr1 : Kd.C Kd.string w A1 x.f1.length x.f1) (hc1 : x.f1.length ≤ c1) (hr2 : Kd.C k39 w A2 x.f2.length x.f2) (hc2 : x.f2.length ≤ c2) (hn : 1 ≤ x.f1.length ∧ x.f1.length ≤ 16) (hj : (JOINW x.f1).size ≤ 100000) (hcl : x.f2.length ≤ 8) (hco : ∀ c ∈ x.f2, CondOk c) (T : Nat → Int) (ht : TB w T) :
    Calls Try.prog 85 #[.agg #[.int .i64 x.f0.f0, .int .i64 x.f0.f1, .slice A1 x.f1.length c1, .slice A2 x.f2.length c2]] w fun e w' => e = .returned (.string (RULEW T x)) ∧ Below w.heap.size w w' := by
  obtain ⟨⟨k, a⟩, names, conds⟩ := x
  simp only at hk ha hr1 hc1 hr2 hc2 hn hj hcl hco ⊢
  have HT := Aside0.mk ht
  have HK := Aside0.mk hk
  have HA := Aside0.mk ha
  obtain ⟨bk, o, rfl, hbk, hcells⟩ := str_cells hr1 (by omega)
  have HN := Aside0.mk hn
  have HC1 := Aside0.mk hc1
  have HCE := Aside0.mk hcells
  have HBK := Aside0.mk hbk
  have HC := Aside0.mk hr2
  have HCL := Aside0.mk hcl
  have HCO := Aside0.mk hco
  have hu45 := Try.underlying45
  have hu23 := Try.underlying23
  have hu39 := Try.underlying39
  obtain ⟨AW, hAW⟩ : ∃ AW, AW = ACTW T k a := ⟨_, rfl⟩
  have haz : AW.size ≤ 30 := by rw [hAW]; exact actw_size T k a ha
  have HAW := Aside0.mk hAW
  obtain ⟨JW, hJW⟩ : ∃ JW, JW = JOINW names := ⟨_, rfl⟩
  rw [← hJW] at hj
  have HJW := Aside0.mk hJW
  have p1 : ¬ 9223372036854775807 < AW.size + 1 := by omega
  have p2 : ¬ 9223372036854775807 < AW.size + 1 + JW.size := by omega
  have hlen : (Lib.join (names.map (·.data.toList)) (⟨#[44, 32]⟩ : ByteArray).data.toList).length ≤ 140737488355328 := by
    have e : (JOINW names).size = (Lib.join (names.map (·.data.toList)) (⟨#[44, 32]⟩ : ByteArray).data.toList).length := by unfold JOINW; exact bs_size _
    rw [← e, ← hJW]; omega
  have HLEN := Aside0.mk hlen
  clear ht hk ha hr1 hc1 hn hcells hbk hr2 hcl hco hAW hJW hlen
  have HB0 := Aside0.mk (BW.init w #[.int .i64 k, .int .i64 a, .slice (some ⟨bk, o, none⟩) names.length c1, .slice A2 conds.length c2] 45)
  have z0 := (HB0.out.cell 0).trans (show _ = some (.int .i64 k : Value) from rfl)
  have z1 := (HB0.out.cell 1).trans (show _ = some (.int .i64 a : Value) from rfl)
  have z2 := (HB0.out.cell 2).trans (show _ = some (.slice (some ⟨bk, o, none⟩) names.length c1 : Value) from rfl)
  go_enter Try.func85, Try.ntmps85
  go_wp2
  refine start_ (n := 9) (S := fun w' => w'.cell? ⟨w.heap.size, 0, none⟩ = some (.int .i64 k) ∧ w'.cell? ⟨w.heap.size, 1, none⟩ = some (.int .i64 a) ∧ w'.cell? ⟨w.heap.size, 2, none⟩ = some (.slice (some ⟨bk, o, none⟩) names.length c1)) (ds := []) #[false, false, false, false, false, false, false, false, false] (by kernel_rfl) rfl rfl ⟨z0, z1, z2⟩ (fun hHeld => ?_)
  refine pure_ (i := 0) (N := some 6) (v := ?_) (a' := ?_) #[true, false, false, false, false, false, false, false, false] rfl rfl (by kernel_rfl) (fun _ _ _ h => h) (Or.inl ⟨by rfl, ?_⟩) ?_ ?_
  rotate_left
  · intro w'
    go_simp
    with_reducible rfl
  rotate_left
  · simp only [Act.put, List.setIfInBounds_toArray, List.set_cons_zero, List.set_cons_succ, i64_w, i32_w]
    rfl
  refine pure_ (i := 4) (N := some 10) (v := ?_) (a' := ?_) #[true, false, false, false, true, false, false, false, false] rfl rfl (by kernel_rfl) (fun _ _ _ h => h) (Or.inl ⟨by rfl, ?_⟩) ?_ ?_
  rotate_left
  · intro w'
    go_simp
    with_reducible rfl
  rotate_left
  · simp only [Act.put, List.setIfInBounds_toArray, List.set_cons_zero, List.set_cons_succ, i64_w, i32_w]
    rfl
  refine take_ (i := 1) (N := some 7) (v := ?_) (a' := ?_) #[true, true, false, false, true, false, false, false, false] rfl rfl (by kernel_rfl) (fun _ _ _ h => h) (Or.inl ⟨by rfl, ?_⟩) hHeld ?_ ?_
  rotate_left
  · rintro w' ⟨s0, s1, s2⟩
    refine Eq.trans (op_load_two 23 (.tmp 6) (by rfl) w.heap.size (by rfl) (.int .i64 k) (.int .i64 a) s0 s1 _ hu23 rfl (by kernel_rfl)) ?_
    with_reducible rfl
  rotate_left
  · simp only [Act.put, List.setIfInBounds_toArray, List.set_cons_zero, List.set_cons_succ, i64_w, i32_w]
    rfl
  refine take_ (i := 5) (N := some 11) (v := ?_) (a' := ?_) #[true, true, false, false, true, true, false, false, false] rfl rfl (by kernel_rfl) (fun _ _ _ h => h) (Or.inl ⟨by rfl, ?_⟩) hHeld ?_ ?_
  rotate_left
  · rintro w' ⟨s0, s1, s2⟩
    go_simp
    with_reducible rfl
  rotate_left
  · simp only [Act.put, List.setIfInBounds_toArray, List.set_cons_zero, List.set_cons_succ, i64_w, i32_w]
    rfl
  refine one_ (i := 2) (N := some 8) #[true, true, true, false, true, true, false, false, false] rfl rfl (by kernel_rfl) (by decide) (fun K hK => ?_)
  refine goes_ Try.func70 (by kernel_rfl) rfl #[.agg #[.int .i64 k, .int .i64 a]] (by rfl) rfl rfl (by simp only [List.map_toArray, List.map_cons, List.map_nil]; rfl) ?_
  with_reducible refine (act_words k a HK.out HA.out T _ (HB0.out.drew.tb HT.out)).mono ?_
  rintro e w3 ⟨rfl, hb3⟩
  refine ⟨_, rfl, ?_⟩
  rw [← HAW.out]
  have HB3 := Aside0.mk (HB0.out.drew.step hb3)
  have y0 := (HB3.out.cell 0).trans (show _ = some (.int .i64 k : Value) from rfl)
  have y1 := (HB3.out.cell 1).trans (show _ = some (.int .i64 a : Value) from rfl)
  have y2 := (HB3.out.cell 2).trans (show _ = some (.slice (some ⟨bk, o, none⟩) names.length c1 : Value) from rfl)
  clear hb3
  refine hK.out _ _ ⟨y0, y1, y2⟩ (fun hHeld => ?_)
  clear hK K
  refine norm_ (a' := ?_) ?_ ?_
  rotate_left
  · show Act.put _ (some 8) _ = _
    simp only [Act.put, List.setIfInBounds_toArray, List.set_cons_zero, List.set_cons_succ, i64_w, i32_w]
    rfl
  refine pure_ (i := 3) (N := some 9) (v := ?_) (a' := ?_) #[true, true, true, true, true, true, false, false, false] rfl rfl (by kernel_rfl) (fun _ _ _ h => h) (Or.inl ⟨by rfl, ?_⟩) ?_ ?_
  rotate_left
  · intro w'
    go_simp
    with_reducible rfl
  rotate_left
  · simp only [Act.put, List.setIfInBounds_toArray, List.set_cons_zero, List.set_cons_succ, i64_w, i32_w]
    rfl
  refine one_ (i := 6) (N := some 12) #[true, true, true, true, true, true, true, false, false] rfl rfl (by kernel_rfl) (by decide) (fun K hK => ?_)
  refine goes_ Try.func86 (by kernel_rfl) rfl #[.slice (some ⟨bk, o, none⟩) names.length c1, .string ⟨#[44, 32]⟩] (by rfl) rfl rfl (by simp only [List.map_toArray, List.map_cons, List.map_nil]; rfl) ?_
  with_reducible refine (Try.strings_Join bk o c1 names ⟨#[44, 32]⟩ w3 (fun j x h => pw_cell_below HB3.out.below (HCE.out j x h)) (Nat.lt_of_lt_of_le HBK.out HB3.out.below.size) (by have := HN.out; omega) HC1.out HLEN.out).mono ?_
  rintro e w4 ⟨rfl, hb4⟩
  refine ⟨_, rfl, ?_⟩
  have eJ : (⟨(Lib.join (names.map (·.data.toList)) (⟨#[44, 32]⟩ : ByteArray).data.toList).toArray⟩ : ByteArray) = JW := HJW.out.symm
  rw [eJ]
  clear eJ
  have HB4 := Aside0.mk (HB3.out.step hb4)
  have u0 := (HB4.out.cell 0).trans (show _ = some (.int .i64 k : Value) from rfl)
  have u1 := (HB4.out.cell 1).trans (show _ = some (.int .i64 a : Value) from rfl)
  have u2 := (HB4.out.cell 2).trans (show _ = some (.slice (some ⟨bk, o, none⟩) names.length c1 : Value) from rfl)
  clear hb4
  refine hK.out _ _ ⟨u0, u1, u2⟩ (fun hHeld => ?_)
  clear hK K
  refine norm_ (a' := ?_) ?_ ?_
  rotate_left
  · show Act.put _ (some 12) _ = _
    simp only [Act.put, List.setIfInBounds_toArray, List.set_cons_zero, List.set_cons_succ, i64_w, i32_w]
    rfl
  refine pure_ (i := 7) (N := some 13) (v := ?_) (a' := ?_) #[true, true, true, true, true, true, true, true, false] rfl rfl (by kernel_rfl) (fun _ _ _ h => h) (Or.inl ⟨by rfl, ?_⟩) ?_ ?_
  rotate_left
  · intro w'
    go_simp
    with_reducible rfl
  rotate_left
  · simp only [Act.put, List.setIfInBounds_toArray, List.set_cons_zero, List.set_cons_succ, i64_w, i32_w]
    rfl
  refine pure_ (i := 8) (N := some 3) (v := ?_) (a' := ?_) #[true, true, true, true, true, true, true, true, true] rfl rfl (by kernel_rfl) (fun _ _ _ h => h) (Or.inl ⟨by rfl, ?_⟩) ?_ ?_
  rotate_left
  · intro w'
    go_simp
    with_reducible rfl
  rotate_left
  · simp only [Act.put, List.setIfInBounds_toArray, List.set_cons_zero, List.set_cons_succ, i64_w, i32_w]
    rfl
  refine done_ (by kernel_rfl) ?_
  have HST := Aside0.mk (show RCON T 0 (AW ++ ⟨#[32]⟩ ++ JW) conds = RULEW T ⟨⟨k, a⟩, names, conds⟩ by unfold RULEW; rw [HAW.out, HJW.out]; rfl)
  have hSz : (AW ++ ⟨#[32]⟩ ++ JW).size ≤ 100040 := by simp only [ByteArray.size_append]; have e5 : (⟨#[32]⟩ : ByteArray).size = 1 := rfl; omega
  generalize AW ++ ⟨#[32]⟩ ++ JW = SX at HST hSz ⊢
  have z3 := (HB4.out.cell 3).trans (show _ = some (.slice A2 conds.length c2 : Value) from rfl)
  clear u0 u1 u2 p1 p2
  go_wp2
  go_loopg [3, 17] (conds.length + 1) (fun kq v3 v17 w' => ∃ (s : ByteArray) (i : Int) (j : Nat), v3 = .string s ∧ v17 = .int .i64 i ∧ Aside0 (i = (j : Int)) ∧ Aside0 (j ≤ conds.length) ∧ Aside0 (conds.length - j < kq) ∧ Aside0 (RCON T j s (conds.drop j) = RULEW T ⟨⟨k, a⟩, names, conds⟩) ∧ Aside0 (s.size ≤ 100040 + 90 * j) ∧ Aside0 (BW w w' #[.int .i64 k, .int .i64 a, .slice (some ⟨bk, o, none⟩) names.length c1, .slice A2 conds.length c2] 45))
  case atStart => exact ⟨SX, 0, 0, rfl, rfl, ⟨rfl⟩, ⟨Nat.zero_le _⟩, ⟨by omega⟩, HST, ⟨by omega⟩, HB4⟩
  case round =>
    clear HB4 HB3 HB0 HST hSz z3
    obtain ⟨s, i, j, rfl, rfl, hi, hj, hk2, hR, hz, hB⟩ := hrel
    obtain ⟨k2, rfl⟩ : ∃ k2, gk = k2 + 1 := ⟨gk - 1, by have := hk2.out; omega⟩
    by_cases hlt : i < (conds.length : Int)
    · have b1 : decide (i < (conds.length : Int)) = true := decide_eq_true hlt
      have p1 : 0 ≤ i := by have := hi.out; omega
      have hjl : Aside0 (j + 1 ≤ conds.length) := ⟨by have := hi.out; omega⟩
      obtain ⟨ad, e, y0, y1, y2, y3⟩ := at_T39 HC.out i p1 hlt
      cases e
      replace y0 := pw_cell_below hB.out.below y0
      replace y1 := pw_cell_below hB.out.below y1
      replace y2 := pw_cell_below hB.out.below y2
      replace y3 := pw_cell_below hB.out.below y3
      obtain ⟨c, hc⟩ : ∃ c, c = rd_T39 conds i := ⟨_, rfl⟩
      rw [← hc] at y0 y1 y2 y3
      have hcj : c = rd_T39 conds (j : Int) := by rw [hc, hi.out]
      have hco : Aside0 (CondOk c) := ⟨by rw [hcj]; exact HCO.out _ (rd39_mem conds j hjl.out)⟩
      have hcz : (CONDW T c).size ≤ 80 := condw_size T c hco.out.1 hco.out.2.2.1 hco.out.2.2.2
      have hdr : Aside0 (conds.drop j = c :: conds.drop (j + 1)) := ⟨by rw [hcj]; exact drop_rd39 conds j hjl.out⟩
      have hi1 : wrap64 (i + 1) = ((j + 1 : Nat) : Int) := by have := hi.out; have := HCL.out; unfold wrap64; omega
      have hzz : s.size ≤ 200000 := by have := hz.out; have := HCL.out; have := hjl.out; omega
      have hzs : s.size ≤ 100040 + 90 * j := hz.out
      clear hc hcj
      obtain ⟨g0, g1, g2, g3⟩ := hco.out
      have G0 := Aside0.mk g0
      have G1 := Aside0.mk g1
      have G2 := Aside0.mk g2
      have G3 := Aside0.mk g3
      clear g0 g1 g2 g3
      by_cases h0 : i = 0
      · have hj0 : j = 0 := by have := hi.out; omega
        subst h0 hj0
        have ea : ad.add ((0 : Int).toNat * 4) = ad := by show ad.add 0 = ad; exact Addr.add_zero' ad
        rw [ea] at y0 y1 y2 y3
        clear ea
        have q1 : ¬ 9223372036854775807 < s.size + 6 := by omega
        have q2 : ¬ 9223372036854775807 < s.size + 6 + (CONDW T c).size := by omega
        go_wp2_with (first | (go_at_call 87; (with_reducible refine (cond_words c G0.out G1.out G2.out G3.out T _ ((hB.out.tb HT.out).alloc _)).mono ?_); rintro e w5 ⟨rfl, hb5⟩; have HB5 := Aside0.mk ((hB.out.alloc _).step hb5); clear hb5))
        go_roundg k2
        case measure => have := hk2.out; omega
        case rel => exact ⟨s ++ ⟨#[32, 119, 104, 101, 110, 32]⟩ ++ CONDW T c, ((0 + 1 : Nat) : Int), 0 + 1, rfl, by first | rfl | (rw [← hi1]; done) | (simp [hi1]; done), ⟨rfl⟩, ⟨hjl.out⟩, ⟨by have := hk2.out; have := hjl.out; omega⟩, ⟨by rw [← hR.out, hdr.out, RCON, if_pos rfl]; rfl⟩, ⟨by simp only [ByteArray.size_append]; have e5 : (⟨#[32, 119, 104, 101, 110, 32]⟩ : ByteArray).size = 6 := rfl; omega⟩, HB5⟩
      · have e0 : (i == 0) = false := by simp [h0]
        have h0' := Aside0.mk h0
        clear h0
        have q1 : ¬ 9223372036854775807 < s.size + 5 := by omega
        have q2 : ¬ 9223372036854775807 < s.size + 5 + (CONDW T c).size := by omega
        go_wp2_with (first | (go_at_call 87; (with_reducible refine (cond_words c G0.out G1.out G2.out G3.out T _ ((hB.out.tb HT.out).alloc _)).mono ?_); rintro e w5 ⟨rfl, hb5⟩; have HB5 := Aside0.mk ((hB.out.alloc _).step hb5); clear hb5))
        go_roundg k2
        case measure => have := hk2.out; omega
        case rel => exact ⟨s ++ ⟨#[32, 97, 110, 100, 32]⟩ ++ CONDW T c, ((j + 1 : Nat) : Int), j + 1, rfl, by first | rfl | (rw [← hi1]; done) | (simp [hi1]; done), ⟨rfl⟩, ⟨hjl.out⟩, ⟨by have := hk2.out; have := hjl.out; omega⟩, ⟨by rw [← hR.out, hdr.out, RCON, if_neg (show ¬ j = 0 by have := hi.out; have := h0'.out; omega)]; rfl⟩, ⟨by simp only [ByteArray.size_append]; have e5 : (⟨#[32, 97, 110, 100, 32]⟩ : ByteArray).size = 5 := rfl; omega⟩, HB5⟩
    · have b1 : decide (i < (conds.length : Int)) = false := decide_eq_false hlt
      have hjl : j = conds.length := by have := hi.out; have := hj.out; omega
      have hfin : s = RULEW T ⟨⟨k, a⟩, names, conds⟩ := by rw [← hR.out, hjl, List.drop_length]; rfl
      go_wp2
      go_ret
      exact ⟨by rw [← hfin]; rfl, hB.out.below⟩
end Go.Proofs.Ytmmgcbafdmkhbaa.M
