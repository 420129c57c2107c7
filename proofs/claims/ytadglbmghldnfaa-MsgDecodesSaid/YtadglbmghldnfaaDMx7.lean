-- Laid by a program (wip/tools/myprint.py) out of the loaded program's own print: for each Go function a Lean function and the proof of its contract.
import Derived.Test.YtadglbmghldnfaaDMx0
namespace Go.Proofs.Ytadglbmghldnfaa.M
open Go.RowKit Go.Proofs.YtadglbmghldnfaaW.PrintWords Go.Proofs.YtadglbmghldnfaaW.PrintLast Go.Proofs.YtadglbmghldnfaaW.PrintMore
attribute [local go_sem] max2_int min2_int max_two min_two max_three min_three max_four min_four   -- for this text's walks alone
set_option linter.unusedVariables false
set_option linter.unusedSimpArgs false
/-- A state of type 73 at block g of W. -/
def IsS73 (w0 W : World) (g : Nat) (f0 : List Int) (f1 : Int) : Prop := Mine.IsR 73 5 w0 W g f0 f1
theorem IsS73.below {w0 W : World} {g : Nat} {f0 : List Int} {f1 : Int} (h : IsS73 w0 W g f0 f1) {W1 : World} (hw : Below W.heap.size W W1) : IsS73 w0 W1 g f0 f1 := Mine.IsR.below h hw
theorem IsS73.alloc {w0 W : World} {g : Nat} {f0 : List Int} {f1 : Int} (h : IsS73 w0 W g f0 f1) (o : Obj) : IsS73 w0 (W.alloc o) g f0 f1 := Mine.IsR.alloc h o
theorem IsS73.drewN {w0 W : World} {g : Nat} {f0 : List Int} {f1 : Int} (h : IsS73 w0 W g f0 f1) (m : Nat) : IsS73 w0 (W.drewN m) g f0 f1 := Mine.IsR.drewN h m
theorem IsS73.drew {w0 W : World} {g : Nat} {f0 : List Int} {f1 : Int} (h : IsS73 w0 W g f0 f1)  : IsS73 w0 W.drew g f0 f1 := Mine.IsR.drew h
theorem IsS73.at_ {w0 W : World} {g : Nat} {f0 : List Int} {f1 : Int} {w' : World} {m : Nat} (hq : W.drewN m = w') (h : IsS73 w0 W g f0 f1) : IsS73 w0 w' g f0 f1 := Mine.IsR.at_ hq h
theorem IsS73.apart {w0 W : World} {g : Nat} {f0 : List Int} {f1 : Int} {α : Type} {d : Kd α} {e : Nat} {base : Nat} {ok : Nat → Prop} {v : Value} {xs : List α} (h : IsS73 w0 W g f0 f1) (ho : d.R e W base ok v xs) (ht : ∀ q, q ∈ e :: d.E → q ≠ 73) : d.R e W base (fun k => ok k ∧ k ≠ g) v xs := Mine.IsR.apart h ho ht
theorem IsS73.own_ne {w0 W : World} {g : Nat} {f0 : List Int} {f1 : Int} {α : Type} {d : Kd α} {e : Nat} {base : Nat} {ok : Nat → Prop} {v : Value} {xs : List α} (h : IsS73 w0 W g f0 f1) (ho : d.R e W base ok v xs) (ht : e ≠ 73) : some g ≠ v.ownBlock := Mine.IsR.own_ne h ho ht
theorem IsS73.far {w0 W : World} {g : Nat} {f0 : List Int} {f1 : Int} (h : IsS73 w0 W g f0 f1) {p : Addr} (hne : g ≠ p.block) (ht : Mine.HasT 5 W p.block) (u : Value) : IsS73 w0 (W.setCell p u) g f0 f1 := Mine.IsR.far h hne ht u
theorem IsS73.fresh5 {w0 W : World} {g : Nat} {f0 : List Int} {f1 : Int} (h : IsS73 w0 W g f0 f1)  : ∀ k, W.heap.size ≤ k → g < k := fun k hk => Nat.lt_of_lt_of_le (Mine.IsR.lt h) hk
theorem IsS73.grow5 {w0 W u W1 : World} {g : Nat} {f0 : List Int} {f1 : Int} {α : Type} {d : Kd α} {e : Nat} {base : Nat} {v : Value} {xs : List α} (h : IsS73 w0 W g f0 f1) (hg : W.grownBy W1 v.ownBlock) (ho : d.R e u base (fun k_ => g < k_) v xs) : IsS73 w0 W1 g f0 f1 := Mine.IsR.grow5 h hg ho
theorem IsS73.fresh {w0 W : World} {g : Nat} {f0 : List Int} {f1 : Int} (h : IsS73 w0 W g f0 f1)  : ∀ k, W.heap.size ≤ k → k ≠ g := Mine.IsR.fresh h
theorem IsS73.lt {w0 W : World} {g : Nat} {f0 : List Int} {f1 : Int} (h : IsS73 w0 W g f0 f1)  : g < W.heap.size := Mine.IsR.lt h
theorem IsS73.ge {w0 W : World} {g : Nat} {f0 : List Int} {f1 : Int} (h : IsS73 w0 W g f0 f1)  : w0.heap.size ≤ g := Mine.IsR.ge h
theorem IsS73.ne_blk {w0 W : World} {g : Nat} {f0 : List Int} {f1 : Int} (h : IsS73 w0 W g f0 f1) {a : Nat} {cs : Array Value} {t : TypeId} {fr : Nat × Nat} (hb2 : W.heap[a]? = some (.cells cs t fr)) (ht : t ≠ 73) : g ≠ a := Mine.IsR.ne_blk h hb2 ht
-- HAND rounds=False making=True
def pack_Read.f (l0 : List Int) : Option (List Int × Int) := if l0.length < 140737488355328 then some (l0, 0) else none
set_option maxHeartbeats 8000000 in
set_option maxRecDepth 100000 in
theorem pack_Read.calls (A0 : Option Addr) (c0 : Nat) (l0 : List Int) (r1 : List Int) (r2 : Int) (w0 w : World) (hB : Below w0.heap.size w0 w) (hr0 : Kd.C (Kd.int .u8) w A0 l0.length l0) (hc0 : l0.length ≤ c0) (h : pack_Read.f l0 = some (r1, r2)) :
    Calls Try.prog 24 #[.slice A0 l0.length c0] w fun e w' => ∃ g_ : Nat, e = .returned (.pointer (some ⟨g_, 0, none⟩)) ∧ IsS73 w0 w' g_ r1 r2 ∧ Below w0.heap.size w0 w' ∧ Below w.heap.size w w' := by
  have HC := Aside0.mk hr0
  have HB := Aside0.mk hB
  clear hr0 hB
  unfold pack_Read.f at h
  by_cases hl : l0.length < 140737488355328
  · rw [if_pos hl] at h
    obtain ⟨h1, h2⟩ := Prod.mk.inj (Option.some.inj h)
    subst h1 h2
    have HL := Aside0.mk hl
    clear hl h
    go_enter Try.func24, Try.ntmps24
    go_wp2_with (first | ((with_reducible refine gate_dst (N := 3) rfl ?_); refine Kd.R_lit (Kd.int .u8) w.heap.size 5 ?hg (N := 3) ?hd (xs := ([] : List Int)) (inner := []) (ok := fun _ => True) (okp := fun _ => True) ?hr ?hp (fun _ hk => hk) trivial (Below.refl _ _) (Nat.le_refl _) (by simp) ?_; (case hd => rfl); (case hg => rfl); (case hr => first | (go_simp; done) | (go_simp; rfl)); (case hp => exact (Reps.none _ _)); intro v2 w2 ho hb hg_ hnew_; have HC2 := Aside0.mk (Kd.C_below HC.out hb); have HO := Aside0.mk ho; have HB2 := Aside0.mk hb; clear ho hb hg_ hnew_) | (at_builtin; refine Kd.R_append_row (Value.int .u8) 0 (w0 := w) w.heap.size rfl (.tmp 3) (.tmp 4) 30 5 (.int .u8 0) 1 rfl Try.underlying30 info5 rfl (by decide) v2 [] l0 A0 l0.length c0 (fun _ => True) rfl rfl (fun _ _ => trivial) HO.out HC2.out HB2.out HB2.out.size (by have := HL.out; simp; omega) ?_; intro v3 w3 ho hb hg hat; obtain ⟨A3, c3, ev3⟩ := Kd.R_slice ho; subst ev3; have HO3 := Aside0.mk ho; have HB3 := Aside0.mk hb; clear ho hb hg hat) | ((with_reducible refine gate_dst (N := 7) rfl ?_); refine box_event ?hg (N := 7) ?hd (cs := #[.slice A3 ([] ++ l0).length c3, .int .i64 0]) (t := 73) ?hr ?_; (case hd => rfl); (case hg => rfl); (case hr => first | (go_simp; done) | (go_simp; rfl)); intro gb GE wb hbk hbb; have GE2 := Aside0.mk GE; have HBK := Aside0.mk hbk; have HBB := Aside0.mk hbb; clear GE hbk hbb))
    go_ret
    have hT := HB3.out.trans (HBB.out.mono HB3.out.size)
    refine ⟨gb, rfl, ?_, HB.out.trans (hT.mono HB.out.size), hT⟩
    exact Mine.IsR.of_own (n := 0) (by decide) (by have h_ := HO3.out; rw [List.nil_append] at h_; exact h_) HBB.out (Nat.le_trans HB.out.size HB3.out.size) GE2.out HBK.out
  · rw [if_neg hl] at h
    cases h
-- NOT PRINTED: function 35 (pack_Reader_take)
-- HAND rounds=False making=True
/-- A number's value, with more bytes behind it. -/
def pack_fold (m : Int) : List Int → Int
  | [] => m
  | x :: r => pack_fold (bits .or .u64 (IntKind.u64.wrap (m * 256)) (IntKind.u64.wrap x)) r
/-- What is taken, what is left. -/
def pack_taken (s : List Int × Int) (n : Int) : List Int := if s.2 = 0 ∧ n ≤ (s.1.length : Int) then s.1.take n.toNat else []
def pack_left (s : List Int × Int) (n : Int) : List Int × Int := if s.2 = 0 then (if n ≤ (s.1.length : Int) then (s.1.drop n.toNat, 0) else (s.1, 2)) else s
set_option maxHeartbeats 8000000 in
set_option maxRecDepth 100000 in
theorem pkr_num1.calls (nb : Nat) (A0 : Option Addr) (c0 : Nat) (L : List Int) (m0 : Int) (w : World) (hb : w.heap[nb]? = some (.cells #[.int .u64 m0] 22 (0, 0))) (hL : Mine.Bts 5 w nb A0 c0 L) :
    Calls Try.prog 36 #[.slice A0 L.length c0, .pointer (some ⟨nb, 0, none⟩)] w fun r w' => r = .returned (.tuple #[]) ∧ w'.heap[nb]? = some (.cells #[.int .u64 (pack_fold m0 L)] 22 (0, 0)) ∧ Mine.Bar (fun k => k = nb) w w' := by
  have HBk := Aside0.mk hb
  have HL := Aside0.mk hL
  have hmx := hL.C.2.1
  clear hb hL
  go_enter Try.func36, Try.ntmps36
  go_wp2
  go_loopg [7] (L.length + 1) (fun kq v7 w' => ∃ (i : Int) (m : Int), v7 = .int .i64 i ∧ 0 ≤ i ∧ i ≤ (L.length : Int) ∧ L.length - i.toNat < kq ∧ Aside0 (pack_fold m (L.drop i.toNat) = pack_fold m0 L) ∧ Aside0 (w'.heap[nb]? = some (.cells #[.int .u64 m] 22 (0, 0))) ∧ Aside0 (Mine.Bar (fun k => k = nb) w w'))
  case atStart => exact ⟨0, m0, rfl, Int.le_refl _, by omega, by simp, ⟨by simp⟩, HBk, ⟨Mine.Bar.refl _ _⟩⟩
  case round =>
    obtain ⟨i, m, rfl, hi0, hil, hik, HA, hM, hBr⟩ := hrel
    obtain ⟨k1, rfl⟩ : ∃ k1, gk = k1 + 1 := ⟨gk - 1, by omega⟩
    by_cases hi : i < (L.length : Int)
    · have hH := HA.out
      have hi2 : i.toNat < L.length := by omega
      have hd2 : L.drop i.toNat = rd L i :: L.drop (i + 1).toNat := by
        rw [List.drop_eq_getElem_cons hi2, show (i + 1).toNat = i.toNat + 1 by omega]
        simp [rd, List.getElem?_eq_getElem hi2, List.getD_eq_getElem?_getD]
      rw [hd2, pack_fold] at hH
      have HH := Aside0.mk hH
      have b1 : decide (i < (L.length : Int)) = true := decide_eq_true (by omega)
      have z1 : IntKind.i64.wrap (i + 1) = i + 1 := by rw [i64_w]; simp only [wrap64, IntKind.wrap]; (try simp [IntKind.bits, IntKind.signed]); omega
      have HLr := Aside0.mk (HL.out.bar hBr.out (fun k cs hk hc => by subst hk; exact Mine.two_types HBk.out hc (by decide)))
      obtain ⟨ad, e0, x0⟩ := Kd.at_int HLr.out.C i hi0 hi
      have y0 : wr.cell? ⟨nb, 0, none⟩ = some (.int .u64 m) := (blk_cell hM.out 0).trans rfl
      have f0 := blk_frozen hM.out 0
      have p1 := eq_true hi0
      have q1 := eq_true hi
      clear hH hd2 HA HLr
      cases e0
      go_wp2
      go_roundg k1
      case measure => omega
      case rel => exact ⟨i + 1, _, by first | rfl | (rw [z1]), by omega, by omega, by omega, HH, ⟨blk_put hM.out 0 _ rfl⟩, ⟨hBr.out.setCell rfl _ _⟩⟩
    · have hH := HA.out
      have b1 : decide (i < (L.length : Int)) = false := decide_eq_false (by omega)
      rw [List.drop_of_length_le (by omega), pack_fold] at hH
      have HH := Aside0.mk hH
      clear hH HA
      go_wp2
      first | go_end0 | ((try simp only [Exit.inBlock, Exit.then]); refine bodyPost_ret (results_none rfl _ _ _) rfl ?_)
      exact ⟨rfl, by rw [← HH.out]; exact hM.out, hBr.out⟩
set_option maxHeartbeats 8000000 in
set_option maxRecDepth 100000 in
theorem pkr_text1.calls (nb : Nat) (A0 : Option Addr) (c0 : Nat) (L : List Int) (v0 : Value) (w : World) (hb : w.heap[nb]? = some (.cells #[v0] 9 (0, 0))) (hL : Mine.Bts 5 w nb A0 c0 L) :
    Calls Try.prog 38 #[.slice A0 L.length c0, .pointer (some ⟨nb, 0, none⟩)] w fun r w' => r = .returned (.tuple #[]) ∧ w'.heap[nb]? = some (.cells #[.string (strOfNums L)] 9 (0, 0)) ∧ Mine.Bar (fun k => k = nb) w w' := by
  have HBk := Aside0.mk hb
  have y0 : w.cell? ⟨nb, 0, none⟩ = some v0 := (blk_cell hb 0).trans rfl
  have f0 := blk_frozen hb 0
  have hcv : (convert 30 9 (.slice A0 L.length c0)).run Try.prog w = .ok (.string (strOfNums L)) w := Kd.C_string Try.underlying30 Try.underlying5 Try.underlying9 hL.C
  clear hb hL
  go_enter Try.func38, Try.ntmps38
  go_wp2
  first | go_end0 | ((try simp only [Exit.inBlock, Exit.then]); refine bodyPost_ret (results_none rfl _ _ _) rfl ?_)
  exact ⟨rfl, blk_put HBk.out 0 _ rfl, (Mine.Bar.refl (fun k => k = nb) _).setCell rfl _ _⟩
set_option maxHeartbeats 8000000 in
set_option maxRecDepth 100000 in
theorem pkr_takenum.calls (nb g : Nat) (L : List Int) (e n : Int) (w0 w : World) (hI : Mine.IsR 73 5 w0 w g L e) (hn : 0 ≤ n) (hb : w.heap[nb]? = some (.cells #[.int .u64 0] 22 (0, 0))) :
    Calls Try.prog 35 #[.pointer (some ⟨g, 0, none⟩), .int .i64 n, .func (.func 36) #[] #[.pointer (some ⟨nb, 0, none⟩)]] w fun r w' => r = .returned (.tuple #[]) ∧ Mine.IsR 73 5 w0 w' g (pack_left (L, e) n).1 (pack_left (L, e) n).2 ∧ w'.heap[nb]? = some (.cells #[.int .u64 (pack_fold 0 (pack_taken (L, e) n))] 22 (0, 0)) ∧ Mine.Bar (fun k => k = g ∨ k = nb) w w' := by
  obtain ⟨A0, c0, hg, hge, hL⟩ := hI
  have hLo := hL.other hb (by decide)
  have hne : g ≠ nb := fun e_ => by subst e_; exact Mine.two_types hg hb (by decide)
  have hle := hL.le
  have x0 : w.cell? ⟨g, 0, none⟩ = some (.slice A0 L.length c0) := (blk_cell hg 0).trans rfl
  have x1 : w.cell? ⟨g, 1, none⟩ = some (.int .i64 e) := (blk_cell hg 1).trans rfl
  have f1 := blk_frozen hg 1
  have HG := Aside0.mk hg
  have HB := Aside0.mk hb
  have HL := Aside0.mk hL
  have HLo := Aside0.mk hLo
  unfold pack_left pack_taken
  clear hg hb hL hLo
  by_cases he : e = 0
  · subst he
    by_cases h1 : n ≤ (L.length : Int)
    · rw [if_pos rfl, if_pos h1, if_pos ⟨rfl, h1⟩]
      have b1 : decide ((L.length : Int) < n) = false := decide_eq_false (by omega)
      obtain ⟨hs, hsb⟩ := Mine.Bts.take (A := A0) (c := c0) 30 Try.underlying30 info5 n hn h1 hle
      obtain ⟨A2, hd, hda, hdb⟩ := Mine.Bts.drop (A := A0) (c := c0) 30 Try.underlying30 info5 n hn h1 hle
      have HS := Aside0.mk (hsb _ _ HLo.out)
      have HD := Aside0.mk hdb
      have HDA := Aside0.mk hda
      generalize hLT : L.take n.toNat = LT at *
      generalize hLD : L.drop n.toNat = LD at *
      generalize hcd : c0 - n.toNat = cd at *
      clear hsb hdb hda h1 hLT hLD hcd
      go_enter Try.func35, Try.ntmps35
      go_wp2_with (first | (go_at_call 36; (refine (pkr_num1.calls nb A0 c0 LT 0 _ HB.out HS.out).mono ?_); rintro r w1 ⟨rfl, hb1, hBar⟩; have hg1 := hBar.blk HG.out hne; have x01 : w1.cell? ⟨g, 0, none⟩ = some (.slice A0 L.length c0) := (blk_cell hg1 0).trans rfl; have f01 := blk_frozen hg1 0; have HG1 := Aside0.mk hg1; have HB1 := Aside0.mk hb1; have HBar := Aside0.mk hBar; clear hg1 hb1 hBar))
      first | go_end0 | ((try simp only [Exit.inBlock, Exit.then]); refine bodyPost_ret (results_none rfl _ _ _) rfl ?_)
      refine ⟨rfl, ⟨A2, cd, blk_put HG1.out 0 _ rfl, ⟨hge.1, fun ad ea => by obtain ⟨ad0, e0, e1⟩ := HDA.out ad ea; rw [e1]; exact hge.2 ad0 e0⟩, ?_⟩, blk_far HB1.out (Ne.symm hne) _, ((HBar.out.mono (S' := fun k => k = g ∨ k = nb) (fun k hk => Or.inr hk)).setCell (Or.inl rfl) _ _)⟩
      exact (HD.out _ _ HL.out).bar ((HBar.out.mono (S' := fun k => k = g ∨ k = nb) (fun k hk => Or.inr hk)).setCell (Or.inl rfl) _ _) (fun k cs hk hc => by rcases hk with rfl | rfl; exact Mine.two_types HG.out hc (by decide); exact Mine.two_types HB.out hc (by decide))
    · rw [if_pos rfl, if_neg h1, if_neg (fun h => h1 h.2)]
      have b1 : decide ((L.length : Int) < n) = true := decide_eq_true (by omega)
      clear h1
      go_enter Try.func35, Try.ntmps35
      go_wp2
      first | go_end0 | ((try simp only [Exit.inBlock, Exit.then]); refine bodyPost_ret (results_none rfl _ _ _) rfl ?_)
      refine ⟨rfl, ⟨A0, c0, blk_put HG.out 1 _ rfl, hge, ?_⟩, blk_far HB.out (Ne.symm hne) _, (Mine.Bar.refl _ _).setCell (Or.inl rfl) _ _⟩
      exact HL.out.bar ((Mine.Bar.refl (fun k => k = g ∨ k = nb) _).setCell (Or.inl rfl) _ _) (fun k cs hk hc => by rcases hk with rfl | rfl; exact Mine.two_types HG.out hc (by decide); exact Mine.two_types HB.out hc (by decide))
  · rw [if_neg he, if_neg (fun h => he h.1)]
    have b1 : (e == 0) = false := beq_eq_false_iff_ne.2 he
    have b2 : (e != 0) = true := bne_iff_ne.2 he
    go_enter Try.func35, Try.ntmps35
    go_wp2
    first | go_end0 | ((try simp only [Exit.inBlock, Exit.then]); refine bodyPost_ret (results_none rfl _ _ _) rfl ?_)
    exact ⟨rfl, ⟨A0, c0, HG.out, hge, HL.out⟩, HB.out, Mine.Bar.refl _ _⟩
set_option maxHeartbeats 8000000 in
set_option maxRecDepth 100000 in
theorem pkr_taketext.calls (nb g : Nat) (L : List Int) (e n : Int) (w0 w : World) (hI : Mine.IsR 73 5 w0 w g L e) (hn : 0 ≤ n) (hb : w.heap[nb]? = some (.cells #[.string ⟨#[]⟩] 9 (0, 0))) :
    Calls Try.prog 35 #[.pointer (some ⟨g, 0, none⟩), .int .i64 n, .func (.func 38) #[] #[.pointer (some ⟨nb, 0, none⟩)]] w fun r w' => r = .returned (.tuple #[]) ∧ Mine.IsR 73 5 w0 w' g (pack_left (L, e) n).1 (pack_left (L, e) n).2 ∧ w'.heap[nb]? = some (.cells #[.string (strOfNums (pack_taken (L, e) n))] 9 (0, 0)) ∧ Mine.Bar (fun k => k = g ∨ k = nb) w w' := by
  obtain ⟨A0, c0, hg, hge, hL⟩ := hI
  have hLo := hL.other hb (by decide)
  have hne : g ≠ nb := fun e_ => by subst e_; exact Mine.two_types hg hb (by decide)
  have hle := hL.le
  have x0 : w.cell? ⟨g, 0, none⟩ = some (.slice A0 L.length c0) := (blk_cell hg 0).trans rfl
  have x1 : w.cell? ⟨g, 1, none⟩ = some (.int .i64 e) := (blk_cell hg 1).trans rfl
  have f1 := blk_frozen hg 1
  have HG := Aside0.mk hg
  have HB := Aside0.mk hb
  have HL := Aside0.mk hL
  have HLo := Aside0.mk hLo
  unfold pack_left pack_taken
  clear hg hb hL hLo
  by_cases he : e = 0
  · subst he
    by_cases h1 : n ≤ (L.length : Int)
    · rw [if_pos rfl, if_pos h1, if_pos ⟨rfl, h1⟩]
      have b1 : decide ((L.length : Int) < n) = false := decide_eq_false (by omega)
      obtain ⟨hs, hsb⟩ := Mine.Bts.take (A := A0) (c := c0) 30 Try.underlying30 info5 n hn h1 hle
      obtain ⟨A2, hd, hda, hdb⟩ := Mine.Bts.drop (A := A0) (c := c0) 30 Try.underlying30 info5 n hn h1 hle
      have HS := Aside0.mk (hsb _ _ HLo.out)
      have HD := Aside0.mk hdb
      have HDA := Aside0.mk hda
      generalize hLT : L.take n.toNat = LT at *
      generalize hLD : L.drop n.toNat = LD at *
      generalize hcd : c0 - n.toNat = cd at *
      clear hsb hdb hda h1 hLT hLD hcd
      go_enter Try.func35, Try.ntmps35
      go_wp2_with (first | (go_at_call 38; (refine (pkr_text1.calls nb A0 c0 LT _ _ HB.out HS.out).mono ?_); rintro r w1 ⟨rfl, hb1, hBar⟩; have hg1 := hBar.blk HG.out hne; have x01 : w1.cell? ⟨g, 0, none⟩ = some (.slice A0 L.length c0) := (blk_cell hg1 0).trans rfl; have f01 := blk_frozen hg1 0; have HG1 := Aside0.mk hg1; have HB1 := Aside0.mk hb1; have HBar := Aside0.mk hBar; clear hg1 hb1 hBar))
      first | go_end0 | ((try simp only [Exit.inBlock, Exit.then]); refine bodyPost_ret (results_none rfl _ _ _) rfl ?_)
      refine ⟨rfl, ⟨A2, cd, blk_put HG1.out 0 _ rfl, ⟨hge.1, fun ad ea => by obtain ⟨ad0, e0, e1⟩ := HDA.out ad ea; rw [e1]; exact hge.2 ad0 e0⟩, ?_⟩, blk_far HB1.out (Ne.symm hne) _, ((HBar.out.mono (S' := fun k => k = g ∨ k = nb) (fun k hk => Or.inr hk)).setCell (Or.inl rfl) _ _)⟩
      exact (HD.out _ _ HL.out).bar ((HBar.out.mono (S' := fun k => k = g ∨ k = nb) (fun k hk => Or.inr hk)).setCell (Or.inl rfl) _ _) (fun k cs hk hc => by rcases hk with rfl | rfl; exact Mine.two_types HG.out hc (by decide); exact Mine.two_types HB.out hc (by decide))
    · rw [if_pos rfl, if_neg h1, if_neg (fun h => h1 h.2)]
      have b1 : decide ((L.length : Int) < n) = true := decide_eq_true (by omega)
      clear h1
      go_enter Try.func35, Try.ntmps35
      go_wp2
      first | go_end0 | ((try simp only [Exit.inBlock, Exit.then]); refine bodyPost_ret (results_none rfl _ _ _) rfl ?_)
      refine ⟨rfl, ⟨A0, c0, blk_put HG.out 1 _ rfl, hge, ?_⟩, blk_far HB.out (Ne.symm hne) _, (Mine.Bar.refl _ _).setCell (Or.inl rfl) _ _⟩
      exact HL.out.bar ((Mine.Bar.refl (fun k => k = g ∨ k = nb) _).setCell (Or.inl rfl) _ _) (fun k cs hk hc => by rcases hk with rfl | rfl; exact Mine.two_types HG.out hc (by decide); exact Mine.two_types HB.out hc (by decide))
  · rw [if_neg he, if_neg (fun h => he h.1)]
    have b1 : (e == 0) = false := beq_eq_false_iff_ne.2 he
    have b2 : (e != 0) = true := bne_iff_ne.2 he
    go_enter Try.func35, Try.ntmps35
    go_wp2
    first | go_end0 | ((try simp only [Exit.inBlock, Exit.then]); refine bodyPost_ret (results_none rfl _ _ _) rfl ?_)
    exact ⟨rfl, ⟨A0, c0, HG.out, hge, HL.out⟩, HB.out, Mine.Bar.refl _ _⟩
def pack_rnum (s : List Int × Int) (size : Int) : Int × List Int × Int := if size < 1 ∨ 8 < size then (0, s.1, if s.2 = 0 then 1 else s.2) else (pack_fold 0 (pack_taken s size), pack_left s size)
def pack_Reader_Num.f (s0_0 : List Int) (s0_1 : Int) (a1 : Int) : Option (Int × List Int × Int) := some (pack_rnum (s0_0, s0_1) a1)
set_option maxHeartbeats 8000000 in
set_option maxRecDepth 100000 in
theorem pkr_Num.bad (g : Nat) (L : List Int) (e size : Int) (w0 w : World) (hI : Mine.IsR 73 5 w0 w g L e) (h1 : size < 1 ∨ 8 < size) :
    Calls Try.prog 25 #[.pointer (some ⟨g, 0, none⟩), .int .i64 size] w fun r w' => r = .returned (.int .u64 0) ∧ Mine.IsR 73 5 w0 w' g L (if e = 0 then 1 else e) ∧ Mine.Bar (fun k => k = g) w w' := by
  obtain ⟨A0, c0, hg, hge, hL⟩ := hI
  have x1 : w.cell? ⟨g, 1, none⟩ = some (.int .i64 e) := (blk_cell hg 1).trans rfl
  have f1 := blk_frozen hg 1
  have HG := Aside0.mk hg
  have HL := Aside0.mk hL
  clear hg hL
  by_cases c1 : size < 1
  all_goals
    first
      | (have d1 : decide (size < 1) = true := decide_eq_true c1; have d2 : True := trivial)
      | (have d1 : decide (size < 1) = false := decide_eq_false c1; have d2 : decide (8 < size) = true := decide_eq_true (by omega))
    clear h1 c1
    by_cases he : e = 0
    · subst he
      rw [if_pos rfl]
      go_enter Try.func25, Try.ntmps25
      go_wp2
      (repeat (go_step3; (try go_wp2)))
      go_ret
      refine ⟨rfl, ⟨A0, c0, blk_put HG.out 1 _ rfl, hge, ?_⟩, (Mine.Bar.refl (fun k => k = g) _).setCell rfl _ _⟩
      exact HL.out.bar ((Mine.Bar.refl (fun k => k = g) _).setCell rfl _ _) (fun k cs hk hc => by subst hk; exact Mine.two_types HG.out hc (by decide))
    · rw [if_neg he]
      have b1 : (e == 0) = false := beq_eq_false_iff_ne.2 he
      go_enter Try.func25, Try.ntmps25
      go_wp2
      (repeat (go_step3; (try go_wp2)))
      go_ret
      exact ⟨rfl, ⟨A0, c0, HG.out, hge, HL.out⟩, Mine.Bar.refl _ _⟩
set_option maxHeartbeats 8000000 in
set_option maxRecDepth 100000 in
theorem pkr_Num.good (g : Nat) (L : List Int) (e size : Int) (w0 w : World) (hI : Mine.IsR 73 5 w0 w g L e) (h1 : ¬ (size < 1 ∨ 8 < size)) :
    Calls Try.prog 25 #[.pointer (some ⟨g, 0, none⟩), .int .i64 size] w fun r w' => r = .returned (.int .u64 (pack_fold 0 (pack_taken (L, e) size))) ∧ Mine.IsR 73 5 w0 w' g (pack_left (L, e) size).1 (pack_left (L, e) size).2 ∧ Mine.Bar (fun k => k = g) w w' := by
  have hs0 : 0 ≤ size := by omega
  have d1 : decide (size < 1) = false := decide_eq_false (by omega)
  have d2 : decide (8 < size) = false := decide_eq_false (by omega)
  have HI := Aside0.mk hI
  have hlt := hI.lt
  generalize hv : pack_fold 0 (pack_taken (L, e) size) = v
  generalize hl2 : pack_left (L, e) size = l2
  clear hI h1
  go_enter Try.func25, Try.ntmps25
  go_wp2_with (first | ((with_reducible refine gate_dst (N := 5) rfl ?_); refine box_event ?hg (N := 5) ?hd (cs := #[.int .u64 0]) (t := 22) ?hr ?_; (case hd => rfl); (case hg => rfl); (case hr => first | (go_simp; done) | (go_simp; rfl)); intro gb GE wb hbk hbb; have y0 : wb.cell? ⟨gb, 0, none⟩ = some (.int .u64 0) := (blk_cell hbk 0).trans rfl; have fy := blk_frozen hbk 0; have GE2 := Aside0.mk GE; have HBK := Aside0.mk (show (wb.setCell ⟨gb, 0, none⟩ (.int .u64 0)).heap[gb]? = _ from blk_put hbk 0 _ rfl); have HBar := Aside0.mk ((Mine.Bar.of_below (S := fun k => k = gb) hbb).setCell rfl 0 (.int .u64 0)); clear GE hbk hbb) | (go_at_call 35; (refine (pkr_takenum.calls gb g L e size w0 _ (HI.out.bar HBar.out (by have := GE2.out; omega) (fun k cs hk hc => by have := blk_lt hc; have := GE2.out; omega)) hs0 HBK.out).mono ?_); rintro r w1 ⟨rfl, hI1, hb1, hBar1⟩; rw [hl2] at hI1; rw [hv] at hb1; have z0 : w1.cell? ⟨gb, 0, none⟩ = some (.int .u64 v) := (blk_cell hb1 0).trans rfl; have HI1 := Aside0.mk hI1; have HBar1 := Aside0.mk hBar1; clear hI1 hb1 hBar1))
  go_ret
  exact ⟨rfl, HI1.out, ((HBar.out.mono (S' := fun k => k = g ∨ k = gb) (fun k hk => Or.inr hk)).trans HBar1.out).fresh (fun k hk h2 => by rcases h2 with h2 | h2; exact h2; have := GE2.out; omega)⟩
theorem pkr_Num.calls (g : Nat) (L : List Int) (e size : Int) (w0 w : World) (hI : Mine.IsR 73 5 w0 w g L e) :
    Calls Try.prog 25 #[.pointer (some ⟨g, 0, none⟩), .int .i64 size] w fun r w' => r = .returned (.int .u64 (pack_rnum (L, e) size).1) ∧ Mine.IsR 73 5 w0 w' g (pack_rnum (L, e) size).2.1 (pack_rnum (L, e) size).2.2 ∧ Mine.Bar (fun k => k = g) w w' := by
  unfold pack_rnum
  by_cases h : size < 1 ∨ 8 < size
  · rw [if_pos h]
    exact pkr_Num.bad g L e size w0 w hI h
  · rw [if_neg h]
    exact pkr_Num.good g L e size w0 w hI h
theorem pack_Reader_Num.calls (g : Nat) (s0_0 : List Int) (s0_1 : Int) (a1 : Int) (r1 : Int) (r2 : List Int) (r3 : Int) (w0 w : World) (hI : IsS73 w0 w g s0_0 s0_1) (hB : Below w0.heap.size w0 w) (h : pack_Reader_Num.f s0_0 s0_1 a1 = some (r1, r2, r3)) :
    Calls Try.prog 25 #[.pointer (some ⟨g, 0, none⟩), .int .i64 a1] w fun e w' => e = .returned (.int .u64 r1) ∧ IsS73 w0 w' g r2 r3 ∧ Below w0.heap.size w0 w' ∧ KeepBut w w' g none := by
  obtain h := Option.some.inj h
  refine (pkr_Num.calls g s0_0 s0_1 a1 w0 w hI).mono (fun e w' hp => ?_)
  rw [h] at hp
  exact ⟨hp.1, hp.2.1, hB.trans (hp.2.2.below (fun k hk h2 => by have := Mine.IsR.ge hI; omega) hB.size), hp.2.2.keep (fun k hk h2 => h2)⟩
def data_joined.f (a0 : Int) (a1 : Int) : Option (Int) := some (Go.bits .or .u64 (IntKind.u64.wrap ((IntKind.u64.wrap (a1)) * 4294967296)) (IntKind.u64.wrap (a0)))
set_option maxHeartbeats 8000000 in
set_option maxRecDepth 100000 in
theorem data_joined.calls (a0 : Int) (a1 : Int) (r : Int) (w : World) (h : data_joined.f a0 a1 = some r) :
  Calls Try.prog 37 #[.int .u32 a0, .int .u32 a1] w fun e w' => e = .returned (.int .u64 r) ∧ Drawn0 w w' := by
 have H : (some (Go.bits .or .u64 (IntKind.u64.wrap ((IntKind.u64.wrap (a1)) * 4294967296)) (IntKind.u64.wrap (a0)))) = some r := h
 clear h
 obtain rfl := Option.some.inj H
 go_enter Try.func37, Try.ntmps37
 go_wp2
 go_ret
 exact ⟨by first | rfl | (simp; done) | (simp [*]; done), by repeat (first | exact Drawn0.refl _ | apply Drawn0.step)⟩
end Go.Proofs.Ytadglbmghldnfaa.M
