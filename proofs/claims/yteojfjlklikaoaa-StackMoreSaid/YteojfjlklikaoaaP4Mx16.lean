-- Laid by a program (wip/tools/myprint.py) out of the loaded program's own print: for each Go function a Lean function and the proof of its contract.
import Derived.Test.YteojfjlklikaoaaP4Mx0
import Derived.Test.YteojfjlklikaoaaP4Mx3
import Derived.Test.YteojfjlklikaoaaP4Mx7
namespace Go.Proofs.Yteojfjlklikaoaa.M
open Go.RowKit Go.Proofs.YteojfjlklikaoaaW.PrintWords Go.Proofs.YteojfjlklikaoaaW.PrintLast Go.Proofs.YteojfjlklikaoaaW.PrintMore
attribute [local go_sem] max2_int min2_int max_two min_two max_three min_three max_four min_four   -- for this text's walks alone
set_option linter.unusedVariables false
set_option linter.unusedSimpArgs false
-- HAND rounds=True making=True
/-- The filters that can be attached, one behind the other. -/
def BUILT (ck : List S53 → Int) (L : List (List S53)) : List (List S53) := L.foldl (fun acc l => (ATT (ck l) acc (costOf acc) l).2.1) []
theorem built_snoc (ck : List S53 → Int) (L : List (List S53)) (l : List S53) : BUILT ck (L ++ [l]) = (ATT (ck l) (BUILT ck L) (costOf (BUILT ck L)) l).2.1 := by
  unfold BUILT
  rw [List.foldl_append]
  rfl
theorem att_cases (e0 : Int) (L : List (List S53)) (cost : Int) (l : List S53) : ((ATT e0 L cost l).1 ≠ 0 ∧ (ATT e0 L cost l).2 = (L, cost)) ∨ (e0 = 0 ∧ L.length < 32 ∧ cost + l.length + 4 ≤ 32768 ∧ ATT e0 L cost l = (0, L ++ [l], cost + l.length + 4)) := by
  unfold ATT
  by_cases h : e0 = 0
  · by_cases h2 : 32 ≤ L.length ∨ 32768 < cost + l.length + 4
    · left; rw [if_neg (by simpa using h), if_pos h2]; exact ⟨by simp, rfl⟩
    · right; rw [if_neg (by simpa using h), if_neg h2]; exact ⟨h, by omega, by omega, rfl⟩
  · left; rw [if_pos h]; exact ⟨h, rfl⟩
/-- What is built: few, of few costs, of those that may be. -/
structure Fit (ck : List S53 → Int) (L B : List (List S53)) : Prop where
  len : B.length ≤ 32
  cost : costOf B ≤ 32768
  mem : ∀ l ∈ B, l ∈ L ∧ ck l = 0
theorem fit_att {ck : List S53 → Int} {L B : List (List S53)} (h : Fit ck L B) (l : List S53) (hl : l ∈ L) : Fit ck L (ATT (ck l) B (costOf B) l).2.1 ∧ (ATT (ck l) B (costOf B) l).2.2 = costOf (ATT (ck l) B (costOf B) l).2.1 := by
  rcases att_cases (ck l) B (costOf B) l with ⟨_, h2⟩ | ⟨h0, h1, h2, h3⟩
  · rw [h2]; exact ⟨h, rfl⟩
  · rw [h3]
    refine ⟨⟨by simp; omega, by rw [costOf_app]; exact h2, fun x hx => ?_⟩, by simp [costOf_app]⟩
    rcases List.mem_append.1 hx with hx | hx
    · exact h.mem x hx
    · rw [List.mem_singleton.1 hx]; exact ⟨hl, h0⟩
theorem fit_built (ck : List S53 → Int) (L0 L : List (List S53)) (h : ∀ l ∈ L, l ∈ L0) : Fit ck L0 (BUILT ck L) := by
  have key : ∀ (L acc : List (List S53)), Fit ck L0 acc → (∀ l ∈ L, l ∈ L0) → Fit ck L0 (L.foldl (fun acc l => (ATT (ck l) acc (costOf acc) l).2.1) acc) := by
    intro L
    induction L with
    | nil => exact fun _ h _ => h
    | cons a r ih => exact fun acc hf h => ih _ (fit_att hf a (h a List.mem_cons_self)).1 (fun l hl => h l (List.mem_cons_of_mem _ hl))
  exact key L [] ⟨by simp, by simp [costOf], fun l hl => by simp at hl⟩ h
theorem take_getD (L : List (List S53)) (j : Nat) (h : j < L.length) : L.take (j + 1) = L.take j ++ [L.getD j []] := by
  rw [List.take_add_one, List.getElem?_eq_getElem h, List.getD_eq_getElem?_getD, List.getElem?_eq_getElem h]; rfl
/-- A row of rows that came in. -/
abbrev RowIn (w0 : World) (ok : Nat → Prop) (w : World) (v : Value) (B : List (List S53)) : Prop := Kd.R (Kd.fixed (Kd.slice 53 k53) w0) 38 w 0 ok v B
theorem rowIn_reads {w0 w : World} {ok : Nat → Prop} {v : Value} {B : List (List S53)} (h : RowIn w0 ok w v B) (hb : Below w0.heap.size w0 w) : ∃ A c, v = .slice A B.length c ∧ B.length ≤ c ∧ Kd.C (Kd.slice 53 k53) w A B.length B := by
  obtain ⟨A, c, e, hl, hC⟩ := Kd.R_reads h
  refine ⟨A, c, e, hl, ⟨hC.1, hC.2.1, fun hn => ?_⟩⟩
  obtain ⟨ad, ea, hc⟩ := hC.2.2 hn
  refine ⟨ad, ea, fun j p hj => ?_⟩
  obtain ⟨c, h1, h2, h3⟩ := hc j p hj
  exact ⟨c, h1, (Kd.slice 53 k53).K_below hb h2, h3⟩
structure BuiltK (w w' : World) (g : Nat) (v : Value) (B : List (List S53)) : Prop where
  ge : w.heap.size ≤ g
  below : Below w.heap.size w w'
  st : ∃ oks oko : Nat → Prop, (∀ k, k < w'.heap.size → oks k → oko k → False) ∧ (∀ k, oks k → w.heap.size ≤ k) ∧ (∀ k, oko k → w.heap.size ≤ k ∧ k ≠ g) ∧ SkS oks w' g B (costOf B) ∧ RowIn w oko w' v B
def BuiltPost (ck : List S53 → Int) (L : List (List S53)) (w : World) (e : Ending) (w' : World) : Prop := ∃ g v, e = .returned (.tuple #[.pointer (some ⟨g, 0, none⟩), v]) ∧ w.heap.size ≤ g ∧ Below w.heap.size w w' ∧ SkS (fun k => w.heap.size ≤ k ∧ k ≠ g) w' g (BUILT ck L) (costOf (BUILT ck L)) ∧ RowIn w (fun k => w.heap.size ≤ k ∧ k ≠ g) w' v (BUILT ck L)
set_option maxHeartbeats 8000000 in
set_option maxRecDepth 100000 in
theorem fairleadlaw15_built.sk (k : Nat) (A0 : Option Addr) (c0 : Nat) (L : List (List S53)) (ck : List S53 → Int) (w : World) (hr : Kd.C (Kd.slice 53 k53) w A0 L.length L) (hc : L.length ≤ c0) (hck : ∀ l ∈ L, ∃ p, check_Check.f k l = some (ck l, p)) (hcl : ∀ l ∈ L, ck l = 0 → 1 ≤ l.length ∧ l.length ≤ 4096) (hL : L.length ≤ 40) :
    Calls Try.prog 17 #[.slice A0 L.length c0] w (BuiltPost ck L w) := by
  have HR := Aside0.mk hr
  have HC := Aside0.mk hc
  have HCk := Aside0.mk hck
  have HCl := Aside0.mk hcl
  clear hr hc hck hcl
  go_enter Try.func17, Try.ntmps17
  go_wp2_with (first | ((with_reducible refine gate_dst (N := 8) rfl ?_); refine box_event ?hg (N := 8) ?hd (cs := #[.slice none 0 0, .int .i64 0]) (t := 32) ?hr ?_; (case hd => rfl); (case hg => rfl); (case hr => first | (go_simp; done) | (go_simp; rfl)); intro g hg w1 hbox hb; have HS := Aside0.mk (show BuiltK w w1 g (.slice none 0 0) [] from ⟨by rw [hg]; exact Nat.le_refl _, hb, (fun k => w.heap.size ≤ k ∧ k ≠ g), (fun _ => False), (fun _ _ _ h => h), (fun _ h => h.1), (fun _ h => h.elim), ⟨⟨_, hbox, Kd.R_nil _ _ _ _ _⟩, fun h => h.2 rfl⟩, Kd.R_nil _ _ _ _ _⟩); clear hg hbox hb))
  go_loopg [5, 6] (L.length + 1) (fun kq v5 v6 w' => ∃ (i : Int) (j : Nat), v6 = .int .i64 i ∧ Aside0 (i = (j : Int)) ∧ Aside0 (j ≤ L.length) ∧ Aside0 (L.length - j < kq) ∧ Aside0 (BuiltK w w' g v5 (BUILT ck (L.take j))))
  case atStart => exact ⟨0, 0, rfl, ⟨rfl⟩, ⟨Nat.zero_le _⟩, ⟨by omega⟩, HS⟩
  case round =>
    clear HS
    obtain ⟨i, j, rfl, hi, hj, hk2, hB⟩ := hrel
    obtain ⟨k2, rfl⟩ : ∃ k2, gk = k2 + 1 := ⟨gk - 1, by have := hk2.out; omega⟩
    by_cases hlt : i < (L.length : Int)
    · have b1 : decide (i < (L.length : Int)) = true := decide_eq_true hlt
      have p1 : 0 ≤ i := by have := hi.out; omega
      obtain ⟨ad, A', c', eA, zi0, hlc, hCr⟩ := Mine.C_row HR.out i p1 hlt
      cases eA
      have zi := pw_cell_below hB.out.below zi0
      have hjl : j < L.length := by have := hi.out; omega
      obtain ⟨li, hli⟩ : ∃ li, li = L.getD i.toNat [] := ⟨_, rfl⟩
      rw [← hli] at zi zi0 hlc hCr
      have hli2 : L.getD j [] = li := by rw [hli, show i.toNat = j by have := hi.out; omega]
      have hmem : li ∈ L := by rw [hli, List.getD_eq_getElem?_getD, List.getElem?_eq_getElem (by omega)]; exact List.getElem_mem _
      have HTk := Aside0.mk (take_getD L j hjl)
      rw [hli2] at HTk
      have hfit := fit_built ck L (L.take j) (fun l hl => List.mem_of_mem_take hl)
      obtain ⟨BB, hBB⟩ : ∃ BB, BB = BUILT ck (L.take j) := ⟨_, rfl⟩
      have hsn := built_snoc ck (L.take j) li
      rw [← HTk.out, ← hBB] at hsn
      rw [← hBB] at hfit hB
      have HSn := Aside0.mk hsn
      have HFit := Aside0.mk hfit
      have HFA := Aside0.mk (fit_att hfit li hmem).2
      have HBB := Aside0.mk hBB
      obtain ⟨p_, hp_⟩ := HCk.out li hmem
      have HP := Aside0.mk hp_
      have HLi := Aside0.mk (HCl.out li hmem)
      have hci := costOf_in BB (fun l hl => (HCl.out l (hfit.mem l hl).1 (hfit.mem l hl).2).2)
      have HCi := Aside0.mk hci
      have HLc := Aside0.mk hlc
      have HCr := Aside0.mk hCr
      have zi1 := zi
      have HZ := Aside0.mk (World.block_lt_of_cell? w _ zi0)
      clear zi0 hli2 hmem hfit hBB hsn hp_ hci hlc hCr hli
      obtain ⟨oks, oko, hdis, hks, hko, hSk, hRow⟩ := hB.out.st
      have HDis := Aside0.mk hdis
      have HKs := Aside0.mk hks
      have HKo := Aside0.mk hko
      have HSk := Aside0.mk hSk
      have HRow := Aside0.mk hRow
      have HGe := Aside0.mk hB.out.ge
      have HBl := Aside0.mk hB.out.below
      clear hdis hks hko hSk hRow hB
      obtain ⟨er, her⟩ : ∃ er, er = (ATT (ck li) BB (costOf BB) li).1 := ⟨_, rfl⟩
      have HEr := Aside0.mk her
      clear her
      have HNg := Aside0.mk (show (ad.add i.toNat).block ≠ g from fun e => by have := HZ.out; have := HGe.out; omega)
      by_cases h0 : er = 0
      · subst h0
        have hcase := att_cases (ck li) BB (costOf BB) li
        have hB' : BUILT ck (L.take (j + 1)) = BB ++ [li] := by
          rcases hcase with h | h
          · exact absurd HEr.out.symm h.1
          · rw [HSn.out, h.2.2.2]
        have HB' := Aside0.mk hB'
        clear hcase hB'
        go_wp2_with (first | (go_at_call 10; (refine (stack_Stack_Attach.calls k A' c' li g BB (costOf BB) (ck li) p_ oks _ (Kd.C_below HCr.out HBl.out) HLc.out HSk.out HP.out (fun h => (HLi.out h).2) HFit.out.len HCi.out.1 HFit.out.cost).mono ?_); rintro e w2 ⟨he, hBt, hS2⟩; rw [← HEr.out] at he; subst he; rw [HFA.out, ← HSn.out] at hS2; have zi2 := hBt.cell zi1 HNg.out; have HS2 := Aside0.mk hS2; have HBt := Aside0.mk hBt; clear hS2 hBt zi) | ((with_reducible refine gate_builtin (b := .append) (xs := #[.tmp 22, .tmp 27]) rfl ?_); at_builtin; refine Kd.R_append (Kd.fixed (Kd.slice 53 k53) w) (w0 := w2) 0 rfl (.tmp 22) (.tmp 27) 22 38 (.slice none 0 0) 24 rfl Try.underlying22 sk_info38 rfl Nat.zero_lt_one (by decide) u5 BB li [.slice A' li.length c'] (fun k => (oko k ∧ k < wr.heap.size) ∨ w2.heap.size ≤ k) (fun _ => False) rfl rfl ⟨A', c', rfl, HLc.out, HCr.out⟩ (fun _ h => h.elim) (fun k h => Or.inr h) (Mine.R_but (Mine.R_more HRow.out (fun k hk h => Or.inl ⟨h, hk⟩)) HBt.out (fun k _ h e => by rcases h with h | h; exact (HKo.out k h.1).2 e; have := HBt.out.size; omega)) (Below.refl _ _) (Nat.zero_le _) (by have := HFit.out.len; omega) ?_; intro v9 w9 hR9 _ hg9 _; have HR9 := Aside0.mk hR9; have HG9 := Aside0.mk hg9; clear hR9 hg9))
        go_roundg k2
        case measure => have := hk2.out; omega
        case rel =>
          have hbl2 : Below w.heap.size w w2 := HBl.out.trans (HBt.out.below (B := w.heap.size) (fun k hk e => by have := HGe.out; omega) HBl.out.size)
          have hown : ∀ k, u5.ownBlock = some k → oko k ∧ k < wr.heap.size := fun k hk => ⟨HRow.out.1 k hk, Kd.R_lt HRow.out k hk⟩
          have hg9 : Mine.But (fun k => some k = u5.ownBlock) w2 w9 := Mine.But.of_grown HG9.out (fun k hk _ => hk.symm)
          refine ⟨i + 1, j + 1, by first | rfl | (rw [show wrap64 (i + 1) = i + 1 by (unfold wrap64; omega)]), ⟨by have := hi.out; omega⟩, ⟨hjl⟩, ⟨by have := hk2.out; omega⟩, ⟨?_⟩⟩
          refine ⟨HGe.out, hbl2.trans (hg9.below (fun k hk e => by have := (HKo.out k (hown k e.symm).1).1; omega) hbl2.size), (fun k => (oks k ∨ wr.heap.size ≤ k) ∧ k < w2.heap.size), (fun k => (oko k ∧ k < wr.heap.size) ∨ w2.heap.size ≤ k), ?_, ?_, ?_, ?_, ?_⟩
          · intro k _ h1 h2
            rcases h2 with h2 | h2
            · rcases h1.1 with h1 | h1
              · exact HDis.out k h2.2 h1 h2.1
              · omega
            · omega
          · intro k h1
            rcases h1.1 with h1 | h1
            · exact HKs.out k h1
            · exact Nat.le_trans HBl.out.size h1
          · intro k h1
            rcases h1 with h1 | h1
            · exact HKo.out k h1.1
            · exact ⟨Nat.le_trans hbl2.size h1, by have := HS2.out.lt; omega⟩
          · refine (HS2.out.more (ok' := fun k => (oks k ∨ wr.heap.size ≤ k) ∧ k < w2.heap.size) (fun k hk h => ⟨h, hk⟩) (fun h => HS2.out.og h.1)).step hg9 (fun e => (HKo.out g (hown g e.symm).1).2 rfl) (fun k _ h e => ?_)
            have h2 := hown k e.symm
            rcases h.1 with h1 | h1
            · exact HDis.out k h2.2 h1 h2.1
            · omega
          · rw [HB'.out]; exact HR9.out
      · have b2 : (er == 0) = false := beq_eq_false_iff_ne.2 h0
        have hcase := att_cases (ck li) BB (costOf BB) li
        have hB' : BUILT ck (L.take (j + 1)) = BB := by
          rcases hcase with h | h
          · rw [HSn.out, h.2]
          · exact absurd (by rw [HEr.out, h.2.2.2]) h0
        have HB' := Aside0.mk hB'
        clear hcase hB' h0
        go_wp2_with (first | (go_at_call 10; (refine (stack_Stack_Attach.calls k A' c' li g BB (costOf BB) (ck li) p_ oks _ (Kd.C_below HCr.out HBl.out) HLc.out HSk.out HP.out (fun h => (HLi.out h).2) HFit.out.len HCi.out.1 HFit.out.cost).mono ?_); rintro e w2 ⟨he, hBt, hS2⟩; rw [← HEr.out] at he; subst he; rw [HFA.out, ← HSn.out] at hS2; have HS2 := Aside0.mk hS2; have HBt := Aside0.mk hBt; clear hS2 hBt zi))
        go_roundg k2
        case measure => have := hk2.out; omega
        case rel =>
          have hbl2 : Below w.heap.size w w2 := HBl.out.trans (HBt.out.below (B := w.heap.size) (fun k hk e => by have := HGe.out; omega) HBl.out.size)
          refine ⟨i + 1, j + 1, by first | rfl | (rw [show wrap64 (i + 1) = i + 1 by (unfold wrap64; omega)]), ⟨by have := hi.out; omega⟩, ⟨hjl⟩, ⟨by have := hk2.out; omega⟩, ⟨?_⟩⟩
          refine ⟨HGe.out, hbl2, (fun k => oks k ∨ wr.heap.size ≤ k), (fun k => oko k ∧ k < wr.heap.size), ?_, ?_, ?_, HS2.out, ?_⟩
          · intro k _ h1 h2
            rcases h1 with h1 | h1
            · exact HDis.out k h2.2 h1 h2.1
            · omega
          · intro k h1
            rcases h1 with h1 | h1
            · exact HKs.out k h1
            · exact Nat.le_trans HBl.out.size h1
          · exact fun k h1 => HKo.out k h1.1
          · rw [HB'.out]
            exact Mine.R_but (Mine.R_more HRow.out (fun k hk h => ⟨h, hk⟩)) HBt.out (fun k _ h e => (HKo.out k h.1).2 e)
    · have b1 : decide (i < (L.length : Int)) = false := decide_eq_false hlt
      have hj2 : j = L.length := by have := hi.out; have := hj.out; omega
      have hB2 := hB.out
      rw [hj2, List.take_length] at hB2
      have HB2 := Aside0.mk hB2
      clear hB2 hB
      go_wp2
      go_ret2
      obtain ⟨hge, hbl, oks, oko, hdis, hks, hko, hSk, hRow⟩ := HB2.out
      exact ⟨g, _, rfl, hge, hbl, hSk.more (fun k _ h => ⟨hks k h, fun e => hSk.og (e ▸ h)⟩) (fun h => h.2 rfl), Mine.R_more hRow (fun k _ h => hko k h)⟩
end Go.Proofs.Yteojfjlklikaoaa.M
