/- The law ParseBounds, as numbers and lists: what the printed functions say of it is true for every input that the row lets in. -/
import Derived.Test.YtfahchgglapglaaPbMx22
import Derived.Test.YtfahchgglapglaaPbAid
import Derived.Test.YtfahchgglapglaaPbK09
import Derived.Test.YtfahchgglapglaaPbK10
namespace Go.Proofs.Ytfahchgglapglaa.Pure
open Go Go.RowKit Go.Proofs.Ytfahchgglapglaa.M Go.Proofs.Ytfahchgglapglaa.Aid Go.Proofs.YtfahchgglapglaaW.PrintWords Go.Proofs.YtfahchgglapglaaW.PrintLast Go.Proofs.YtfahchgglapglaaW.PrintMore
set_option linter.unusedVariables false
set_option linter.unusedSimpArgs false
-- IMPORT K09
-- IMPORT K10
theorem numG_ge (b : Int) (hb : 0 ≤ b) : ∀ (l : List Int) (n v : Int), 0 ≤ n → numG b l n = some v → 0 ≤ v := by
  intro l
  induction l with
  | nil => intro n v hn h; simp only [numG] at h; cases h; exact hn
  | cons c l ih =>
    intro n v hn h
    simp only [numG] at h
    split at h
    · cases h
    · have hd := digV_in c
      have hm := Int.mul_nonneg hn hb
      exact ih _ _ (by omega) h
/-- A token of a text of n bytes. -/
structure TKok (n : Int) (t : S39) : Prop where
  at_ : 0 ≤ t.f1 ∧ t.f1 ≤ n
  num : 0 ≤ t.f3
  word : t.f0 = 1 → ISW t.f2 = true
def AllOk (n : Int) (ts : List S39) : Prop := ∀ t ∈ ts, TKok n t
theorem AllOk.tail {n : Int} {t : S39} {r : List S39} (h : AllOk n (t :: r)) : AllOk n r := fun x hx => h x (List.mem_cons_of_mem _ hx)
theorem AllOk.head {n : Int} {t : S39} {r : List S39} (h : AllOk n (t :: r)) : TKok n t := h t (List.mem_cons_self ..)
def Fit {α : Type} (n : Int) (Q : α → Prop) : PRes α → Prop
  | .bad _ q => 0 ≤ q ∧ q ≤ n
  | .ok a => Q a
def Fit2 {α : Type} (n : Int) (Q : α → Prop) (p : PRes (α × List S39)) : Prop := Fit n (fun x => Q x.1 ∧ AllOk n x.2) p
theorem Fit.then_ {α β : Type} {n : Int} {Q : α → Prop} {R : β → Prop} {p : PRes α} {f : α → PRes β} (h : Fit n Q p) (hf : ∀ a, Q a → Fit n R (f a)) : Fit n R (thenP p f) := by
  cases p with
  | bad e q => exact h
  | ok a => exact hf a h
theorem Fit.mono {α : Type} {n : Int} {Q R : α → Prop} {p : PRes α} (h : Fit n Q p) (hf : ∀ a, Q a → R a) : Fit n R p := by
  cases p with
  | bad e q => exact h
  | ok a => exact hf a h
theorem fit_bad0 {α : Type} {n : Int} (hn : 0 ≤ n) (Q : α → Prop) (e : Int) : Fit n Q (.bad e 0) := ⟨Int.le_refl _, hn⟩
theorem fit_bad {α : Type} {n : Int} {t : S39} (h : TKok n t) (Q : α → Prop) (e : Int) : Fit n Q (.bad e t.f1) := h.at_
theorem kindP_le (s : ByteArray) : 0 ≤ kindP s ∧ kindP s ≤ 8 := by
  unfold kindP
  repeat' split
  all_goals omega
theorem opN_le (t : S39) : 0 ≤ opN t ∧ opN t ≤ 6 := by
  unfold opN
  repeat' split
  all_goals omega
def ActOk (x : Int × Int) : Prop := 1 ≤ x.1 ∧ x.1 ≤ 8 ∧ 0 ≤ x.2 ∧ x.2 ≤ 65535
theorem fit_act {n : Int} (hn : 0 ≤ n) (room : Bool) {ts : List S39} (h : AllOk n ts) : Fit2 n ActOk (actP room ts) := by
  cases ts with
  | nil => exact fit_bad0 hn _ _
  | cons t r =>
    have hk := kindP_le t.f2
    simp only [actP]
    split
    · exact fit_bad h.head _ _
    · rename_i h1
      have hk0 : kindP t.f2 ≠ 0 := fun e => h1 (.inr e)
      split
      · exact fit_bad h.head _ _
      · split
        · exact ⟨⟨by show 1 ≤ kindP t.f2; omega, hk.2, Int.le_refl _, by show (0 : Int) ≤ 65535; decide⟩, h.tail⟩
        · cases r with
          | nil => exact fit_bad0 hn _ _
          | cons u r =>
            simp only
            have hu := h.tail.head
            split
            · exact fit_bad hu _ _
            · rename_i h4
              split
              · rename_i h5
                have hw : wrap64 u.f3 = u.f3 := by have := hu.num; rw [w64_id (by omega) (by omega)]
                exact ⟨⟨by show 1 ≤ kindP t.f2; omega, hk.2, by show 0 ≤ wrap64 u.f3; rw [hw]; exact hu.num, by show wrap64 u.f3 ≤ _; rw [hw]; omega⟩, h.tail.tail⟩
              · exact fit_bad hu _ _
theorem fit_semi {n : Int} (hn : 0 ≤ n) {ts : List S39} (h : AllOk n ts) : Fit n (AllOk n) (semiP ts) := by
  cases ts with
  | nil => exact fit_bad0 hn _ _
  | cons t r =>
    simp only [semiP]
    split
    · exact h.tail
    · exact fit_bad h.head _ _
theorem fit_must {n : Int} (hn : 0 ≤ n) (k : Int) {ts : List S39} (h : AllOk n ts) : Fit2 n (fun _ => True) (mustP k ts) := by
  cases ts with
  | nil => exact fit_bad0 hn _ _
  | cons t r =>
    simp only [mustP]
    split
    · exact ⟨trivial, h.tail⟩
    · exact fit_bad h.head _ _
theorem fit_op {n : Int} (hn : 0 ≤ n) {ts : List S39} (h : AllOk n ts) : Fit2 n (fun o => 1 ≤ o ∧ o ≤ 6) (opP ts) := by
  cases ts with
  | nil => exact fit_bad0 hn _ _
  | cons t r =>
    have := opN_le t
    simp only [opP]
    split
    · exact fit_bad h.head _ _
    · rename_i h0
      exact ⟨⟨by show 1 ≤ opN t; omega, this.2⟩, h.tail⟩
def CondOk (c : S46) : Prop := 0 ≤ c.f0 ∧ c.f0 ≤ 5 ∧ 1 ≤ c.f1 ∧ c.f1 ≤ 6
theorem fit_rest {n : Int} (hn : 0 ≤ n) {a m : Int} (ha : 0 ≤ a ∧ a ≤ 5) {ts : List S39} (h : AllOk n ts) : Fit2 n CondOk (restP ts a m) := by
  unfold restP
  refine (fit_op hn h).then_ (fun x hx => ?_)
  refine (fit_must hn 2 hx.2).then_ (fun y hy => ?_)
  exact ⟨⟨ha.1, ha.2, hx.1.1, hx.1.2⟩, hy.2⟩
theorem fit_cond {n : Int} (hn : 0 ≤ n) (room : Bool) {ts : List S39} (h : AllOk n ts) : Fit2 n CondOk (condP room ts) := by
  cases ts with
  | nil => exact fit_bad0 hn _ _
  | cons t r =>
    simp only [condP]
    split
    · rename_i ha
      have ha' : 0 ≤ bt t.f2 3 - 48 ∧ bt t.f2 3 - 48 ≤ 5 := by have := ha.2.2.2; omega
      split
      · exact fit_bad h.head _ _
      · cases r with
        | nil => exact fit_bad0 hn _ _
        | cons u r =>
          simp only
          split
          · exact (fit_must hn 2 h.tail.tail).then_ (fun y hy => fit_rest hn ha' hy.2)
          · exact fit_rest hn ha' h.tail
    · exact fit_bad h.head _ _
theorem fit_conds {n : Int} (hn : 0 ≤ n) (f : Nat) : ∀ {cs : List S46} {ts : List S39}, AllOk n ts → (∀ c ∈ cs, CondOk c) → Fit2 n (fun l => ∀ c ∈ l, CondOk c) (condsP f cs ts) := by
  induction f with
  | zero => intro cs ts h hc; exact fit_bad0 hn _ _
  | succ f ih =>
    intro cs ts h hc
    simp only [condsP]
    refine (fit_cond hn _ h).then_ (fun x hx => ?_)
    have hcs : ∀ c ∈ cs ++ [x.1], CondOk c := fun c hm => by
      rcases List.mem_append.1 hm with hm | hm
      · exact hc c hm
      · rw [List.mem_singleton.1 hm]; exact hx.1
    obtain ⟨c, r⟩ := x
    cases r with
    | nil => exact fit_bad0 hn _ _
    | cons u r =>
      simp only
      split
      · exact ih hx.2.tail hcs
      · exact ⟨hcs, hx.2⟩
theorem fit_names {n : Int} (hn : 0 ≤ n) (ns : List ByteArray) (ts : List S39) (h : AllOk n ts) (hw : ∀ s ∈ ns, ISW s = true) : Fit2 n (fun l => ∀ s ∈ l, ISW s = true) (namesP ns ts) := by
  have step : ∀ (ns : List ByteArray) (t : S39), TKok n t → t.f0 = 1 → (∀ s ∈ ns, ISW s = true) → ∀ s ∈ ns ++ [t.f2], ISW s = true := fun ns t ht h1 hw s hm => by
    rcases List.mem_append.1 hm with hm | hm
    · exact hw s hm
    · rw [List.mem_singleton.1 hm]; exact ht.word h1
  induction ns, ts using namesP.induct with
  | case1 ns => exact fit_bad0 hn _ _
  | case2 ns t h1 h2 => simp only [namesP, h1, h2, if_true]; exact fit_bad h.head _ _
  | case3 ns t h1 h2 => simp only [namesP, h1, h2, if_true, if_false]; exact fit_bad0 hn _ _
  | case4 ns t h1 => simp only [namesP, h1, if_false]; exact fit_bad h.head _ _
  | case5 ns t u r h1 h2 => simp only [namesP, h1, h2, if_true]; exact fit_bad h.head _ _
  | case6 ns t u r h1 h2 h3 ih => simp only [namesP, h1, h2, h3, if_true, if_false]; exact ih h.tail.tail (step ns t h.head h1 hw)
  | case7 ns t u r h1 h2 h3 => simp only [namesP, h1, h2, h3, if_true, if_false]; exact ⟨step ns t h.head h1 hw, h.tail⟩
  | case8 ns t u r h1 => simp only [namesP, h1, if_false]; exact fit_bad h.head _ _
theorem fit_when {n : Int} (hn : 0 ≤ n) {ts : List S39} (h : AllOk n ts) : Fit2 n (fun l => ∀ c ∈ l, CondOk c) (whenP ts) := by
  cases ts with
  | nil => exact fit_bad0 hn _ _
  | cons t r =>
    simp only [whenP]
    split
    · exact fit_conds hn _ h.tail (by simp)
    · exact ⟨by simp, h⟩
structure RuleFit (x : S44) : Prop where
  act : ActOk (x.f0.f0, x.f0.f1)
  words : ∀ s ∈ x.f1, ISW s = true
  conds : ∀ c ∈ x.f2, CondOk c
theorem fit_rule {n : Int} (hn : 0 ≤ n) (room : Bool) {ts : List S39} (h : AllOk n ts) : Fit2 n RuleFit (ruleP room ts) := by
  unfold ruleP
  refine (fit_act hn room h).then_ (fun x hx => ?_)
  refine (fit_names hn [] _ hx.2 (by simp)).then_ (fun y hy => ?_)
  unfold tailP
  refine (fit_when hn hy.2).then_ (fun z hz => ?_)
  refine (fit_semi hn hz.2).then_ (fun r hr => ?_)
  exact ⟨⟨hx.1, hy.1, hz.1⟩, hr⟩
theorem fit_rules {n : Int} (hn : 0 ≤ n) (f : Nat) : ∀ {rs : List S44} {ts : List S39}, AllOk n ts → (∀ x ∈ rs, RuleFit x) → Fit n (fun l => ∀ x ∈ l, RuleFit x) (rulesP f rs ts) := by
  induction f with
  | zero => intro rs ts h hr; exact fit_bad0 hn _ _
  | succ f ih =>
    intro rs ts h hr
    cases ts with
    | nil => exact fit_bad0 hn _ _
    | cons t r =>
      simp only [rulesP]
      split
      · exact hr
      · refine (fit_rule hn _ h).then_ (fun x hx => ?_)
        refine ih hx.2 (fun z hm => ?_)
        rcases List.mem_append.1 hm with hm | hm
        · exact hr z hm
        · rw [List.mem_singleton.1 hm]; exact hx.1
theorem fit_parse {n : Int} (hn : 0 ≤ n) {ts : List S39} (h : AllOk n ts) : Fit n (fun x => ActOk (x.1, x.2.1) ∧ ∀ y ∈ x.2.2, RuleFit y) (parseP ts) := by
  cases ts with
  | nil => exact fit_bad0 hn _ _
  | cons t r =>
    simp only [parseP]
    split
    · refine (fit_act hn true h.tail).then_ (fun x hx => ?_)
      refine (fit_semi hn hx.2).then_ (fun r hr => ?_)
      refine (fit_rules hn _ hr (by simp)).then_ (fun rs hs => ?_)
      exact ⟨hx.1, hs⟩
    · exact fit_bad h.head _ _
theorem one_num (l : List Int) : 0 ≤ (ONE l).2.2.1 := by
  unfold ONE
  split
  · exact Int.le_refl _
  · split
    · split
      · rename_i v hv
        show 0 ≤ v
        unfold NUM at hv
        split at hv
        · split at hv
          · exact numG_ge _ (by decide) _ _ _ (Int.le_refl _) hv
          · cases hv
        · exact numG_ge _ (by decide) _ _ _ (Int.le_refl _) hv
      · exact Int.le_refl _
    · split <;> exact Int.le_refl _
theorem lenL_pre (l : List Int) : lenL (l.take (lenL l)) = lenL l := by
  induction l with
  | nil => rfl
  | cons x l ih =>
    by_cases h : goesP x
    · have e : lenL (x :: l) = lenL l + 1 := by simp only [lenL]; rw [if_pos h]; omega
      rw [e, List.take_succ_cons]
      simp only [lenL]
      rw [if_pos h, ih]
      omega
    · have e : lenL (x :: l) = 0 := by simp only [lenL]; rw [if_neg h]
      rw [e, List.take_zero]
      rfl
theorem one_word (l : List Int) (h : (ONE l).1 = 1) : smallP (rd l 0) ∧ (ONE l).2.1 = lenL l := by
  unfold ONE at h ⊢
  split at h
  · rename_i h1
    rw [if_pos h1]
    exact ⟨h1, rfl⟩
  · split at h
    · split at h
      · exact absurd (show (2 : Int) = 1 from h) (by decide)
      · exact absurd (show (0 : Int) = 1 from h) (by decide)
    · split at h
      · exact absurd (show (3 : Int) = 1 from h) (by decide)
      · exact absurd (show (0 : Int) = 1 from h) (by decide)
theorem rd_take (l : List Int) (n : Nat) (hn : 0 < n) (hl : 0 < l.length) : rd (l.take n) 0 = rd l 0 := by
  cases l with
  | nil => simp at hl
  | cons x l =>
    obtain ⟨n, rfl⟩ : ∃ m, n = m + 1 := ⟨n - 1, by omega⟩
    rfl
theorem TOK_ok (s : ByteArray) (p : Nat) (hp : p < s.size) (he : (ONE ((ch s).drop p)).2.2.2 = 0) : TKok (s.size : Int) (TOK s p) := by
  have hl := one_len s p hp he
  refine ⟨⟨by show (0 : Int) ≤ p; omega, by show (p : Int) ≤ _; omega⟩, one_num _, fun h1 => ?_⟩
  obtain ⟨h2, h3⟩ := one_word _ h1
  show ISW (s.extract p (p + (ONE ((ch s).drop p)).2.1)) = true
  have hz := ext_size s p _ hl.2
  have hc : ch (s.extract p (p + (ONE ((ch s).drop p)).2.1)) = ((ch s).drop p).take (ONE ((ch s).drop p)).2.1 := by
    rw [ch_extract, List.drop_take]
    congr 1
    omega
  have hdl : 0 < ((ch s).drop p).length := by rw [List.length_drop, ch_len]; omega
  unfold ISW
  refine decide_eq_true ⟨by rw [hz]; exact hl.1, ?_, ?_⟩
  · have hb := rd_ch (s.extract p (p + (ONE ((ch s).drop p)).2.1)) 0 (by rw [hz]; exact hl.1)
    rw [hc] at hb
    have hb' : bt (s.extract p (p + (ONE ((ch s).drop p)).2.1)) 0 = rd ((ch s).drop p) 0 := by
      rw [← rd_take _ _ hl.1 hdl]; exact hb.symm
    rw [hb']
    exact h2
  · rw [hc, hz, h3, lenL_pre]
theorem allP_toks (s : ByteArray) (f : Nat) : ∀ p, p ≤ s.size → AllOk (s.size : Int) (allP s f p).1 := by
  induction f with
  | zero => intro p hp t ht; cases ht
  | succ f ih =>
    intro p hp
    simp only [allP]
    split
    · rename_i hlt
      split
      · rename_i he
        have hn := one_len s p hlt he
        have hbl := blankL_le ((ch s).drop (p + (ONE ((ch s).drop p)).2.1)) false
        rw [List.length_drop, ch_len] at hbl
        split
        · intro t ht
          rcases List.mem_cons.1 ht with ht | ht
          · subst ht; exact TOK_ok s p hlt he
          · exact ih _ (by omega) t ht
        · intro t ht; cases ht
      · intro t ht; cases ht
    · intro t ht
      rw [List.mem_singleton.1 ht]
      exact ⟨⟨by show (0 : Int) ≤ s.size; omega, Int.le_refl _⟩, Int.le_refl _, fun h => absurd (show (4 : Int) = 1 from h) (by decide)⟩
theorem ALL_toks (s : ByteArray) : AllOk (s.size : Int) (ALL s).1 := by
  have hb := blankL_le (ch s) false
  rw [ch_len] at hb
  unfold ALL
  split
  · intro t ht; cases ht
  · unfold fin
    split
    · exact allP_toks s _ _ hb
    · intro t ht; cases ht
theorem ALL_place (s : ByteArray) (hs : s.size ≤ 8192) (h : (ALL s).2.1 ≠ 0) : 0 ≤ (ALL s).2.2 ∧ (ALL s).2.2 ≤ (s.size : Int) := by
  have hb := blankL_le (ch s) false
  rw [ch_len] at hb
  unfold ALL at h ⊢
  rw [if_neg (by omega)] at h ⊢
  unfold fin at h ⊢
  by_cases h0 : (allP s (s.size + 1) (blankL (ch s) false)).2.1 = 0
  · rw [if_pos h0] at h; exact absurd rfl h
  · rw [if_neg h0]
    have hx := (allP_bad s (s.size + 1) _ hb (by omega) h0).2.2
    show 0 ≤ (allP s _ _).2.2 ∧ (allP s _ _).2.2 ≤ _
    omega
theorem PARSE_fit (s : ByteArray) (h : (PARSE s).2.2.2.1 = 0) : ActOk ((PARSE s).1, (PARSE s).2.1) ∧ ∀ y ∈ (PARSE s).2.2.1, RuleFit y := by
  obtain ⟨h0, x, hx, e⟩ := PARSE_read s h
  have hf := fit_parse (n := (s.size : Int)) (by omega) (ALL_toks s)
  rw [hx] at hf
  rw [e]
  exact hf
theorem PARSE_place (s : ByteArray) (hs : s.size ≤ 8192) (h : (PARSE s).2.2.2.1 ≠ 0) : (PARSE s).1 = 0 ∧ (PARSE s).2.1 = 0 ∧ (PARSE s).2.2.1 = [] ∧ 0 ≤ (PARSE s).2.2.2.2 ∧ (PARSE s).2.2.2.2 ≤ (s.size : Int) := by
  unfold PARSE at h ⊢
  by_cases h0 : (ALL s).2.1 = 0
  · rw [if_pos h0] at h ⊢
    have hf := fit_parse (n := (s.size : Int)) (by omega) (ALL_toks s)
    cases hp : parseP (ALL s).1 with
    | ok x => rw [hp] at h; exact absurd rfl h
    | bad e q =>
      rw [hp] at hf
      exact ⟨rfl, rfl, rfl, hf.1, hf.2⟩
  · rw [if_neg h0]
    exact ⟨rfl, rfl, rfl, ALL_place s hs h0⟩
theorem rdOf_mem (l : List ByteArray) (y : Int) (h0 : 0 ≤ y) (h1 : y < (l.length : Int)) : rdOf ByteArray.empty l y ∈ l := by
  unfold rdOf
  rw [List.getD_eq_getElem?_getD, List.getElem?_eq_getElem (by omega)]
  exact List.getElem_mem _
theorem rdR_mem (l : List S44) (y : Int) (h0 : 0 ≤ y) (h1 : y < (l.length : Int)) : rd_T44 l y ∈ l := by
  unfold rd_T44
  rw [List.getD_eq_getElem?_getD, List.getElem?_eq_getElem (by omega)]
  exact List.getElem_mem _
theorem rdC_mem (l : List S46) (y : Int) (h0 : 0 ≤ y) (h1 : y < (l.length : Int)) : rd_T46 l y ∈ l := by
  unfold rd_T46
  rw [List.getD_eq_getElem?_getD, List.getElem?_eq_getElem (by omega)]
  exact List.getElem_mem _
/-- A word's size: how much the bound for it must be. -/
def words_max : List S44 → Nat
  | [] => 0
  | x :: r => (x.f1.map (fun s => s.size)).sum + words_max r
theorem sum_mem (l : List ByteArray) (s : ByteArray) (h : s ∈ l) : s.size ≤ (l.map (fun s => s.size)).sum := by
  induction l with
  | nil => cases h
  | cons a l ih =>
    rw [List.map_cons, List.sum_cons]
    rcases List.mem_cons.1 h with h | h
    · subst h; omega
    · have := ih h; omega
theorem words_mem (l : List S44) (x : S44) (h : x ∈ l) (s : ByteArray) (hs : s ∈ x.f1) : s.size ≤ words_max l := by
  induction l with
  | nil => cases h
  | cons a l ih =>
    simp only [words_max]
    rcases List.mem_cons.1 h with h | h
    · subst h; have := sum_mem _ _ hs; omega
    · have := ih h; omega
theorem ParseBounds : fairleadlaw10_ParseBounds.Pure := by
  intro s hs
  refine ⟨40000 + words_max (PARSE s).2.2.1 + 1, ?_⟩
  unfold fairleadlaw10_ParseBounds.f
  rw [awake10 _ (by omega), Option.bind_some, if_pos rfl]
  by_cases h1 : (s.size : Int) > 8192
  · rw [if_pos h1]
  · rw [if_neg h1, parse_is s _ (by omega), Option.bind_some]
    by_cases h0 : (PARSE s).2.2.2.1 = 0
    · rw [if_pos h0]
      have hf := PARSE_fit s h0
      have hk := PARSE_ok s
      refine if_pos ⟨hf.1.1, hf.1.2.1, hk.1, fun j j0 j1 => ?_⟩
      have hm := rdR_mem _ j j0 j1
      have hr := hf.2 _ hm
      have ho := hk.2 _ hm
      refine ⟨hr.act.1, hr.act.2.1, hr.act.2.2.1, hr.act.2.2.2, ho.names.1, ho.names.2, ho.conds, fun y y0 y1 => ?_, fun z z0 z1 => hr.conds _ (rdC_mem _ z z0 z1)⟩
      have hn := rdOf_mem _ y y0 y1
      rw [is_is _ _ (by have := words_mem _ _ hm _ hn; omega), hr.words _ hn]
    · rw [if_neg h0]
      exact if_pos (PARSE_place s (by omega) h0)
end Go.Proofs.Ytfahchgglapglaa.Pure
