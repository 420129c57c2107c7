/- The law LexJoins, as numbers and lists: what the printed functions say of it is true for every input that the row lets in. -/
import Derived.Test.YtbiccohcikfgeaaMx10
import Derived.Test.YtbiccohcikfgeaaAid
import Derived.Test.YtbiccohcikfgeaaL09
import Derived.Test.YtbiccohcikfgeaaL09a
import Derived.Test.YtbiccohcikfgeaaL09b
import Derived.Test.YtbiccohcikfgeaaL09c
import Derived.Test.YtbiccohcikfgeaaL09d
import Derived.Test.YtbiccohcikfgeaaL09e
namespace Go.Proofs.Ytbiccohcikfgeaa.Pure
open Go Go.RowKit Go.Proofs.Ytbiccohcikfgeaa.M Go.Proofs.Ytbiccohcikfgeaa.Aid Go.Proofs.YtbiccohcikfgeaaW.PrintWords Go.Proofs.YtbiccohcikfgeaaW.PrintLast Go.Proofs.YtbiccohcikfgeaaW.PrintMore
set_option linter.unusedVariables false
set_option linter.unusedSimpArgs false

-- IMPORT L09
-- IMPORT L09a
-- IMPORT L09b
-- IMPORT L09c
-- IMPORT L09d
-- IMPORT L09e
def sepL : Bool → List Int
  | true => [35, 59, 10]
  | false => [9]
theorem sep_blank (b : Bool) (r : List Int) : blankL (sepL b ++ r) false = (sepL b).length + blankL r false := by
  cases b with
  | false =>
    show blankL (9 :: r) false = 1 + blankL r false
    simp only [blankL]
    rw [if_neg (by decide), if_pos (by decide)]
  | true =>
    show blankL (35 :: 59 :: 10 :: r) false = 3 + blankL r false
    simp only [blankL]
    rw [if_pos trivial]
    show 1 + (1 + (1 + blankL r false)) = _
    omega
theorem sep_cons (b : Bool) (r : List Int) : ∃ c r', sepL b ++ r = c :: r' ∧ ¬ goesP c ∧ c ≠ 61 := by
  cases b with
  | false => exact ⟨9, r, rfl, by decide, by decide⟩
  | true => exact ⟨35, 59 :: 10 :: r, rfl, by decide, by decide⟩
def joinL (sep : List Int) : List S31 → List Int
  | [] => []
  | t :: r => ch t.f2 ++ (sep ++ joinL sep r)
def kd3 (t : S31) : Int × ByteArray × Int := (t.f0, t.f2, t.f3)
theorem ch_nil : ch ⟨#[]⟩ = [] := rfl
theorem joinL_len (b : Bool) (s : ByteArray) (f : Nat) : ∀ p, p ≤ s.size → s.size - p < f → (joinL (sepL b) (allP s f p).1).length ≤ 4 * (s.size - p) + 3 := by
  have hs : (sepL b).length ≤ 3 := by cases b <;> decide
  induction f with
  | zero => intro p _ h; omega
  | succ f ih =>
    intro p hp h
    simp only [allP]
    by_cases hlt : p < s.size
    · rw [if_pos hlt]
      by_cases he : (ONE ((ch s).drop p)).2.2.2 = 0
      · have hn := one_len s p hlt he
        have hsz := ext_size s p (ONE ((ch s).drop p)).2.1 hn.2
        have hbl := blankL_le ((ch s).drop (p + (ONE ((ch s).drop p)).2.1)) false
        rw [List.length_drop, ch_len] at hbl
        rw [if_pos he]
        by_cases hr : (allP s f (p + (ONE ((ch s).drop p)).2.1 + blankL ((ch s).drop (p + (ONE ((ch s).drop p)).2.1)) false)).2.1 = 0
        · rw [if_pos hr]
          have := ih (p + (ONE ((ch s).drop p)).2.1 + blankL ((ch s).drop (p + (ONE ((ch s).drop p)).2.1)) false) (by omega) (by omega)
          simp only [joinL, List.length_append, ch_len, TOK]
          omega
        · rw [if_neg hr]
          exact Nat.zero_le _
      · rw [if_neg he]
        exact Nat.zero_le _
    · rw [if_neg hlt]
      simp only [joinL, List.length_append, ch_nil, List.length_nil]
      omega
theorem allP_join (b : Bool) (s : ByteArray) (f : Nat) : ∀ p, p ≤ s.size → s.size - p < f → (allP s f p).2.1 = 0 → ∀ (u : ByteArray) (q f' : Nat), q ≤ u.size → (ch u).drop q = joinL (sepL b) (allP s f p).1 → u.size - q < f' →
    (allP u f' (q + blankL ((ch u).drop q) false)).2.1 = 0 ∧ (allP u f' (q + blankL ((ch u).drop q) false)).1.map kd3 = (allP s f p).1.map kd3 := by
  induction f with
  | zero => intro p _ h; omega
  | succ f ih =>
    intro p hp h h0 u q f' hq hu hf
    have hlen : ((ch u).drop q).length = u.size - q := by rw [List.length_drop, ch_len]
    obtain ⟨f', rfl⟩ : ∃ m, f' = m + 1 := ⟨f' - 1, by omega⟩
    rw [allP] at h0 hu
    rw [allP.eq_2 s p f]
    by_cases hlt : p < s.size
    · rw [if_pos hlt] at h0 hu ⊢
      by_cases he : (ONE ((ch s).drop p)).2.2.2 = 0
      · have hn := one_len s p hlt he
        have hbl := blankL_le ((ch s).drop (p + (ONE ((ch s).drop p)).2.1)) false
        rw [List.length_drop, ch_len] at hbl
        rw [if_pos he] at h0 hu ⊢
        by_cases hr : (allP s f (p + (ONE ((ch s).drop p)).2.1 + blankL ((ch s).drop (p + (ONE ((ch s).drop p)).2.1)) false)).2.1 = 0
        · rw [if_pos hr] at hu ⊢
          have hne : (ch s).drop p ≠ [] := fun e => by have := congrArg List.length e; rw [List.length_drop, ch_len] at this; simp at this; omega
          have hih := ih (p + (ONE ((ch s).drop p)).2.1 + blankL ((ch s).drop (p + (ONE ((ch s).drop p)).2.1)) false) (by omega) (by omega) hr u
          generalize allP s f (p + (ONE ((ch s).drop p)).2.1 + blankL ((ch s).drop (p + (ONE ((ch s).drop p)).2.1)) false) = R at *
          -- the text behind q
          have hct : ch (TOK s p).f2 = ((ch s).drop p).take (ONE ((ch s).drop p)).2.1 := by
            show ch (s.extract p _) = _
            rw [ch_extract, List.drop_take, Nat.add_sub_cancel_left]
          simp only [joinL] at hu
          rw [hct] at hu
          obtain ⟨c, r', e1, e2, e3⟩ := sep_cons b (joinL (sepL b) R.1)
          have hone := one_cut _ he hne c r' e2 e3
          have hnb := one_noblank _ he hne (sepL b ++ joinL (sepL b) R.1)
          rw [← e1, ← hu] at hone
          rw [← hu] at hnb
          have htl : (((ch s).drop p).take (ONE ((ch s).drop p)).2.1).length = (ONE ((ch s).drop p)).2.1 := by rw [List.length_take, List.length_drop, ch_len]; omega
          have hdr : (ch u).drop (q + (ONE ((ch s).drop p)).2.1) = sepL b ++ joinL (sepL b) R.1 := by
            rw [← List.drop_drop, hu, List.drop_left' htl]
          have htk : ((ch u).drop q).take (ONE ((ch s).drop p)).2.1 = ((ch s).drop p).take (ONE ((ch s).drop p)).2.1 := by
            rw [hu, List.take_left' htl]
          have hul := hlen
          rw [hu, List.length_append, htl, List.length_append] at hul
          have hdr2 : (ch u).drop (q + (ONE ((ch s).drop p)).2.1 + (sepL b).length) = joinL (sepL b) R.1 := by
            rw [← List.drop_drop, hdr, List.drop_left' rfl]
          have h3 := hih (q + (ONE ((ch s).drop p)).2.1 + (sepL b).length) f' (by omega) hdr2 (by omega)
          rw [hnb, show q + 0 = q from rfl, allP.eq_2 u q f']
          rw [if_pos (by omega), hone, if_pos he, hdr, sep_blank, ← hdr2, ← Nat.add_assoc, if_pos h3.1]
          refine ⟨rfl, ?_⟩
          rw [List.map_cons, List.map_cons, h3.2]
          congr 1
          unfold kd3 TOK
          simp only
          rw [hone]
          have : u.extract q (q + (ONE ((ch s).drop p)).2.1) = s.extract p (p + (ONE ((ch s).drop p)).2.1) := by
            apply ch_inj
            rw [ch_extract, List.drop_take, Nat.add_sub_cancel_left, htk, ch_extract, List.drop_take, Nat.add_sub_cancel_left]
          rw [this]
        · rw [if_neg hr] at h0
          exact absurd h0 hr
      · rw [if_neg he] at h0
        exact absurd h0 he
    · rw [if_neg hlt] at hu ⊢
      have hu' : (ch u).drop q = sepL b ++ [] := by rw [hu]; rfl
      have e : blankL ((ch u).drop q) false = u.size - q := by
        rw [hu', sep_blank, ← hlen, hu', List.length_append]
        rfl
      rw [e]
      simp only [allP]
      rw [if_neg (by omega)]
      exact ⟨rfl, rfl⟩
theorem joins_same (l m : List S31) (hl : l.length ≤ 100000) (hm : m.map kd3 = l.map kd3) (up : Bool) (d : Nat) : ∀ (k i : Nat), i + d = l.length → d < k → fairleadlaw09_LexJoins.l1 k up l m i = some up := by
  have hml : m.length = l.length := by rw [← List.length_map (f := kd3), hm, List.length_map]
  induction d with
  | zero =>
    intro k i hi hk
    obtain ⟨k, rfl⟩ : ∃ m, k = m + 1 := ⟨k - 1, by omega⟩
    simp only [fairleadlaw09_LexJoins.l1]
    rw [if_neg (by omega)]
  | succ d ih =>
    intro k i hi hk
    obtain ⟨k, rfl⟩ : ∃ m, k = m + 1 := ⟨k - 1, by omega⟩
    have hg : kd3 (rd_T31 m i) = kd3 (rd_T31 l i) := by
      unfold rd_T31
      rw [Int.toNat_natCast, List.getD_eq_getElem?_getD, List.getD_eq_getElem?_getD]
      have : (m.map kd3)[i]? = (l.map kd3)[i]? := by rw [hm]
      rw [List.getElem?_map, List.getElem?_map, List.getElem?_eq_getElem (show i < m.length by omega), List.getElem?_eq_getElem (show i < l.length by omega)] at this
      rw [List.getElem?_eq_getElem (show i < m.length by omega), List.getElem?_eq_getElem (show i < l.length by omega)]
      exact Option.some.inj this
    have g0 := congrArg (fun x => x.1) hg
    have g1 := congrArg (fun x => x.2.1) hg
    have g2 := congrArg (fun x => x.2.2) hg
    simp only [kd3] at g0 g1 g2
    simp only [fairleadlaw09_LexJoins.l1]
    rw [if_pos (by omega), if_pos (by omega), if_pos (by omega), if_pos g0, if_pos (by rw [g1]), if_pos g2, w64_id (by omega) (by omega)]
    have := ih k (i + 1) (by omega) (by omega)
    rwa [show ((i + 1 : Nat) : Int) = (i : Int) + 1 from by omega] at this
theorem ch_app (a b : ByteArray) : ch (a ++ b) = ch a ++ ch b := by
  unfold ch
  rw [ByteArray.data_append, Array.toList_append, List.map_append]
theorem joins_loop (l : List S31) (hl : l.length ≤ 100000) (b up : Bool) (hsz : (joinL (sepL b) l).length ≤ 8191) (hend : ∀ u : ByteArray, ch u = 32 :: joinL (sepL b) l → (ALL u).2.1 = 0 ∧ (ALL u).1.map kd3 = l.map kd3) (d : Nat) :
    ∀ (k i : Nat) (x : ByteArray), i + d = l.length → d + 100000 + 40000 < k → ch x ++ joinL (sepL b) (l.drop i) = 32 :: joinL (sepL b) l → fairleadlaw09_LexJoins.l0 k b up l x i = some up := by
  induction d with
  | zero =>
    intro k i x hi hk hx
    obtain ⟨k, rfl⟩ : ∃ m, k = m + 2 := ⟨k - 2, by omega⟩
    rw [List.drop_of_length_le (by omega)] at hx
    simp only [joinL, List.append_nil] at hx
    obtain ⟨h1, h2⟩ := hend x hx
    have h3 : (ALL x).1.length = l.length := by rw [← List.length_map (f := kd3), h2, List.length_map]
    simp only [fairleadlaw09_LexJoins.l0]
    rw [if_neg (by omega), all_is x _ (by omega), Option.bind_some, if_pos h1, h3]
    simp only [fairleadlaw09_LexJoins.j1]
    rw [if_neg (by simp)]
    have := joins_same l (ALL x).1 hl h2 up l.length k 0 (by omega) (by omega)
    rwa [Int.natCast_zero] at this
  | succ d ih =>
    intro k i x hi hk hx
    obtain ⟨k, rfl⟩ : ∃ m, k = m + 1 := ⟨k - 1, by omega⟩
    have hi' : i < l.length := by omega
    have hd := List.drop_eq_getElem_cons hi'
    have hrd : rd_T31 l i = l[i] := by
      unfold rd_T31
      rw [Int.toNat_natCast, List.getD_eq_getElem?_getD, List.getElem?_eq_getElem hi']
      rfl
    rw [hd] at hx
    simp only [joinL] at hx
    have hlen := congrArg List.length hx
    simp only [List.length_append, List.length_cons, ch_len] at hlen
    have ei : wrap64 ((i : Int) + 1) = ((i + 1 : Nat) : Int) := by rw [w64_id (by omega) (by omega)]; omega
    simp only [fairleadlaw09_LexJoins.l0]
    rw [if_pos (by omega), if_pos (by omega), hrd, if_pos (by omega), ei, ByteArray.size_append]
    have hsep : (sepL b).length ≤ 3 := by cases b <;> decide
    cases b with
    | true =>
      rw [if_pos rfl, if_pos (by omega)]
      apply ih k (i + 1) _ (by omega) (by omega)
      rw [ch_app, ch_app, ← hx]
      simp only [List.append_assoc]
      rfl
    | false =>
      rw [if_neg (by decide), if_pos (by omega)]
      apply ih k (i + 1) _ (by omega) (by omega)
      rw [ch_app, ch_app, ← hx]
      simp only [List.append_assoc]
      rfl
theorem LexJoins : fairleadlaw09_LexJoins.Pure := by
  intro s b _
  refine ⟨200000 + 0, ?_⟩
  generalize hK : 200000 + 0 = K
  have hk : 200000 ≤ K := by omega
  have hl := ALL_len s
  unfold fairleadlaw09_LexJoins.f
  rw [awake09 K (by omega), Option.bind_some]
  by_cases h : s.size ≤ 2000
  · have hb := blankL_le (ch s) false
    rw [ch_len] at hb
    rw [if_neg (by omega), all_is s K (by omega), Option.bind_some]
    have hA : ALL s = fin [] (allP s (s.size + 1) (blankL (ch s) false)) := by unfold ALL; rw [if_neg (by omega)]
    by_cases he : (allP s (s.size + 1) (blankL (ch s) false)).2.1 = 0
    · have hf : fin [] (allP s (s.size + 1) (blankL (ch s) false)) = ((allP s (s.size + 1) (blankL (ch s) false)).1, 0, (allP s (s.size + 1) (blankL (ch s) false)).2.2) := by
        unfold fin
        rw [if_pos he, List.nil_append]
      rw [hA, hf] at hl
      rw [hA, hf, if_pos rfl]
      have hjl := joinL_len b s (s.size + 1) (blankL (ch s) false) hb (by omega)
      have hj := allP_join b s (s.size + 1) (blankL (ch s) false) hb (by omega) he
      generalize allP s (s.size + 1) (blankL (ch s) false) = R at *
      have := joins_loop R.1 (show R.1.length ≤ 100000 by simp only at hl; omega) b true (by omega) (fun u hu => by
        have hul : u.size = (joinL (sepL b) R.1).length + 1 := by rw [← ch_len, hu, List.length_cons]
        have hd : (ch u).drop 1 = joinL (sepL b) R.1 := by rw [hu]; rfl
        have h3 := hj u 1 (u.size + 1) (by omega) hd (by omega)
        have hbl : blankL (ch u) false = 1 + blankL ((ch u).drop 1) false := by
          rw [hd, hu]
          simp only [blankL]
          rw [if_neg (by decide), if_pos (by decide)]
        unfold ALL fin
        rw [if_neg (by omega), hbl, if_pos h3.1, List.nil_append]
        exact ⟨rfl, h3.2⟩) R.1.length K 0 ⟨#[32]⟩ (by omega) (by simp only at hl; omega) rfl
      rwa [Int.natCast_zero] at this
    · have hf : fin [] (allP s (s.size + 1) (blankL (ch s) false)) = ([], (allP s (s.size + 1) (blankL (ch s) false)).2) := by
        unfold fin
        rw [if_neg he]
      rw [hA, hf, if_neg he]
  · rw [if_pos (by omega)]

end Go.Proofs.Ytbiccohcikfgeaa.Pure
