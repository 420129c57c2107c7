/- The law VmHolds, as numbers and lists: what the printed functions say of it is true for every input that the row lets in. -/
import Derived.Test.YtdlmnmhlgacpnaaMx14
import Derived.Test.YtdlmnmhlgacpnaaAid
import Derived.Test.YtdlmnmhlgacpnaaL06
import Derived.Test.YtdlmnmhlgacpnaaL06a
namespace Go.Proofs.Ytdlmnmhlgacpnaa.Pure
open Go Go.RowKit Go.Proofs.Ytdlmnmhlgacpnaa.M Go.Proofs.Ytdlmnmhlgacpnaa.Aid Go.Proofs.YtdlmnmhlgacpnaaW.PrintWords Go.Proofs.YtdlmnmhlgacpnaaW.PrintLast Go.Proofs.YtdlmnmhlgacpnaaW.PrintMore
set_option linter.unusedVariables false
set_option linter.unusedSimpArgs false

-- IMPORT L06
-- IMPORT L06a
/-- LdImm a; a jump of K over one instruction; RetK 1; RetK 2. -/
theorem hold4 (k : Nat) (hk : 5000 ≤ k) (c a n : Int) (is : Bool) (ha : 0 ≤ a ∧ a ≤ 4294967295) (hn : 0 ≤ n ∧ n ≤ 4294967295) (hc : 0 ≤ c ∧ c ≤ 65535) (h32 : (c == 32) = false) (hC : (CH ([⟨0, 0, 0, a⟩, ⟨c, 0, 1, n⟩, ⟨6, 0, 0, 1⟩, ⟨6, 0, 0, 2⟩] : List S37)).1 = 0) (hmv : ∀ s, vm_MV c n s = some (false, s)) (hst : vm_ST c 0 1 n { S0 with a := a } = ((if is = true then wrap64 0 else wrap64 1), { S0 with a := a })) :
    ∃ m, vm_Run.f (k + 5) ([⟨0, 0, 0, a⟩, ⟨c, 0, 1, n⟩, ⟨6, 0, 0, 1⟩, ⟨6, 0, 0, 2⟩] : List S37) 0 0 0 0 0 0 0 0 0 = some (if is = true then 1 else 2, m, 0) := by
  have ho : ∀ x ∈ ([⟨0, 0, 0, a⟩, ⟨c, 0, 1, n⟩, ⟨6, 0, 0, 1⟩, ⟨6, 0, 0, 2⟩] : List S37), InsOk x := by
    intro x hx
    simp only [List.mem_cons, List.not_mem_nil, or_false] at hx
    rcases hx with rfl | rfl | rfl | rfl
    · exact ins_ok4 (by decide) (by decide) (by decide) ha
    · exact ins_ok4 hc (by decide) (by decide) hn
    · exact ins_ok4 (by decide) (by decide) (by decide) (by decide)
    · exact ins_ok4 (by decide) (by decide) (by decide) (by decide)
  rw [w64_id (by decide) (by decide), w64_id (by decide) (by decide)] at hst
  cases is with
  | true =>
    rw [if_pos rfl] at hst ⊢
    refine ⟨3, run_small (k + 5) (by omega) _ ho hC 0 0 0 0 0 0 0 0 0 1 [0, 1, 2] ?_⟩
    refine (l0_go (k + 4) _ 0 0 0 0 0 0 0 0 0 0 S0 [] 0 { S0 with a := a } ⟨0, 0, 0, a⟩ rfl rfl ⟨by decide, by show (0 : Int) < 4; decide, by decide⟩ (st_moves (k + 4) 0 0 0 a 0 0 0 0 0 0 0 0 0 S0 _ rfl rfl) 1 (wr 0 (by decide) 0 (by decide))).trans ?_
    refine (l0_go (k + 3) _ 0 0 0 0 0 0 0 0 0 1 _ [0] 0 { S0 with a := a } ⟨c, 0, 1, n⟩ rfl rfl ⟨by decide, by show (1 : Int) < 4; decide, by decide⟩ ((st_other (k + 3) c 0 1 n 0 0 0 0 0 0 0 0 0 { S0 with a := a } h32 (hmv _) (Int.le_refl 0) hn).trans (by rw [hst])) 2 (wr 1 (by decide) 0 (by decide))).trans ?_
    refine (l0_go (k + 2) _ 0 0 0 0 0 0 0 0 0 2 _ [0, 1] 0 { S0 with a := a, o := true, r := 1 } ⟨6, 0, 0, 1⟩ rfl rfl ⟨by decide, by show (2 : Int) < 4; decide, by decide⟩ (st_moves (k + 2) 6 0 0 1 0 0 0 0 0 0 0 0 0 _ _ rfl rfl) 3 (wr 2 (by decide) 0 (by decide))).trans ?_
    exact l0_end _ _ _ _ _ _ _ _ _ _ _ _ _ _ rfl
  | false =>
    rw [if_neg (by decide)] at hst ⊢
    refine ⟨3, run_small (k + 5) (by omega) _ ho hC 0 0 0 0 0 0 0 0 0 2 [0, 1, 3] ?_⟩
    refine (l0_go (k + 4) _ 0 0 0 0 0 0 0 0 0 0 S0 [] 0 { S0 with a := a } ⟨0, 0, 0, a⟩ rfl rfl ⟨by decide, by show (0 : Int) < 4; decide, by decide⟩ (st_moves (k + 4) 0 0 0 a 0 0 0 0 0 0 0 0 0 S0 _ rfl rfl) 1 (wr 0 (by decide) 0 (by decide))).trans ?_
    refine (l0_go (k + 3) _ 0 0 0 0 0 0 0 0 0 1 _ [0] 1 { S0 with a := a } ⟨c, 0, 1, n⟩ rfl rfl ⟨by decide, by show (1 : Int) < 4; decide, by decide⟩ ((st_other (k + 3) c 0 1 n 0 0 0 0 0 0 0 0 0 { S0 with a := a } h32 (hmv _) (Int.le_refl 0) hn).trans (by rw [hst])) 3 (wr 1 (by decide) 1 (by decide))).trans ?_
    refine (l0_go (k + 2) _ 0 0 0 0 0 0 0 0 0 3 _ [0, 1] 0 { S0 with a := a, o := true, r := 2 } ⟨6, 0, 0, 2⟩ rfl rfl ⟨by decide, by show (3 : Int) < 4; decide, by decide⟩ (st_moves (k + 2) 6 0 0 2 0 0 0 0 0 0 0 0 0 _ _ rfl rfl) 4 (wr 3 (by decide) 0 (by decide))).trans ?_
    exact l0_end _ _ _ _ _ _ _ _ _ _ _ _ _ _ rfl
/-- LdImm a; LxImm n; a jump of X over one instruction; RetK 1; RetK 2. -/
theorem hold5 (k : Nat) (hk : 5000 ≤ k) (c a n : Int) (is : Bool) (ha : 0 ≤ a ∧ a ≤ 4294967295) (hn : 0 ≤ n ∧ n ≤ 4294967295) (hc : 0 ≤ c ∧ c ≤ 65535) (h32 : (c == 32) = false) (hC : (CH ([⟨0, 0, 0, a⟩, ⟨1, 0, 0, n⟩, ⟨c, 0, 1, 0⟩, ⟨6, 0, 0, 1⟩, ⟨6, 0, 0, 2⟩] : List S37)).1 = 0) (hmv : ∀ s, vm_MV c 0 s = some (false, s)) (hst : vm_ST c 0 1 0 { S0 with a := a, x := n } = ((if is = true then wrap64 0 else wrap64 1), { S0 with a := a, x := n })) :
    ∃ m, vm_Run.f (k + 5) ([⟨0, 0, 0, a⟩, ⟨1, 0, 0, n⟩, ⟨c, 0, 1, 0⟩, ⟨6, 0, 0, 1⟩, ⟨6, 0, 0, 2⟩] : List S37) 0 0 0 0 0 0 0 0 0 = some (if is = true then 1 else 2, m, 0) := by
  have ho : ∀ x ∈ ([⟨0, 0, 0, a⟩, ⟨1, 0, 0, n⟩, ⟨c, 0, 1, 0⟩, ⟨6, 0, 0, 1⟩, ⟨6, 0, 0, 2⟩] : List S37), InsOk x := by
    intro x hx
    simp only [List.mem_cons, List.not_mem_nil, or_false] at hx
    rcases hx with rfl | rfl | rfl | rfl | rfl
    · exact ins_ok4 (by decide) (by decide) (by decide) ha
    · exact ins_ok4 (by decide) (by decide) (by decide) hn
    · exact ins_ok4 hc (by decide) (by decide) (by decide)
    · exact ins_ok4 (by decide) (by decide) (by decide) (by decide)
    · exact ins_ok4 (by decide) (by decide) (by decide) (by decide)
  rw [w64_id (by decide) (by decide), w64_id (by decide) (by decide)] at hst
  cases is with
  | true =>
    rw [if_pos rfl] at hst ⊢
    refine ⟨4, run_small (k + 5) (by omega) _ ho hC 0 0 0 0 0 0 0 0 0 1 [0, 1, 2, 3] ?_⟩
    refine (l0_go (k + 4) _ 0 0 0 0 0 0 0 0 0 0 S0 [] 0 { S0 with a := a } ⟨0, 0, 0, a⟩ rfl rfl ⟨by decide, by show (0 : Int) < 5; decide, by decide⟩ (st_moves (k + 4) 0 0 0 a 0 0 0 0 0 0 0 0 0 S0 _ rfl rfl) 1 (wr 0 (by decide) 0 (by decide))).trans ?_
    refine (l0_go (k + 3) _ 0 0 0 0 0 0 0 0 0 1 _ [0] 0 { S0 with a := a, x := n } ⟨1, 0, 0, n⟩ rfl rfl ⟨by decide, by show (1 : Int) < 5; decide, by decide⟩ (st_moves (k + 3) 1 0 0 n 0 0 0 0 0 0 0 0 0 _ _ rfl rfl) 2 (wr 1 (by decide) 0 (by decide))).trans ?_
    refine (l0_go (k + 2) _ 0 0 0 0 0 0 0 0 0 2 _ [0, 1] 0 { S0 with a := a, x := n } ⟨c, 0, 1, 0⟩ rfl rfl ⟨by decide, by show (2 : Int) < 5; decide, by decide⟩ ((st_other (k + 2) c 0 1 0 0 0 0 0 0 0 0 0 0 { S0 with a := a, x := n } h32 (hmv _) hn.1 (by decide)).trans (by rw [hst])) 3 (wr 2 (by decide) 0 (by decide))).trans ?_
    refine (l0_go (k + 1) _ 0 0 0 0 0 0 0 0 0 3 _ [0, 1, 2] 0 { S0 with a := a, x := n, o := true, r := 1 } ⟨6, 0, 0, 1⟩ rfl rfl ⟨by decide, by show (3 : Int) < 5; decide, by decide⟩ (st_moves (k + 1) 6 0 0 1 0 0 0 0 0 0 0 0 0 _ _ rfl rfl) 4 (wr 3 (by decide) 0 (by decide))).trans ?_
    exact l0_end _ _ _ _ _ _ _ _ _ _ _ _ _ _ rfl
  | false =>
    rw [if_neg (by decide)] at hst ⊢
    refine ⟨4, run_small (k + 5) (by omega) _ ho hC 0 0 0 0 0 0 0 0 0 2 [0, 1, 2, 4] ?_⟩
    refine (l0_go (k + 4) _ 0 0 0 0 0 0 0 0 0 0 S0 [] 0 { S0 with a := a } ⟨0, 0, 0, a⟩ rfl rfl ⟨by decide, by show (0 : Int) < 5; decide, by decide⟩ (st_moves (k + 4) 0 0 0 a 0 0 0 0 0 0 0 0 0 S0 _ rfl rfl) 1 (wr 0 (by decide) 0 (by decide))).trans ?_
    refine (l0_go (k + 3) _ 0 0 0 0 0 0 0 0 0 1 _ [0] 0 { S0 with a := a, x := n } ⟨1, 0, 0, n⟩ rfl rfl ⟨by decide, by show (1 : Int) < 5; decide, by decide⟩ (st_moves (k + 3) 1 0 0 n 0 0 0 0 0 0 0 0 0 _ _ rfl rfl) 2 (wr 1 (by decide) 0 (by decide))).trans ?_
    refine (l0_go (k + 2) _ 0 0 0 0 0 0 0 0 0 2 _ [0, 1] 1 { S0 with a := a, x := n } ⟨c, 0, 1, 0⟩ rfl rfl ⟨by decide, by show (2 : Int) < 5; decide, by decide⟩ ((st_other (k + 2) c 0 1 0 0 0 0 0 0 0 0 0 0 { S0 with a := a, x := n } h32 (hmv _) hn.1 (by decide)).trans (by rw [hst])) 4 (wr 2 (by decide) 1 (by decide))).trans ?_
    refine (l0_go (k + 1) _ 0 0 0 0 0 0 0 0 0 4 _ [0, 1, 2] 0 { S0 with a := a, x := n, o := true, r := 2 } ⟨6, 0, 0, 2⟩ rfl rfl ⟨by decide, by show (4 : Int) < 5; decide, by decide⟩ (st_moves (k + 1) 6 0 0 2 0 0 0 0 0 0 0 0 0 _ _ rfl rfl) 5 (wr 4 (by decide) 0 (by decide))).trans ?_
    exact l0_end _ _ _ _ _ _ _ _ _ _ _ _ _ _ rfl
theorem hold_both (k : Nat) (hk : 5000 ≤ k) (c c8 a n : Int) (is : Bool) (ha : 0 ≤ a ∧ a ≤ 4294967295) (hn : 0 ≤ n ∧ n ≤ 4294967295)
    (h : (c = 21 ∧ c8 = 29 ∧ is = (a == n)) ∨ (c = 37 ∧ c8 = 45 ∧ is = decide (a > n)) ∨ (c = 53 ∧ c8 = 61 ∧ is = decide (a ≥ n)) ∨ (c = 69 ∧ c8 = 77 ∧ is = ((Go.bits .and .u32 a n) != 0))) :
    (∃ m, vm_Run.f (k + 5) ([⟨0, 0, 0, a⟩, ⟨c, 0, 1, n⟩, ⟨6, 0, 0, 1⟩, ⟨6, 0, 0, 2⟩] : List S37) 0 0 0 0 0 0 0 0 0 = some (if is = true then 1 else 2, m, 0)) ∧ ∃ m, vm_Run.f (k + 5) ([⟨0, 0, 0, a⟩, ⟨1, 0, 0, n⟩, ⟨c8, 0, 1, 0⟩, ⟨6, 0, 0, 1⟩, ⟨6, 0, 0, 2⟩] : List S37) 0 0 0 0 0 0 0 0 0 = some (if is = true then 1 else 2, m, 0) := by
  rcases h with ⟨rfl, rfl, rfl⟩ | ⟨rfl, rfl, rfl⟩ | ⟨rfl, rfl, rfl⟩ | ⟨rfl, rfl, rfl⟩
  all_goals exact ⟨hold4 k hk _ a n _ ha hn (by decide) rfl (by simp [CH, chkFrom, wrongOf, wrongI, w0, w1, w3, w4, w5, Knwn, Sing, Reck, Jmps, Endd]) (fun _ => rfl) rfl, hold5 k hk _ a n _ ha hn (by decide) rfl (by simp [CH, chkFrom, wrongOf, wrongI, w0, w1, w3, w4, w5, Knwn, Sing, Reck, Jmps, Endd]) (fun _ => rfl) rfl⟩
theorem VmHolds : fairleadlaw06_VmHolds.Pure := by
  intro a n w ha hn hw
  refine ⟨(6000 + 0) + 5, ?_⟩
  generalize hK : 6000 + 0 = K
  have hk : 6000 ≤ K := by omega
  unfold fairleadlaw06_VmHolds.f
  rw [awake06 _ (by omega), Option.bind_some, Option.bind_some, Option.bind_some]
  by_cases h0 : w < 0
  · rw [if_pos h0]
  · rw [if_neg h0, Int.tmod_eq_emod_of_nonneg (by omega)]
    have hm : w % 4 = 0 ∨ w % 4 = 1 ∨ w % 4 = 2 ∨ w % 4 = 3 := by omega
    generalize w % 4 = j at hm
    obtain ⟨c, c8, is, h, hj, h1, h2, h3⟩ : ∃ (c c8 : Int) (is : Bool), ((c = 21 ∧ c8 = 29 ∧ is = (a == n)) ∨ (c = 37 ∧ c8 = 45 ∧ is = decide (a > n)) ∨ (c = 53 ∧ c8 = 61 ∧ is = decide (a ≥ n)) ∨ (c = 69 ∧ c8 = 77 ∧ is = ((Go.bits .and .u32 a n) != 0))) ∧ (0 ≤ j ∧ j < 4) ∧ rd ([21, 37, 53, 69] : List Int) j = c ∧ Go.bits .or .u16 c 8 = c8 ∧ rdOf false [(a == n), decide (a > n), decide (a ≥ n), ((Go.bits .and .u32 a n) != 0)] j = is := by
      rcases hm with rfl | rfl | rfl | rfl
      · exact ⟨21, 29, _, .inl ⟨rfl, rfl, rfl⟩, by decide, rfl, rfl, rfl⟩
      · exact ⟨37, 45, _, .inr (.inl ⟨rfl, rfl, rfl⟩), by decide, rfl, rfl, rfl⟩
      · exact ⟨53, 61, _, .inr (.inr (.inl ⟨rfl, rfl, rfl⟩)), by decide, rfl, rfl, rfl⟩
      · exact ⟨69, 77, _, .inr (.inr (.inr ⟨rfl, rfl, rfl⟩)), by decide, rfl, rfl, rfl⟩
    obtain ⟨⟨m1, r1⟩, m2, r2⟩ := hold_both K (by omega) c c8 a n is ha hn h
    rw [if_pos hj.1, if_pos (show j < (([(a == n), decide (a > n), decide (a ≥ n), ((Go.bits .and .u32 a n) != 0)] : List Bool).length : Int) from hj.2), h1, h2, h3, r1, r2]
    cases is with
    | true =>
      rw [if_pos rfl, if_pos (show j < (([21, 37, 53, 69] : List Int).length : Int) from hj.2)]
      rfl
    | false =>
      rw [if_neg (by decide), if_pos (show j < (([21, 37, 53, 69] : List Int).length : Int) from hj.2)]
      rfl

end Go.Proofs.Ytdlmnmhlgacpnaa.Pure
