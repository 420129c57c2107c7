/- Layer 6 (vm), plain: small programs, run step by step. -/
import Derived.Test.YtdlmnmhlgacpnaaMx0
import Derived.Test.YtdlmnmhlgacpnaaMx3
import Derived.Test.YtdlmnmhlgacpnaaMx4
import Derived.Test.YtdlmnmhlgacpnaaMx5
import Derived.Test.YtdlmnmhlgacpnaaAid
import Derived.Test.YtdlmnmhlgacpnaaL00
import Derived.Test.YtdlmnmhlgacpnaaL03k
import Derived.Test.YtdlmnmhlgacpnaaL05
import Derived.Test.YtdlmnmhlgacpnaaL05b
import Derived.Test.YtdlmnmhlgacpnaaL04a
import Derived.Test.YtdlmnmhlgacpnaaL04p
import Derived.Test.YtdlmnmhlgacpnaaL06
namespace Go.Proofs.Ytdlmnmhlgacpnaa.Pure
open Go Go.RowKit Go.Proofs.Ytdlmnmhlgacpnaa.M Go.Proofs.Ytdlmnmhlgacpnaa.Aid Go.Proofs.YtdlmnmhlgacpnaaW.PrintWords Go.Proofs.YtdlmnmhlgacpnaaW.PrintLast Go.Proofs.YtdlmnmhlgacpnaaW.PrintMore
set_option linter.unusedVariables false
set_option linter.unusedSimpArgs false

-- NEEDS vm_play.f vm_step.f vm_moves.f vm_Run.f vm_MV vm_ST vm_RK vm_HL VmS check_Check.f data_Load.f data_laid.f data_Halves.f fairleadlaw06_awake.f
-- IMPORT L00
-- IMPORT L03k
-- IMPORT L05
-- IMPORT L05b
-- IMPORT L04a
-- IMPORT L04p
-- IMPORT L06

theorem st_moves (k : Nat) (c jt jf K d0 d1 d2 d3 d4 d5 d6 d7 d8 : Int) (s s' : VmS) (hc : (c == 32) = false) (h : vm_MV c K s = some (true, s')) : vm_step.f k c jt jf K d0 d1 d2 d3 d4 d5 d6 d7 d8 s = some (0, s') := by
  unfold vm_step.f vm_moves.f
  rw [hc, if_neg (by decide), h]
  rfl
theorem st_other (k : Nat) (c jt jf K d0 d1 d2 d3 d4 d5 d6 d7 d8 : Int) (s : VmS) (hc : (c == 32) = false) (h : vm_MV c K s = some (false, s)) (hx : 0 ≤ s.x) (hK : 0 ≤ K ∧ K ≤ 4294967295) : vm_step.f k c jt jf K d0 d1 d2 d3 d4 d5 d6 d7 d8 s = some (vm_ST c jt jf K s) := by
  unfold vm_step.f vm_moves.f
  rw [hc, if_neg (by decide), h, Option.bind_some, if_neg (by simp), if_pos ⟨hx, hK.1, hK.2⟩]
theorem st_load (k : Nat) (hk : 7 ≤ k) (jt jf K d0 d1 d2 d3 d4 d5 d6 d7 d8 : Int) (s : VmS) (h : (0 ≤ K ∧ K ≤ 4294967295) ∧ K % 4 = 0 ∧ K < 64) : vm_step.f k 32 jt jf K d0 d1 d2 d3 d4 d5 d6 d7 d8 s = some (0, { s with a := rd (WS d0 d1 d2 d3 d4 d5 d6 d7 d8) (K / 4) }) := by
  have hl := load_is d0 d1 d2 d3 d4 d5 d6 d7 d8 K h.1 k hk
  rw [if_pos h.2] at hl
  unfold vm_step.f vm_moves.f
  rw [if_pos (by decide), hl]
  rfl
theorem l0_go (k : Nat) (l : List S37) (d0 d1 d2 d3 d4 d5 d6 d7 d8 i : Int) (s : VmS) (L : List Int) (q : Int) (s' : VmS) (x : S37) (hx : rd_T37 l i = x) (ho : s.o = false) (hi : 0 ≤ i ∧ i < (l.length : Int) ∧ L.length < 1000000000) (h : vm_step.f k x.f0 x.f1 x.f2 x.f3 d0 d1 d2 d3 d4 d5 d6 d7 d8 s = some (q, s')) (j : Int) (hj : wrap64 (wrap64 (i + q) + 1) = j) :
    vm_play.l0 (k + 1) l d0 d1 d2 d3 d4 d5 d6 d7 d8 i s L = vm_play.l0 k l d0 d1 d2 d3 d4 d5 d6 d7 d8 j s' (L ++ [i]) := by
  rw [vm_play.l0.eq_2, if_neg (by rw [ho]; decide), if_pos hi, hx, h, Option.bind_some, hj]
theorem l0_end (k : Nat) (l : List S37) (d0 d1 d2 d3 d4 d5 d6 d7 d8 i : Int) (s : VmS) (L : List Int) (ho : s.o = true) : vm_play.l0 (k + 1) l d0 d1 d2 d3 d4 d5 d6 d7 d8 i s L = some (s.r, L) := by
  rw [vm_play.l0.eq_2, if_pos ho]
theorem run_small (k : Nat) (hk : 5000 ≤ k) (l : List S37) (ho : ∀ x ∈ l, InsOk x) (hc : (CH l).1 = 0) (d0 d1 d2 d3 d4 d5 d6 d7 d8 ans : Int) (P : List Int) (h : vm_play.l0 k l d0 d1 d2 d3 d4 d5 d6 d7 d8 0 S0 [] = some (ans, P)) : vm_Run.f k l d0 d1 d2 d3 d4 d5 d6 d7 d8 = some (ans, (P.length : Int), 0) := by
  apply run_of
  unfold vm_play.f
  rw [check_is l ho k (by omega), Option.bind_some, if_pos hc]
  show (vm_play.l0 k l d0 d1 d2 d3 d4 d5 d6 d7 d8 0 S0 []).bind _ = _
  rw [h]
  rfl
theorem wr (i : Int) (h : 0 ≤ i ∧ i ≤ 1000) (q : Int) (hq : 0 ≤ q ∧ q ≤ 1000) : wrap64 (wrap64 (i + q) + 1) = i + q + 1 := by rw [w64_id (x := i + q) (by omega) (by omega), w64_id (by omega) (by omega)]
theorem awake06 (k : Nat) (hk : 6000 ≤ k) : fairleadlaw06_awake.f k = some true := by
  obtain ⟨k, rfl⟩ : ∃ m, k = m + 5 := ⟨k - 5, by omega⟩
  have ho : ∀ x ∈ ([⟨32, 0, 0, 0⟩, ⟨21, 0, 1, 5⟩, ⟨6, 0, 0, 1⟩, ⟨6, 0, 0, 2⟩] : List S37), InsOk x := by
    intro x hx
    simp only [List.mem_cons, List.not_mem_nil, or_false] at hx
    rcases hx with rfl | rfl | rfl | rfl <;> (unfold InsOk; simp)
  have hc : (CH ([⟨32, 0, 0, 0⟩, ⟨21, 0, 1, 5⟩, ⟨6, 0, 0, 1⟩, ⟨6, 0, 0, 2⟩] : List S37)).1 = 0 := by decide
  have r1 : vm_Run.f (k + 5) ([⟨32, 0, 0, 0⟩, ⟨21, 0, 1, 5⟩, ⟨6, 0, 0, 1⟩, ⟨6, 0, 0, 2⟩] : List S37) 5 0 0 0 0 0 0 0 0 = some (1, 3, 0) := by
    refine run_small (k + 5) (by omega) _ ho hc 5 0 0 0 0 0 0 0 0 1 [0, 1, 2] ?_
    refine (l0_go (k + 4) _ 5 0 0 0 0 0 0 0 0 0 S0 [] 0 { S0 with a := 5 } ⟨32, 0, 0, 0⟩ rfl rfl ⟨by decide, by decide, by decide⟩ (st_load (k + 4) (by omega) 0 0 0 5 0 0 0 0 0 0 0 0 S0 ⟨by decide, by decide, by decide⟩) 1 (wr 0 (by decide) 0 (by decide))).trans ?_
    refine (l0_go (k + 3) _ 5 0 0 0 0 0 0 0 0 1 _ [0] 0 { S0 with a := 5 } ⟨21, 0, 1, 5⟩ rfl rfl ⟨by decide, by decide, by decide⟩ ((st_other (k + 3) 21 0 1 5 5 0 0 0 0 0 0 0 0 { S0 with a := 5 } rfl rfl (by decide) (by decide)).trans (by show some (wrap64 0, _) = _; rw [w64_id (by decide) (by decide)])) 2 (wr 1 (by decide) 0 (by decide))).trans ?_
    refine (l0_go (k + 2) _ 5 0 0 0 0 0 0 0 0 2 _ [0, 1] 0 { S0 with a := 5, o := true, r := 1 } ⟨6, 0, 0, 1⟩ rfl rfl ⟨by decide, by decide, by decide⟩ (st_moves (k + 2) 6 0 0 1 5 0 0 0 0 0 0 0 0 _ _ rfl rfl) 3 (wr 2 (by decide) 0 (by decide))).trans ?_
    exact l0_end _ _ _ _ _ _ _ _ _ _ _ _ _ _ rfl
  have r2 : vm_Run.f (k + 5) ([⟨32, 0, 0, 0⟩, ⟨21, 0, 1, 5⟩, ⟨6, 0, 0, 1⟩, ⟨6, 0, 0, 2⟩] : List S37) 6 0 0 0 0 0 0 0 0 = some (2, 3, 0) := by
    refine run_small (k + 5) (by omega) _ ho hc 6 0 0 0 0 0 0 0 0 2 [0, 1, 3] ?_
    refine (l0_go (k + 4) _ 6 0 0 0 0 0 0 0 0 0 S0 [] 0 { S0 with a := 6 } ⟨32, 0, 0, 0⟩ rfl rfl ⟨by decide, by decide, by decide⟩ (st_load (k + 4) (by omega) 0 0 0 6 0 0 0 0 0 0 0 0 S0 ⟨by decide, by decide, by decide⟩) 1 (wr 0 (by decide) 0 (by decide))).trans ?_
    refine (l0_go (k + 3) _ 6 0 0 0 0 0 0 0 0 1 _ [0] 1 { S0 with a := 6 } ⟨21, 0, 1, 5⟩ rfl rfl ⟨by decide, by decide, by decide⟩ ((st_other (k + 3) 21 0 1 5 6 0 0 0 0 0 0 0 0 { S0 with a := 6 } rfl rfl (by decide) (by decide)).trans (by show some (wrap64 1, _) = _; rw [w64_id (by decide) (by decide)])) 3 (wr 1 (by decide) 1 (by decide))).trans ?_
    refine (l0_go (k + 2) _ 6 0 0 0 0 0 0 0 0 3 _ [0, 1] 0 { S0 with a := 6, o := true, r := 2 } ⟨6, 0, 0, 2⟩ rfl rfl ⟨by decide, by decide, by decide⟩ (st_moves (k + 2) 6 0 0 2 6 0 0 0 0 0 0 0 0 _ _ rfl rfl) 4 (wr 3 (by decide) 0 (by decide))).trans ?_
    exact l0_end _ _ _ _ _ _ _ _ _ _ _ _ _ _ rfl
  unfold fairleadlaw06_awake.f
  rw [Option.bind_some, r1, Option.bind_some, r2, Option.bind_some]
  rfl
theorem ins_ok4 {c jt jf K : Int} (h1 : 0 ≤ c ∧ c ≤ 65535) (h2 : 0 ≤ jt ∧ jt ≤ 255) (h3 : 0 ≤ jf ∧ jf ≤ 255) (h4 : 0 ≤ K ∧ K ≤ 4294967295) : InsOk ⟨c, jt, jf, K⟩ := ⟨h1, h2, h3, h4⟩
/-- LdImm a; an instruction of K; RetA. -/
theorem run3 (k : Nat) (hk : 5000 ≤ k) (c V a n : Int) (ha : 0 ≤ a ∧ a ≤ 4294967295) (hn : 0 ≤ n ∧ n ≤ 4294967295) (hc : 0 ≤ c ∧ c ≤ 65535) (h32 : (c == 32) = false) (hC : (CH ([⟨0, 0, 0, a⟩, ⟨c, 0, 0, n⟩, ⟨22, 0, 0, 0⟩] : List S37)).1 = 0) (hmv : ∀ s, vm_MV c n s = some (false, s)) (hst : vm_ST c 0 0 n { S0 with a := a } = (0, { S0 with a := V })) :
    vm_Run.f (k + 5) ([⟨0, 0, 0, a⟩, ⟨c, 0, 0, n⟩, ⟨22, 0, 0, 0⟩] : List S37) 0 0 0 0 0 0 0 0 0 = some (V, 3, 0) := by
  have ho : ∀ x ∈ ([⟨0, 0, 0, a⟩, ⟨c, 0, 0, n⟩, ⟨22, 0, 0, 0⟩] : List S37), InsOk x := by
    intro x hx
    simp only [List.mem_cons, List.not_mem_nil, or_false] at hx
    rcases hx with rfl | rfl | rfl
    · exact ins_ok4 (by decide) (by decide) (by decide) ha
    · exact ins_ok4 hc (by decide) (by decide) hn
    · exact ins_ok4 (by decide) (by decide) (by decide) (by decide)
  refine run_small (k + 5) (by omega) _ ho hC 0 0 0 0 0 0 0 0 0 V [0, 1, 2] ?_
  refine (l0_go (k + 4) _ 0 0 0 0 0 0 0 0 0 0 S0 [] 0 { S0 with a := a } ⟨0, 0, 0, a⟩ rfl rfl ⟨by decide, by show (0 : Int) < 3; decide, by decide⟩ (st_moves (k + 4) 0 0 0 a 0 0 0 0 0 0 0 0 0 S0 _ rfl rfl) 1 (wr 0 (by decide) 0 (by decide))).trans ?_
  refine (l0_go (k + 3) _ 0 0 0 0 0 0 0 0 0 1 _ [0] 0 { S0 with a := V } ⟨c, 0, 0, n⟩ rfl rfl ⟨by decide, by show (1 : Int) < 3; decide, by decide⟩ ((st_other (k + 3) c 0 0 n 0 0 0 0 0 0 0 0 0 { S0 with a := a } h32 (hmv _) (Int.le_refl 0) hn).trans (by rw [hst])) 2 (wr 1 (by decide) 0 (by decide))).trans ?_
  refine (l0_go (k + 2) _ 0 0 0 0 0 0 0 0 0 2 _ [0, 1] 0 { S0 with a := V, o := true, r := V } ⟨22, 0, 0, 0⟩ rfl rfl ⟨by decide, by show (2 : Int) < 3; decide, by decide⟩ (st_moves (k + 2) 22 0 0 0 0 0 0 0 0 0 0 0 0 _ _ rfl rfl) 3 (wr 2 (by decide) 0 (by decide))).trans ?_
  exact l0_end _ _ _ _ _ _ _ _ _ _ _ _ _ _ rfl
/-- LdImm a; LxImm n; an instruction of X; RetA. -/
theorem run4 (k : Nat) (hk : 5000 ≤ k) (c V a n : Int) (ha : 0 ≤ a ∧ a ≤ 4294967295) (hn : 0 ≤ n ∧ n ≤ 4294967295) (hc : 0 ≤ c ∧ c ≤ 65535) (h32 : (c == 32) = false) (hC : (CH ([⟨0, 0, 0, a⟩, ⟨1, 0, 0, n⟩, ⟨c, 0, 0, 0⟩, ⟨22, 0, 0, 0⟩] : List S37)).1 = 0) (hmv : ∀ s, vm_MV c 0 s = some (false, s)) (hst : vm_ST c 0 0 0 { S0 with a := a, x := n } = (0, { S0 with a := V, x := n })) :
    vm_Run.f (k + 5) ([⟨0, 0, 0, a⟩, ⟨1, 0, 0, n⟩, ⟨c, 0, 0, 0⟩, ⟨22, 0, 0, 0⟩] : List S37) 0 0 0 0 0 0 0 0 0 = some (V, 4, 0) := by
  have ho : ∀ x ∈ ([⟨0, 0, 0, a⟩, ⟨1, 0, 0, n⟩, ⟨c, 0, 0, 0⟩, ⟨22, 0, 0, 0⟩] : List S37), InsOk x := by
    intro x hx
    simp only [List.mem_cons, List.not_mem_nil, or_false] at hx
    rcases hx with rfl | rfl | rfl | rfl
    · exact ins_ok4 (by decide) (by decide) (by decide) ha
    · exact ins_ok4 (by decide) (by decide) (by decide) hn
    · exact ins_ok4 hc (by decide) (by decide) (by decide)
    · exact ins_ok4 (by decide) (by decide) (by decide) (by decide)
  refine run_small (k + 5) (by omega) _ ho hC 0 0 0 0 0 0 0 0 0 V [0, 1, 2, 3] ?_
  refine (l0_go (k + 4) _ 0 0 0 0 0 0 0 0 0 0 S0 [] 0 { S0 with a := a } ⟨0, 0, 0, a⟩ rfl rfl ⟨by decide, by show (0 : Int) < 4; decide, by decide⟩ (st_moves (k + 4) 0 0 0 a 0 0 0 0 0 0 0 0 0 S0 _ rfl rfl) 1 (wr 0 (by decide) 0 (by decide))).trans ?_
  refine (l0_go (k + 3) _ 0 0 0 0 0 0 0 0 0 1 _ [0] 0 { S0 with a := a, x := n } ⟨1, 0, 0, n⟩ rfl rfl ⟨by decide, by show (1 : Int) < 4; decide, by decide⟩ (st_moves (k + 3) 1 0 0 n 0 0 0 0 0 0 0 0 0 _ _ rfl rfl) 2 (wr 1 (by decide) 0 (by decide))).trans ?_
  refine (l0_go (k + 2) _ 0 0 0 0 0 0 0 0 0 2 _ [0, 1] 0 { S0 with a := V, x := n } ⟨c, 0, 0, 0⟩ rfl rfl ⟨by decide, by show (2 : Int) < 4; decide, by decide⟩ ((st_other (k + 2) c 0 0 0 0 0 0 0 0 0 0 0 0 { S0 with a := a, x := n } h32 (hmv _) hn.1 (by decide)).trans (by rw [hst])) 3 (wr 2 (by decide) 0 (by decide))).trans ?_
  refine (l0_go (k + 1) _ 0 0 0 0 0 0 0 0 0 3 _ [0, 1, 2] 0 { S0 with a := V, x := n, o := true, r := V } ⟨22, 0, 0, 0⟩ rfl rfl ⟨by decide, by show (3 : Int) < 4; decide, by decide⟩ (st_moves (k + 1) 22 0 0 0 0 0 0 0 0 0 0 0 0 _ _ rfl rfl) 4 (wr 3 (by decide) 0 (by decide))).trans ?_
  exact l0_end _ _ _ _ _ _ _ _ _ _ _ _ _ _ rfl
end Go.Proofs.Ytdlmnmhlgacpnaa.Pure
