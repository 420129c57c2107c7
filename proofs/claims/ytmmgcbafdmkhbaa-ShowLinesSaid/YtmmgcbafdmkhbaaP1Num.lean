import Derived.Test.YtmmgcbafdmkhbaaP1Mx0
import Derived.Test.YtmmgcbafdmkhbaaP1Aid
import Derived.Test.YtmmgcbafdmkhbaaP1Sh
import Derived.Lib.ItoaWalk
import Derived.RegionTactic
import Derived.BigCall
import Derived.BigGuard
import Derived.CellFam
namespace Go.Proofs.Ytmmgcbafdmkhbaa.M
open Go Go.RowKit Go.Proofs.YtmmgcbafdmkhbaaW.PrintWords Go.Proofs.YtmmgcbafdmkhbaaW.PrintLast Go.Proofs.YtmmgcbafdmkhbaaW.PrintMore Go.Proofs
set_option linter.unusedVariables false
set_option linter.unusedSimpArgs false
/-- The bytes that formatBase10 lays: pairs of digits from the end; what is left of the number goes into the first one, where the row is odd. -/
def FBL : Nat → Nat → List Int
  | 0, _ => []
  | 1, u => [((48 + u) % 256 : Nat)]
  | n + 2, u => FBL n (u / 100) ++ [((48 + u % 100 / 10 : Nat) : Int), ((48 + u % 10 : Nat) : Int)]
theorem fbl_len : ∀ n u, (FBL n u).length = n
  | 0, _ => rfl
  | 1, _ => rfl
  | n + 2, u => by rw [FBL, List.length_append, fbl_len n]; rfl
theorem sm_val : ∀ x, x < 100 → ((Lib.sm (x * 2 + 1)).toNat = 48 + x % 10 ∧ (Lib.sm (x * 2)).toNat = 48 + x / 10) := by decide +kernel
/-- How far formatBase10 is: what stands behind nd is laid, v is left. -/
structure FbI (w0 W : World) (blk off sz u nd v : Nat) : Prop where
  but : Below blk w0 W
  frz : ∀ t, t < sz → W.frozen? ⟨blk, off + t, none⟩ = false
  row : ∃ G : Nat → Int, (∀ t, t < sz → W.cell? ⟨blk, off + t, none⟩ = some (.int .u8 (G t))) ∧ ∀ t, nd ≤ t → t < sz → (FBL sz u)[t]? = some (G t)
  pre : ∃ S, FBL sz u = FBL nd v ++ S
  le : nd ≤ sz
  lt : v < 10 ^ (nd + 1)
  v64 : v < 18446744073709551616
theorem FbI.step {w0 W : World} {blk off sz u nd v : Nat} (h : FbI w0 W blk off sz u (nd + 2) v) :
    FbI w0 ((W.setCell ⟨blk, off + (nd + 1), none⟩ (.int .u8 ((Lib.sm (v % 100 * 2 + 1)).toNat : Int))).setCell ⟨blk, off + nd, none⟩ (.int .u8 ((Lib.sm (v % 100 * 2)).toNat : Int))).drew blk off sz u nd (v / 100) := by
  obtain ⟨G, hg, hG⟩ := h.row
  obtain ⟨S, hS⟩ := h.pre
  have hle := h.le
  obtain ⟨s1, s2⟩ := sm_val (v % 100) (Nat.mod_lt _ (by decide))
  have hS' : FBL sz u = FBL nd (v / 100) ++ ([((48 + v % 100 / 10 : Nat) : Int), ((48 + v % 10 : Nat) : Int)] ++ S) := by rw [hS, FBL, List.append_assoc]
  have e10 : v % 100 % 10 = v % 10 := by omega
  refine ⟨((h.but.setCell (Nat.le_refl _) _).setCell (Nat.le_refl _) _).drew, fun t ht => ?_, ⟨fun t => if t = nd then ((48 + v % 100 / 10 : Nat) : Int) else if t = nd + 1 then ((48 + v % 10 : Nat) : Int) else G t, fun t ht => ?_, fun t h1 ht => ?_⟩, ⟨_, hS'⟩, by omega, ?_, ?_⟩
  · rw [World.frozen?_drew, World.frozen?_setCell, World.frozen?_setCell]; exact h.frz t ht
  · rw [World.cell?_drew]
    dsimp only
    by_cases e1 : t = nd
    · subst e1
      rw [if_pos rfl, World.cell?_setCell_same (u := .int .u8 (G t)) _ _ _ (by rw [World.cell?_setCell_other _ _ _ _ (by simp)]; exact hg t ht), s2]
    · rw [if_neg e1, World.cell?_setCell_other _ _ _ _ (by simp <;> omega)]
      by_cases e2 : t = nd + 1
      · subst e2
        rw [if_pos rfl, World.cell?_setCell_same (u := .int .u8 (G (nd + 1))) _ _ _ (hg _ ht), s1, e10]
      · rw [if_neg e2, World.cell?_setCell_other _ _ _ _ (by simp <;> omega)]
        exact hg t ht
  · dsimp only
    by_cases e1 : t = nd
    · subst e1
      rw [if_pos rfl, hS', List.getElem?_append_right (by rw [fbl_len]; exact Nat.le_refl _), fbl_len, Nat.sub_self]
      rfl
    · rw [if_neg e1]
      by_cases e2 : t = nd + 1
      · subst e2
        rw [if_pos rfl, hS', List.getElem?_append_right (by rw [fbl_len]; omega), fbl_len, show nd + 1 - nd = 1 by omega]
        rfl
      · rw [if_neg e2]
        exact hG t (by omega) ht
  · have := h.lt
    rw [show nd + 2 + 1 = nd + 1 + 2 by omega, Nat.pow_add] at this
    exact Nat.div_lt_of_lt_mul (by rw [Nat.mul_comm]; exact this)
  · have := h.v64
    omega
theorem FbI.last {w0 W : World} {blk off sz u v : Nat} (h : FbI w0 W blk off sz u 1 v) (z : Int) (hz : z = ((48 + v) % 256 : Nat)) :
    FbI w0 (W.setCell ⟨blk, off, none⟩ (.int .u8 z)) blk off sz u 0 0 := by
  obtain ⟨G, hg, hG⟩ := h.row
  obtain ⟨S, hS⟩ := h.pre
  have hle := h.le
  refine ⟨h.but.setCell (Nat.le_refl _) _, fun t ht => ?_, ⟨fun t => if t = 0 then z else G t, fun t ht => ?_, fun t h1 ht => ?_⟩, ⟨_, rfl⟩, by omega, by decide, by decide⟩
  · rw [World.frozen?_setCell]; exact h.frz t ht
  · dsimp only
    by_cases e1 : t = 0
    · subst e1
      rw [if_pos rfl]
      exact World.cell?_setCell_same (u := .int .u8 (G 0)) _ _ _ (hg 0 ht)
    · rw [if_neg e1, World.cell?_setCell_other _ _ _ _ (by simp <;> omega)]
      exact hg t ht
  · dsimp only
    by_cases e1 : t = 0
    · subst e1
      rw [if_pos rfl, hS, FBL, hz]
      rfl
    · rw [if_neg e1]
      exact hG t (by omega) ht
theorem FbI.start {w W : World} {blk off sz u : Nat} (hb : Below blk w W) (hf : ∀ t, t < sz → W.frozen? ⟨blk, off + t, none⟩ = false) (hr : ∃ G : Nat → Int, ∀ t, t < sz → W.cell? ⟨blk, off + t, none⟩ = some (.int .u8 (G t))) (hu : u < 10 ^ (sz + 1)) (h64 : u < 18446744073709551616) : FbI w W blk off sz u sz u := by
  obtain ⟨G, hg⟩ := hr
  exact ⟨hb, hf, ⟨G, hg, fun t h1 h2 => by omega⟩, ⟨[], by simp⟩, Nat.le_refl _, hu, h64⟩
theorem FbI.cells {w0 W : World} {blk off sz u v : Nat} (h : FbI w0 W blk off sz u 0 v) : ∀ t x, (FBL sz u)[t]? = some x → W.cell? ⟨blk, off + t, none⟩ = some (.int .u8 x) := by
  obtain ⟨G, hg, hG⟩ := h.row
  intro t x hx
  have ht : t < sz := by have := (List.getElem?_eq_some_iff.1 hx).1; rw [fbl_len] at this; exact this
  have := hG t (Nat.zero_le _) ht
  rw [hx] at this
  rw [hg t ht, Option.some.inj this]
set_option maxHeartbeats 12800000 in
set_option maxRecDepth 100000 in
theorem fb10 (blk off sz cap u : Nat) (w : World) (hf : ∀ t, t < sz → w.frozen? ⟨blk, off + t, none⟩ = false) (hr : ∃ G : Nat → Int, ∀ t, t < sz → w.cell? ⟨blk, off + t, none⟩ = some (.int .u8 (G t))) (hu : u < 10 ^ (sz + 1)) (h64 : u < 18446744073709551616) (hsz : sz ≤ 24) :
    Calls Try.prog 76 #[.slice (some ⟨blk, off, none⟩) sz cap, .int .u64 u] w fun e w' => e = .returned (.tuple #[]) ∧ FbI w w' blk off sz u 0 0 := by
  have HS := Aside0.mk (FbI.start (Below.refl blk w) hf hr hu h64)
  clear hf hr hu h64
  go_enter Try.func76, Try.ntmps76
  have mixed : Try.prog.follows Departure.mixedOrders = true := by kernel_rfl
  go_name_bytes SM hSM
  have eSM : SM = Lib.smalls := by rw [← hSM]; decide +kernel
  subst eSM
  clear hSM
  go_wp2
  go_loopw [1, 4] (fun vu vn wr => ∃ (nd v : Nat), vu = .int .u64 v ∧ vn = .int .i64 nd ∧ Aside0 (FbI w wr blk off sz u nd v)) (fun _ vn _ => (RowKit.intOf vn).toNat)
  case atStart => exact ⟨sz, u, rfl, rfl, HS⟩
  case round =>
    clear HS
    obtain ⟨nd, v, rfl, rfl, HI0⟩ := hrel
    rename World => W0
    have hv64 := HI0.out.v64
    have hle0 := HI0.out.le
    by_cases h8 : 8 ≤ nd
    · obtain ⟨m, rfl⟩ : ∃ m, nd = m + 8 := ⟨nd - 8, by omega⟩
      obtain ⟨G0, hg0, _⟩ := HI0.out.row
      have hc0 : ∀ t, t < sz → W0.cell? ⟨blk, off + t, none⟩ = some (.int .u8 (G0 t)) := hg0
      have hf0 : ∀ t, t < sz → W0.frozen? ⟨blk, off + t, none⟩ = false := HI0.out.frz
      clear hg0
      go_wp2
      have HIn0 := Aside0.mk (FbI.step (show FbI w W0 blk off sz u (m + 6 + 2) (v) from HI0.out))
      go_name_slot 9 x0 hx0
      have hxe0 : x0 = (((v) % 100 * 2 : Nat) : Int) := by omega
      have hXa0 : ∀ w, (Instr.index 9 (.string Lib.smalls) (.int .u32 (x0 + 1))).run Try.prog w = .ok (.int .u8 ((Lib.sm ((v) % 100 * 2 + 1)).toNat : Int)) w := Lib.idx_smalls 9 Try.underlying9 .u32 _ _ (by omega) (by omega)
      have hXb0 : ∀ w, (Instr.index 9 (.string Lib.smalls) (.int .u32 x0)).run Try.prog w = .ok (.int .u8 ((Lib.sm ((v) % 100 * 2)).toNat : Int)) w := Lib.idx_smalls 9 Try.underlying9 .u32 _ _ (by omega) (by omega)
      have hlo0 : 0 ≤ x0 := by omega
      have hhi0 : x0 ≤ 198 := by omega
      clear hx0 hxe0
      go_region_o
      go_wp2
      go_name_world W1 hW1
      have HI1 : Aside0 (FbI w W1 blk off sz u (m + 6) (v / 100)) := ⟨by rw [← hW1]; exact HIn0.out⟩
      clear hW1 HIn0 hc0 hf0 HI0 hXa0 hXb0
      obtain ⟨G1, hg1, _⟩ := HI1.out.row
      have hc1 : ∀ t, t < sz → W1.cell? ⟨blk, off + t, none⟩ = some (.int .u8 (G1 t)) := hg1
      have hf1 : ∀ t, t < sz → W1.frozen? ⟨blk, off + t, none⟩ = false := HI1.out.frz
      clear hg1
      have HIn1 := Aside0.mk (FbI.step (show FbI w W1 blk off sz u (m + 4 + 2) (v / 100) from HI1.out))
      go_name_slot 8 x1 hx1
      have hxe1 : x1 = (((v / 100) % 100 * 2 : Nat) : Int) := by omega
      have hXa1 : ∀ w, (Instr.index 9 (.string Lib.smalls) (.int .u32 (x1 + 1))).run Try.prog w = .ok (.int .u8 ((Lib.sm ((v / 100) % 100 * 2 + 1)).toNat : Int)) w := Lib.idx_smalls 9 Try.underlying9 .u32 _ _ (by omega) (by omega)
      have hXb1 : ∀ w, (Instr.index 9 (.string Lib.smalls) (.int .u32 x1)).run Try.prog w = .ok (.int .u8 ((Lib.sm ((v / 100) % 100 * 2)).toNat : Int)) w := Lib.idx_smalls 9 Try.underlying9 .u32 _ _ (by omega) (by omega)
      have hlo1 : 0 ≤ x1 := by omega
      have hhi1 : x1 ≤ 198 := by omega
      clear hx1 hxe1
      go_region_o
      go_wp2
      go_name_world W2 hW2
      have HI2 : Aside0 (FbI w W2 blk off sz u (m + 4) (v / 100 / 100)) := ⟨by rw [← hW2]; exact HIn1.out⟩
      clear hW2 HIn1 hc1 hf1 HI1 hXa1 hXb1
      obtain ⟨G2, hg2, _⟩ := HI2.out.row
      have hc2 : ∀ t, t < sz → W2.cell? ⟨blk, off + t, none⟩ = some (.int .u8 (G2 t)) := hg2
      have hf2 : ∀ t, t < sz → W2.frozen? ⟨blk, off + t, none⟩ = false := HI2.out.frz
      clear hg2
      have HIn2 := Aside0.mk (FbI.step (show FbI w W2 blk off sz u (m + 2 + 2) (v / 100 / 100) from HI2.out))
      go_name_slot 11 x2 hx2
      have hxe2 : x2 = (((v / 100 / 100) % 100 * 2 : Nat) : Int) := by omega
      have hXa2 : ∀ w, (Instr.index 9 (.string Lib.smalls) (.int .u32 (x2 + 1))).run Try.prog w = .ok (.int .u8 ((Lib.sm ((v / 100 / 100) % 100 * 2 + 1)).toNat : Int)) w := Lib.idx_smalls 9 Try.underlying9 .u32 _ _ (by omega) (by omega)
      have hXb2 : ∀ w, (Instr.index 9 (.string Lib.smalls) (.int .u32 x2)).run Try.prog w = .ok (.int .u8 ((Lib.sm ((v / 100 / 100) % 100 * 2)).toNat : Int)) w := Lib.idx_smalls 9 Try.underlying9 .u32 _ _ (by omega) (by omega)
      have hlo2 : 0 ≤ x2 := by omega
      have hhi2 : x2 ≤ 198 := by omega
      clear hx2 hxe2
      go_region_o
      go_wp2
      go_name_world W3 hW3
      have HI3 : Aside0 (FbI w W3 blk off sz u (m + 2) (v / 100 / 100 / 100)) := ⟨by rw [← hW3]; exact HIn2.out⟩
      clear hW3 HIn2 hc2 hf2 HI2 hXa2 hXb2
      obtain ⟨G3, hg3, _⟩ := HI3.out.row
      have hc3 : ∀ t, t < sz → W3.cell? ⟨blk, off + t, none⟩ = some (.int .u8 (G3 t)) := hg3
      have hf3 : ∀ t, t < sz → W3.frozen? ⟨blk, off + t, none⟩ = false := HI3.out.frz
      clear hg3
      have HIn3 := Aside0.mk (FbI.step (show FbI w W3 blk off sz u (m + 2) (v / 100 / 100 / 100) from HI3.out))
      go_name_slot 10 x3 hx3
      have hxe3 : x3 = (((v / 100 / 100 / 100) % 100 * 2 : Nat) : Int) := by omega
      have hXa3 : ∀ w, (Instr.index 9 (.string Lib.smalls) (.int .u32 (x3 + 1))).run Try.prog w = .ok (.int .u8 ((Lib.sm ((v / 100 / 100 / 100) % 100 * 2 + 1)).toNat : Int)) w := Lib.idx_smalls 9 Try.underlying9 .u32 _ _ (by omega) (by omega)
      have hXb3 : ∀ w, (Instr.index 9 (.string Lib.smalls) (.int .u32 x3)).run Try.prog w = .ok (.int .u8 ((Lib.sm ((v / 100 / 100 / 100) % 100 * 2)).toNat : Int)) w := Lib.idx_smalls 9 Try.underlying9 .u32 _ _ (by omega) (by omega)
      have hlo3 : 0 ≤ x3 := by omega
      have hhi3 : x3 ≤ 198 := by omega
      clear hx3 hxe3
      go_region_o
      go_wp2
      go_roundw
      case rel =>
        refine ⟨m, v / 100000000, by first | go_num | (congr 1; omega), by first | go_num | (congr 1; omega), ⟨?_⟩⟩
        have e : v / 100 / 100 / 100 / 100 = v / 100000000 := by omega
        rw [← e]
        exact HIn3.out
      case measure => simp [RowKit.intOf]; omega
    · have hc8 : nd = 0 ∨ nd = 1 ∨ nd = 2 ∨ nd = 3 ∨ nd = 4 ∨ nd = 5 ∨ nd = 6 ∨ nd = 7 := by omega
      have hlt := HI0.out.lt
      rcases hc8 with rfl | rfl | rfl | rfl | rfl | rfl | rfl | rfl
      · -- nd = 0
        have hv : v < 10 := hlt
        clear hlt
        go_wp2
        go_end0
        exact ⟨rfl, ⟨HI0.out.but, HI0.out.frz, HI0.out.row, ⟨_, rfl⟩, Nat.zero_le _, by decide, by decide⟩⟩
      · -- nd = 1
        have hv : v < 100 := hlt
        clear hlt
        obtain ⟨G0, hg0, _⟩ := HI0.out.row
        have hc0 : ∀ t, t < sz → W0.cell? ⟨blk, off + t, none⟩ = some (.int .u8 (G0 t)) := hg0
        have hf0 : ∀ t, t < sz → W0.frozen? ⟨blk, off + t, none⟩ = false := HI0.out.frz
        clear hg0
        go_wp2
        go_end0
        exact ⟨rfl, HI0.out.last _ (by omega)⟩
      · -- nd = 2
        have hv : v < 1000 := hlt
        clear hlt
        obtain ⟨G0, hg0, _⟩ := HI0.out.row
        have hc0 : ∀ t, t < sz → W0.cell? ⟨blk, off + t, none⟩ = some (.int .u8 (G0 t)) := hg0
        have hf0 : ∀ t, t < sz → W0.frozen? ⟨blk, off + t, none⟩ = false := HI0.out.frz
        clear hg0
        go_wp2
        have HIn0 := Aside0.mk (FbI.step (show FbI w W0 blk off sz u (0 + 2) (v) from HI0.out))
        go_name_slot 16 x0 hx0
        have hxe0 : x0 = (((v) % 100 * 2 : Nat) : Int) := by omega
        have hXa0 : ∀ w, (Instr.index 9 (.string Lib.smalls) (.int .u32 (x0 + 1))).run Try.prog w = .ok (.int .u8 ((Lib.sm ((v) % 100 * 2 + 1)).toNat : Int)) w := Lib.idx_smalls 9 Try.underlying9 .u32 _ _ (by omega) (by omega)
        have hXb0 : ∀ w, (Instr.index 9 (.string Lib.smalls) (.int .u32 x0)).run Try.prog w = .ok (.int .u8 ((Lib.sm ((v) % 100 * 2)).toNat : Int)) w := Lib.idx_smalls 9 Try.underlying9 .u32 _ _ (by omega) (by omega)
        have hlo0 : 0 ≤ x0 := by omega
        have hhi0 : x0 ≤ 198 := by omega
        clear hx0 hxe0
        go_region_o
        go_wp2
        go_end0
        exact ⟨rfl, ⟨HIn0.out.but, HIn0.out.frz, HIn0.out.row, ⟨_, rfl⟩, Nat.zero_le _, by decide, by decide⟩⟩
      · -- nd = 3
        have hv : v < 10000 := hlt
        clear hlt
        obtain ⟨G0, hg0, _⟩ := HI0.out.row
        have hc0 : ∀ t, t < sz → W0.cell? ⟨blk, off + t, none⟩ = some (.int .u8 (G0 t)) := hg0
        have hf0 : ∀ t, t < sz → W0.frozen? ⟨blk, off + t, none⟩ = false := HI0.out.frz
        clear hg0
        go_wp2
        have HIn0 := Aside0.mk (FbI.step (show FbI w W0 blk off sz u (1 + 2) (v) from HI0.out))
        go_name_slot 16 x0 hx0
        have hxe0 : x0 = (((v) % 100 * 2 : Nat) : Int) := by omega
        have hXa0 : ∀ w, (Instr.index 9 (.string Lib.smalls) (.int .u32 (x0 + 1))).run Try.prog w = .ok (.int .u8 ((Lib.sm ((v) % 100 * 2 + 1)).toNat : Int)) w := Lib.idx_smalls 9 Try.underlying9 .u32 _ _ (by omega) (by omega)
        have hXb0 : ∀ w, (Instr.index 9 (.string Lib.smalls) (.int .u32 x0)).run Try.prog w = .ok (.int .u8 ((Lib.sm ((v) % 100 * 2)).toNat : Int)) w := Lib.idx_smalls 9 Try.underlying9 .u32 _ _ (by omega) (by omega)
        have hlo0 : 0 ≤ x0 := by omega
        have hhi0 : x0 ≤ 198 := by omega
        clear hx0 hxe0
        go_region_o
        go_wp2
        go_end0
        exact ⟨rfl, FbI.last (show FbI _ _ _ _ _ _ 1 _ from HIn0.out) _ (by omega)⟩
      · -- nd = 4
        have hv : v < 100000 := hlt
        clear hlt
        obtain ⟨G0, hg0, _⟩ := HI0.out.row
        have hc0 : ∀ t, t < sz → W0.cell? ⟨blk, off + t, none⟩ = some (.int .u8 (G0 t)) := hg0
        have hf0 : ∀ t, t < sz → W0.frozen? ⟨blk, off + t, none⟩ = false := HI0.out.frz
        clear hg0
        go_wp2
        have HIn0 := Aside0.mk (FbI.step (show FbI w W0 blk off sz u (2 + 2) (v) from HI0.out))
        go_name_slot 15 x0 hx0
        have hxe0 : x0 = (((v) % 100 * 2 : Nat) : Int) := by omega
        have hXa0 : ∀ w, (Instr.index 9 (.string Lib.smalls) (.int .u32 (x0 + 1))).run Try.prog w = .ok (.int .u8 ((Lib.sm ((v) % 100 * 2 + 1)).toNat : Int)) w := Lib.idx_smalls 9 Try.underlying9 .u32 _ _ (by omega) (by omega)
        have hXb0 : ∀ w, (Instr.index 9 (.string Lib.smalls) (.int .u32 x0)).run Try.prog w = .ok (.int .u8 ((Lib.sm ((v) % 100 * 2)).toNat : Int)) w := Lib.idx_smalls 9 Try.underlying9 .u32 _ _ (by omega) (by omega)
        have hlo0 : 0 ≤ x0 := by omega
        have hhi0 : x0 ≤ 198 := by omega
        clear hx0 hxe0
        go_region_o
        go_wp2
        go_name_world W1 hW1
        have HI1 : Aside0 (FbI w W1 blk off sz u (2) (v / 100)) := ⟨by rw [← hW1]; exact HIn0.out⟩
        clear hW1 HIn0 hc0 hf0 HI0 hXa0 hXb0
        obtain ⟨G1, hg1, _⟩ := HI1.out.row
        have hc1 : ∀ t, t < sz → W1.cell? ⟨blk, off + t, none⟩ = some (.int .u8 (G1 t)) := hg1
        have hf1 : ∀ t, t < sz → W1.frozen? ⟨blk, off + t, none⟩ = false := HI1.out.frz
        clear hg1
        have HIn1 := Aside0.mk (FbI.step (show FbI w W1 blk off sz u (0 + 2) (v / 100) from HI1.out))
        go_name_slot 14 x1 hx1
        have hxe1 : x1 = (((v / 100) % 100 * 2 : Nat) : Int) := by omega
        have hXa1 : ∀ w, (Instr.index 9 (.string Lib.smalls) (.int .u32 (x1 + 1))).run Try.prog w = .ok (.int .u8 ((Lib.sm ((v / 100) % 100 * 2 + 1)).toNat : Int)) w := Lib.idx_smalls 9 Try.underlying9 .u32 _ _ (by omega) (by omega)
        have hXb1 : ∀ w, (Instr.index 9 (.string Lib.smalls) (.int .u32 x1)).run Try.prog w = .ok (.int .u8 ((Lib.sm ((v / 100) % 100 * 2)).toNat : Int)) w := Lib.idx_smalls 9 Try.underlying9 .u32 _ _ (by omega) (by omega)
        have hlo1 : 0 ≤ x1 := by omega
        have hhi1 : x1 ≤ 198 := by omega
        clear hx1 hxe1
        go_region_o
        go_wp2
        go_end0
        exact ⟨rfl, ⟨HIn1.out.but, HIn1.out.frz, HIn1.out.row, ⟨_, rfl⟩, Nat.zero_le _, by decide, by decide⟩⟩
      · -- nd = 5
        have hv : v < 1000000 := hlt
        clear hlt
        obtain ⟨G0, hg0, _⟩ := HI0.out.row
        have hc0 : ∀ t, t < sz → W0.cell? ⟨blk, off + t, none⟩ = some (.int .u8 (G0 t)) := hg0
        have hf0 : ∀ t, t < sz → W0.frozen? ⟨blk, off + t, none⟩ = false := HI0.out.frz
        clear hg0
        go_wp2
        have HIn0 := Aside0.mk (FbI.step (show FbI w W0 blk off sz u (3 + 2) (v) from HI0.out))
        go_name_slot 15 x0 hx0
        have hxe0 : x0 = (((v) % 100 * 2 : Nat) : Int) := by omega
        have hXa0 : ∀ w, (Instr.index 9 (.string Lib.smalls) (.int .u32 (x0 + 1))).run Try.prog w = .ok (.int .u8 ((Lib.sm ((v) % 100 * 2 + 1)).toNat : Int)) w := Lib.idx_smalls 9 Try.underlying9 .u32 _ _ (by omega) (by omega)
        have hXb0 : ∀ w, (Instr.index 9 (.string Lib.smalls) (.int .u32 x0)).run Try.prog w = .ok (.int .u8 ((Lib.sm ((v) % 100 * 2)).toNat : Int)) w := Lib.idx_smalls 9 Try.underlying9 .u32 _ _ (by omega) (by omega)
        have hlo0 : 0 ≤ x0 := by omega
        have hhi0 : x0 ≤ 198 := by omega
        clear hx0 hxe0
        go_region_o
        go_wp2
        go_name_world W1 hW1
        have HI1 : Aside0 (FbI w W1 blk off sz u (3) (v / 100)) := ⟨by rw [← hW1]; exact HIn0.out⟩
        clear hW1 HIn0 hc0 hf0 HI0 hXa0 hXb0
        obtain ⟨G1, hg1, _⟩ := HI1.out.row
        have hc1 : ∀ t, t < sz → W1.cell? ⟨blk, off + t, none⟩ = some (.int .u8 (G1 t)) := hg1
        have hf1 : ∀ t, t < sz → W1.frozen? ⟨blk, off + t, none⟩ = false := HI1.out.frz
        clear hg1
        have HIn1 := Aside0.mk (FbI.step (show FbI w W1 blk off sz u (1 + 2) (v / 100) from HI1.out))
        go_name_slot 14 x1 hx1
        have hxe1 : x1 = (((v / 100) % 100 * 2 : Nat) : Int) := by omega
        have hXa1 : ∀ w, (Instr.index 9 (.string Lib.smalls) (.int .u32 (x1 + 1))).run Try.prog w = .ok (.int .u8 ((Lib.sm ((v / 100) % 100 * 2 + 1)).toNat : Int)) w := Lib.idx_smalls 9 Try.underlying9 .u32 _ _ (by omega) (by omega)
        have hXb1 : ∀ w, (Instr.index 9 (.string Lib.smalls) (.int .u32 x1)).run Try.prog w = .ok (.int .u8 ((Lib.sm ((v / 100) % 100 * 2)).toNat : Int)) w := Lib.idx_smalls 9 Try.underlying9 .u32 _ _ (by omega) (by omega)
        have hlo1 : 0 ≤ x1 := by omega
        have hhi1 : x1 ≤ 198 := by omega
        clear hx1 hxe1
        go_region_o
        go_wp2
        go_end0
        exact ⟨rfl, FbI.last (show FbI _ _ _ _ _ _ 1 _ from HIn1.out) _ (by omega)⟩
      · -- nd = 6
        have hv : v < 10000000 := hlt
        clear hlt
        obtain ⟨G0, hg0, _⟩ := HI0.out.row
        have hc0 : ∀ t, t < sz → W0.cell? ⟨blk, off + t, none⟩ = some (.int .u8 (G0 t)) := hg0
        have hf0 : ∀ t, t < sz → W0.frozen? ⟨blk, off + t, none⟩ = false := HI0.out.frz
        clear hg0
        go_wp2
        have HIn0 := Aside0.mk (FbI.step (show FbI w W0 blk off sz u (4 + 2) (v) from HI0.out))
        go_name_slot 15 x0 hx0
        have hxe0 : x0 = (((v) % 100 * 2 : Nat) : Int) := by omega
        have hXa0 : ∀ w, (Instr.index 9 (.string Lib.smalls) (.int .u32 (x0 + 1))).run Try.prog w = .ok (.int .u8 ((Lib.sm ((v) % 100 * 2 + 1)).toNat : Int)) w := Lib.idx_smalls 9 Try.underlying9 .u32 _ _ (by omega) (by omega)
        have hXb0 : ∀ w, (Instr.index 9 (.string Lib.smalls) (.int .u32 x0)).run Try.prog w = .ok (.int .u8 ((Lib.sm ((v) % 100 * 2)).toNat : Int)) w := Lib.idx_smalls 9 Try.underlying9 .u32 _ _ (by omega) (by omega)
        have hlo0 : 0 ≤ x0 := by omega
        have hhi0 : x0 ≤ 198 := by omega
        clear hx0 hxe0
        go_region_o
        go_wp2
        go_name_world W1 hW1
        have HI1 : Aside0 (FbI w W1 blk off sz u (4) (v / 100)) := ⟨by rw [← hW1]; exact HIn0.out⟩
        clear hW1 HIn0 hc0 hf0 HI0 hXa0 hXb0
        obtain ⟨G1, hg1, _⟩ := HI1.out.row
        have hc1 : ∀ t, t < sz → W1.cell? ⟨blk, off + t, none⟩ = some (.int .u8 (G1 t)) := hg1
        have hf1 : ∀ t, t < sz → W1.frozen? ⟨blk, off + t, none⟩ = false := HI1.out.frz
        clear hg1
        have HIn1 := Aside0.mk (FbI.step (show FbI w W1 blk off sz u (2 + 2) (v / 100) from HI1.out))
        go_name_slot 14 x1 hx1
        have hxe1 : x1 = (((v / 100) % 100 * 2 : Nat) : Int) := by omega
        have hXa1 : ∀ w, (Instr.index 9 (.string Lib.smalls) (.int .u32 (x1 + 1))).run Try.prog w = .ok (.int .u8 ((Lib.sm ((v / 100) % 100 * 2 + 1)).toNat : Int)) w := Lib.idx_smalls 9 Try.underlying9 .u32 _ _ (by omega) (by omega)
        have hXb1 : ∀ w, (Instr.index 9 (.string Lib.smalls) (.int .u32 x1)).run Try.prog w = .ok (.int .u8 ((Lib.sm ((v / 100) % 100 * 2)).toNat : Int)) w := Lib.idx_smalls 9 Try.underlying9 .u32 _ _ (by omega) (by omega)
        have hlo1 : 0 ≤ x1 := by omega
        have hhi1 : x1 ≤ 198 := by omega
        clear hx1 hxe1
        go_region_o
        go_wp2
        go_name_world W2 hW2
        have HI2 : Aside0 (FbI w W2 blk off sz u (2) (v / 100 / 100)) := ⟨by rw [← hW2]; exact HIn1.out⟩
        clear hW2 HIn1 hc1 hf1 HI1 hXa1 hXb1
        obtain ⟨G2, hg2, _⟩ := HI2.out.row
        have hc2 : ∀ t, t < sz → W2.cell? ⟨blk, off + t, none⟩ = some (.int .u8 (G2 t)) := hg2
        have hf2 : ∀ t, t < sz → W2.frozen? ⟨blk, off + t, none⟩ = false := HI2.out.frz
        clear hg2
        have HIn2 := Aside0.mk (FbI.step (show FbI w W2 blk off sz u (0 + 2) (v / 100 / 100) from HI2.out))
        go_name_slot 16 x2 hx2
        have hxe2 : x2 = (((v / 100 / 100) % 100 * 2 : Nat) : Int) := by omega
        have hXa2 : ∀ w, (Instr.index 9 (.string Lib.smalls) (.int .u32 (x2 + 1))).run Try.prog w = .ok (.int .u8 ((Lib.sm ((v / 100 / 100) % 100 * 2 + 1)).toNat : Int)) w := Lib.idx_smalls 9 Try.underlying9 .u32 _ _ (by omega) (by omega)
        have hXb2 : ∀ w, (Instr.index 9 (.string Lib.smalls) (.int .u32 x2)).run Try.prog w = .ok (.int .u8 ((Lib.sm ((v / 100 / 100) % 100 * 2)).toNat : Int)) w := Lib.idx_smalls 9 Try.underlying9 .u32 _ _ (by omega) (by omega)
        have hlo2 : 0 ≤ x2 := by omega
        have hhi2 : x2 ≤ 198 := by omega
        clear hx2 hxe2
        go_region_o
        go_wp2
        go_end0
        exact ⟨rfl, ⟨HIn2.out.but, HIn2.out.frz, HIn2.out.row, ⟨_, rfl⟩, Nat.zero_le _, by decide, by decide⟩⟩
      · -- nd = 7
        have hv : v < 100000000 := hlt
        clear hlt
        obtain ⟨G0, hg0, _⟩ := HI0.out.row
        have hc0 : ∀ t, t < sz → W0.cell? ⟨blk, off + t, none⟩ = some (.int .u8 (G0 t)) := hg0
        have hf0 : ∀ t, t < sz → W0.frozen? ⟨blk, off + t, none⟩ = false := HI0.out.frz
        clear hg0
        go_wp2
        have HIn0 := Aside0.mk (FbI.step (show FbI w W0 blk off sz u (5 + 2) (v) from HI0.out))
        go_name_slot 15 x0 hx0
        have hxe0 : x0 = (((v) % 100 * 2 : Nat) : Int) := by omega
        have hXa0 : ∀ w, (Instr.index 9 (.string Lib.smalls) (.int .u32 (x0 + 1))).run Try.prog w = .ok (.int .u8 ((Lib.sm ((v) % 100 * 2 + 1)).toNat : Int)) w := Lib.idx_smalls 9 Try.underlying9 .u32 _ _ (by omega) (by omega)
        have hXb0 : ∀ w, (Instr.index 9 (.string Lib.smalls) (.int .u32 x0)).run Try.prog w = .ok (.int .u8 ((Lib.sm ((v) % 100 * 2)).toNat : Int)) w := Lib.idx_smalls 9 Try.underlying9 .u32 _ _ (by omega) (by omega)
        have hlo0 : 0 ≤ x0 := by omega
        have hhi0 : x0 ≤ 198 := by omega
        clear hx0 hxe0
        go_region_o
        go_wp2
        go_name_world W1 hW1
        have HI1 : Aside0 (FbI w W1 blk off sz u (5) (v / 100)) := ⟨by rw [← hW1]; exact HIn0.out⟩
        clear hW1 HIn0 hc0 hf0 HI0 hXa0 hXb0
        obtain ⟨G1, hg1, _⟩ := HI1.out.row
        have hc1 : ∀ t, t < sz → W1.cell? ⟨blk, off + t, none⟩ = some (.int .u8 (G1 t)) := hg1
        have hf1 : ∀ t, t < sz → W1.frozen? ⟨blk, off + t, none⟩ = false := HI1.out.frz
        clear hg1
        have HIn1 := Aside0.mk (FbI.step (show FbI w W1 blk off sz u (3 + 2) (v / 100) from HI1.out))
        go_name_slot 14 x1 hx1
        have hxe1 : x1 = (((v / 100) % 100 * 2 : Nat) : Int) := by omega
        have hXa1 : ∀ w, (Instr.index 9 (.string Lib.smalls) (.int .u32 (x1 + 1))).run Try.prog w = .ok (.int .u8 ((Lib.sm ((v / 100) % 100 * 2 + 1)).toNat : Int)) w := Lib.idx_smalls 9 Try.underlying9 .u32 _ _ (by omega) (by omega)
        have hXb1 : ∀ w, (Instr.index 9 (.string Lib.smalls) (.int .u32 x1)).run Try.prog w = .ok (.int .u8 ((Lib.sm ((v / 100) % 100 * 2)).toNat : Int)) w := Lib.idx_smalls 9 Try.underlying9 .u32 _ _ (by omega) (by omega)
        have hlo1 : 0 ≤ x1 := by omega
        have hhi1 : x1 ≤ 198 := by omega
        clear hx1 hxe1
        go_region_o
        go_wp2
        go_name_world W2 hW2
        have HI2 : Aside0 (FbI w W2 blk off sz u (3) (v / 100 / 100)) := ⟨by rw [← hW2]; exact HIn1.out⟩
        clear hW2 HIn1 hc1 hf1 HI1 hXa1 hXb1
        obtain ⟨G2, hg2, _⟩ := HI2.out.row
        have hc2 : ∀ t, t < sz → W2.cell? ⟨blk, off + t, none⟩ = some (.int .u8 (G2 t)) := hg2
        have hf2 : ∀ t, t < sz → W2.frozen? ⟨blk, off + t, none⟩ = false := HI2.out.frz
        clear hg2
        have HIn2 := Aside0.mk (FbI.step (show FbI w W2 blk off sz u (1 + 2) (v / 100 / 100) from HI2.out))
        go_name_slot 16 x2 hx2
        have hxe2 : x2 = (((v / 100 / 100) % 100 * 2 : Nat) : Int) := by omega
        have hXa2 : ∀ w, (Instr.index 9 (.string Lib.smalls) (.int .u32 (x2 + 1))).run Try.prog w = .ok (.int .u8 ((Lib.sm ((v / 100 / 100) % 100 * 2 + 1)).toNat : Int)) w := Lib.idx_smalls 9 Try.underlying9 .u32 _ _ (by omega) (by omega)
        have hXb2 : ∀ w, (Instr.index 9 (.string Lib.smalls) (.int .u32 x2)).run Try.prog w = .ok (.int .u8 ((Lib.sm ((v / 100 / 100) % 100 * 2)).toNat : Int)) w := Lib.idx_smalls 9 Try.underlying9 .u32 _ _ (by omega) (by omega)
        have hlo2 : 0 ≤ x2 := by omega
        have hhi2 : x2 ≤ 198 := by omega
        clear hx2 hxe2
        go_region_o
        go_wp2
        go_end0
        exact ⟨rfl, FbI.last (show FbI _ _ _ _ _ _ 1 _ from HIn2.out) _ (by omega)⟩
/-- The table of powers of ten, whatever it holds. -/
abbrev TB (w : World) (T : Nat → Int) : Prop := ∀ i, i < 20 → w.cell? ⟨0, i, none⟩ = some (.int .u64 (T i))
theorem TB.below {w W : World} {T : Nat → Int} {B : Nat} (h : TB w T) (hb : Below B w W) (hB : 0 < B) : TB W T := fun i hi => by
  have h0 := h i hi
  have e := hb.block 0 hB
  simp only [World.cell?] at h0 ⊢
  rw [e]; exact h0
theorem TB.pos {w : World} {T : Nat → Int} (h : TB w T) : 0 < w.heap.size := by
  have h0 := h 0 (by decide)
  rcases Nat.eq_zero_or_pos w.heap.size with e | e
  · exfalso
    have : w.heap[0]? = none := by rw [Array.getElem?_eq_none]; omega
    simp [World.cell?, this] at h0
  · exact e
/-- How many bytes a number takes, by the table. -/
def ND (T : Nat → Int) (u : Nat) : Nat := Lib.l10 (Lib.bitLen u) + (if T (Lib.l10 (Lib.bitLen u)) ≤ (u : Int) then 1 else 0)
theorem nd_le (T : Nat → Int) (u : Nat) (h1 : 1 ≤ u) (h2 : u < 18446744073709551616) : ND T u ≤ 20 ∧ u < 10 ^ (ND T u + 1) := by
  obtain ⟨hnd, h19⟩ := Lib.numDigits_eq u h1 h2
  have hp := Lib.lt_pow_nDigits u
  have hle : Lib.nDigits u ≤ Lib.l10 (Lib.bitLen u) + 1 := by split at hnd <;> omega
  have hn : Lib.l10 (Lib.bitLen u) ≤ ND T u ∧ ND T u ≤ Lib.l10 (Lib.bitLen u) + 1 := by unfold ND; split <;> omega
  refine ⟨by omega, Nat.lt_of_lt_of_le hp (Nat.pow_le_pow_right (by decide) (by omega))⟩
set_option maxHeartbeats 2000000 in
set_option maxRecDepth 100000 in
theorem numDigits_any (u : Nat) (h1 : 1 ≤ u) (h2 : u < 18446744073709551616) (T : Nat → Int) (w : World) (ht : TB w T) :
    Calls Try.prog 75 #[.int .u64 u] w fun e w' => e = .returned (.int .i64 (ND T u)) ∧ w' = w := by
  obtain ⟨_, h19⟩ := Lib.numDigits_eq u h1 h2
  have hL : Lib.bitLen u ≤ 64 := Lib.bitLen_le u 64 (Nat.le_refl _) h2
  have hcell : w.cell? ⟨0, Lib.l10 (Lib.bitLen u), none⟩ = some (.int .u64 (T (Lib.l10 (Lib.bitLen u)))) := ht _ (by omega)
  have hND : Aside0 ((ND T u : Int) = (Lib.l10 (Lib.bitLen u) : Int) + (if T (Lib.l10 (Lib.bitLen u)) ≤ (u : Int) then 1 else 0)) := ⟨by unfold ND; split <;> omega⟩
  have hto : ((u : Int)).toNat = u := by omega
  clear ht
  generalize (ND T u : Int) = N at hND ⊢
  generalize hq : Lib.l10 (Lib.bitLen u) = q at h19 hcell hND
  generalize T q = Tq at hcell hND
  have h20 : q < 20 := by omega
  go_enter Try.func75, Try.ntmps75
  go_wp2_with (first
    | (go_at_call 79; (with_reducible refine (Try.bits_Len64 _ _ (by omega) (by omega)).mono ?_); rintro e w' ⟨rfl, rfl⟩)
    | (go_at_call 78; (with_reducible refine (Try.internal_strconv_log10Pow2 _ (by first | exact hL | (rw [hto]; exact hL)) _).mono ?_); rintro e w' ⟨rfl, rfl⟩)
    | (go_at_call 80; (with_reducible refine (Try.internal_strconv_bool2_int _ _).mono ?_); rintro e w' ⟨rfl, rfl⟩))
  all_goals go_ret
  all_goals (
    refine ⟨?_, rfl⟩
    have hnd := hND.out
    congr 2
    split at hnd <;> simp_all <;> omega)
def FBU (n u : Nat) : List UInt8 := (FBL n u).map fun x => UInt8.ofNat x.toNat
/-- The text of a number, by the table. -/
def NUM (T : Nat → Int) (u : Nat) : ByteArray := if u < 100 then ⟨(Lib.decDigits u).toArray⟩ else ⟨(FBU (ND T u) u).toArray⟩
theorem fbl_in : ∀ n u, ∀ x ∈ FBL n u, 0 ≤ x ∧ x ≤ 255
  | 0, _, x, h => by cases h
  | 1, u, x, h => by rw [FBL, List.mem_singleton] at h; omega
  | n + 2, u, x, h => by
    rw [FBL, List.mem_append] at h
    rcases h with h | h
    · exact fbl_in n _ x h
    · simp only [List.mem_cons, List.not_mem_nil, or_false] at h
      rcases h with h | h <;> omega
theorem FbI.bytes {w0 W : World} {blk off sz u v : Nat} (h : FbI w0 W blk off sz u 0 v) : ∀ (j : Nat) (hj : j < (FBU sz u).length), W.cell? ((⟨blk, off, none⟩ : Addr).add j) = some (.int .u8 (((FBU sz u)[j]'hj).toNat : Int)) := fun j hj => by
  have hj' : j < (FBL sz u).length := by unfold FBU at hj; rwa [List.length_map] at hj
  have h1 := h.cells j _ (List.getElem?_eq_getElem hj')
  have hin := fbl_in sz u _ (List.getElem_mem hj')
  have e0 : (FBU sz u)[j]'hj = UInt8.ofNat ((FBL sz u)[j]'hj').toNat := by simp [FBU]
  have e : (UInt8.ofNat ((FBL sz u)[j]'hj').toNat).toNat = ((FBL sz u)[j]'hj').toNat := by
    rw [UInt8.toNat_ofNat']; exact Nat.mod_eq_of_lt (by omega)
  rw [Lib.add_plain, h1, e0, e, Int.toNat_of_nonneg hin.1]
theorem zeros_row (w : World) (t : TypeId) (off sz : Nat) (h : off + sz ≤ 24) : (∀ j, j < sz → (w.alloc (.cells Lib.zeros24 t)).frozen? ⟨w.heap.size, off + j, none⟩ = false) ∧ ∃ G : Nat → Int, ∀ j, j < sz → (w.alloc (.cells Lib.zeros24 t)).cell? ⟨w.heap.size, off + j, none⟩ = some (.int .u8 (G j)) :=
  ⟨fun j _ => World.frozen?_alloc_new _ _ _ _, fun _ => 0, fun j hj => by rw [World.cell?_alloc_new]; exact Lib.zeros24_at _ (by omega)⟩
theorem TB.alloc {w : World} {T : Nat → Int} (h : TB w T) (o : Obj) : TB (w.alloc o) T := h.below (below_alloc (Below.refl _ _) _) h.pos
set_option maxHeartbeats 4000000 in
set_option maxRecDepth 100000 in
theorem formatUint_in (u : Nat) (h2 : u < 18446744073709551616) (T : Nat → Int) (w : World) (ht : TB w T) :
    Calls Try.prog 94 #[.int .u64 u, .int .i64 10] w fun e w' => e = .returned (.string (NUM T u)) ∧ Below w.heap.size w w' := by
  by_cases hs : u < 100
  · have hlt : decide ((u : Int) < 100) = true := decide_eq_true (by omega)
    have hw : IntKind.i64.wrap (u : Int) = u := by rw [IntKind.wrap_i64]; omega
    have HN := Aside0.mk (show NUM T u = ⟨(Lib.decDigits u).toArray⟩ from if_pos hs)
    have HS := Aside0.mk hs
    clear ht
    go_enter Try.func94, Try.ntmps94
    go_wp2_with (go_at_call 74; (with_reducible refine (Try.internal_strconv_small u HS.out _).mono ?_); rintro e w' ⟨rfl, rfl⟩)
    go_ret
    exact ⟨by rw [HN.out]; rfl, Below.refl _ _⟩
  · have hlt : decide ((u : Int) < 100) = false := decide_eq_false (by omega)
    obtain ⟨hnd, hu⟩ := nd_le T u (by omega) h2
    obtain ⟨z1, z2⟩ := zeros_row w 102 0 (ND T u) (by omega)
    have hfmt := fb10 w.heap.size 0 (ND T u) 24 u (w.alloc (.cells Lib.zeros24 102)) z1 z2 hu h2 (by omega)
    have hsl : ∀ W, (Instr.sliceAt 102 (.pointer (some ⟨w.heap.size, 0, none⟩)) none (some (.int .i64 (ND T u : Int))) none).run Try.prog W = .ok (.slice (some ⟨w.heap.size, 0, none⟩) (ND T u) 24) W := fun W => by
      have hal : Try.prog.arrayLen 102 = 24 := by simp [Program.arrayLen, Try.underlying102]
      rw [run_sliceAt_array_h W 102 ⟨w.heap.size, 0, none⟩ (by simp [Program.arrayLen, Program.elem, Try.underlying102]) .i64 (ND T u : Int) (by omega) (by rw [hal]; omega)]
      first | done | (go_simp; done) | (go_simp; omega)
    have HN := Aside0.mk (show NUM T u = ⟨(FBU (ND T u) u).toArray⟩ from if_neg hs)
    have HT := Aside0.mk ht
    have hfl : (FBU (ND T u) u).length = ND T u := by unfold FBU; rw [List.length_map, fbl_len]
    have H1 := Aside0.mk (show 1 ≤ u by omega)
    clear ht hs hu z1 z2
    go_enter Try.func94, Try.ntmps94
    go_wp2_with (go_at_call 75; (with_reducible refine (numDigits_any u H1.out h2 T _ (HT.out.alloc _)).mono ?_); rintro e w' ⟨rfl, rfl⟩)
    go_at_call 76
    refine hfmt.mono ?_
    rintro e w' ⟨rfl, hF⟩
    have hcv : (convert 80 9 (.slice (some ⟨w.heap.size, 0, none⟩) (ND T u) 24)).run Try.prog w' = .ok (.string ⟨(FBU (ND T u) u).toArray⟩) w' := by
      have h := run_convert_bytes_back (P := Try.prog) w' 80 9 5 ⟨w.heap.size, 0, none⟩ 24 (FBU (ND T u) u) Try.underlying80 Try.underlying5 Try.underlying9 hF.bytes
      rw [hfl] at h
      exact h
    have hbl := Aside0.mk (show Below w.heap.size w w' from (below_alloc (Below.refl _ _) _).trans hF.but)
    clear hF hfmt
    go_wp2
    go_ret
    exact ⟨by rw [HN.out]; rfl, by first | exact hbl.out | exact hbl.out.drew⟩
set_option maxHeartbeats 4000000 in
set_option maxRecDepth 100000 in
theorem formatInt_in (u : Nat) (h2 : u < 9223372036854775808) (T : Nat → Int) (w : World) (ht : TB w T) :
    Calls Try.prog 73 #[.int .i64 u, .int .i64 10] w fun e w' => e = .returned (.string (NUM T u)) ∧ Below w.heap.size w w' := by
  by_cases hs : u < 100
  · refine (Try.internal_strconv_FormatInt_10_small u hs w).mono ?_
    rintro e w' ⟨rfl, rfl⟩
    exact ⟨by rw [show NUM T u = ⟨(Lib.decDigits u).toArray⟩ from if_pos hs], Below.refl _ _⟩
  · have hlt : decide ((u : Int) < 100) = false := decide_eq_false (by omega)
    have hle : decide ((0 : Int) ≤ u) = true := decide_eq_true (by omega)
    have hln : decide ((u : Int) < 0) = false := decide_eq_false (by omega)
    have hw : IntKind.u64.wrap (u : Int) = u := by rw [IntKind.wrap_u64]; omega
    obtain ⟨hnd, hu⟩ := nd_le T u (by omega) (by omega)
    obtain ⟨z1, z2⟩ := zeros_row w 102 1 (ND T u) (by omega)
    have hfmt := fb10 w.heap.size 1 (ND T u) 23 u (w.alloc (.cells Lib.zeros24 102)) z1 z2 hu (by omega) (by omega)
    have hal : Try.prog.arrayLen 102 = 24 := by simp [Program.arrayLen, Try.underlying102]
    have hsl : ∀ W, (Instr.sliceAt 102 (.pointer (some ⟨w.heap.size, 0, none⟩)) (some (.int .i64 1)) (some (.int .i64 (1 + (ND T u : Int)))) none).run Try.prog W = .ok (.slice (some ⟨w.heap.size, 1, none⟩) (ND T u) 23) W := fun W => by
      rw [run_sliceAt_array_lh W 102 ⟨w.heap.size, 0, none⟩ (by simp [Program.arrayLen, Program.elem, Try.underlying102]) .i64 .i64 1 (1 + (ND T u : Int)) (by omega) (by omega) (by rw [hal]; omega)]
      first | done | (go_simp; done) | (go_simp; omega)
    have hb3 : ND T u ≤ 23 := by omega
    have HN := Aside0.mk (show NUM T u = ⟨(FBU (ND T u) u).toArray⟩ from if_neg hs)
    have HT := Aside0.mk ht
    have hfl : (FBU (ND T u) u).length = ND T u := by unfold FBU; rw [List.length_map, fbl_len]
    have H1 := Aside0.mk (show 1 ≤ u ∧ u < 18446744073709551616 by omega)
    clear ht hu z1 z2 hal
    go_enter Try.func73, Try.ntmps73
    go_wp2_with (go_at_call 75; (with_reducible refine (numDigits_any u H1.out.1 H1.out.2 T _ (HT.out.alloc _)).mono ?_); rintro e w' ⟨rfl, rfl⟩)
    go_at_call 76
    refine hfmt.mono ?_
    rintro e w' ⟨rfl, hF⟩
    have hcv : (convert 80 9 (.slice (some ⟨w.heap.size, 1, none⟩) (ND T u) 23)).run Try.prog w' = .ok (.string ⟨(FBU (ND T u) u).toArray⟩) w' := by
      have h := run_convert_bytes_back (P := Try.prog) w' 80 9 5 ⟨w.heap.size, 1, none⟩ 23 (FBU (ND T u) u) Try.underlying80 Try.underlying5 Try.underlying9 hF.bytes
      rw [hfl] at h
      exact h
    have hbl := Aside0.mk (show Below w.heap.size w w' from (below_alloc (Below.refl _ _) _).trans hF.but)
    clear hF hfmt
    go_wp2
    go_ret
    exact ⟨by rw [HN.out]; rfl, by first | exact hbl.out | exact hbl.out.drew⟩
set_option maxHeartbeats 4000000 in
theorem strconv_FormatUint_any (u : Nat) (h2 : u < 18446744073709551616) (T : Nat → Int) (w : World) (ht : TB w T) :
    Calls Try.prog 91 #[.int .u64 u, .int .i64 10] w fun e w' => e = .returned (.string (NUM T u)) ∧ Below w.heap.size w w' := by
  go_enter Try.func91, Try.ntmps91
  go_wp2_with (go_at_call 94; (with_reducible refine (formatUint_in u h2 T _ ht).mono ?_); rintro e w' ⟨rfl, hb⟩)
  go_ret
  exact ⟨rfl, by first | exact hb | exact hb.drew⟩
set_option maxHeartbeats 4000000 in
theorem strconv_Itoa_in_any (u : Nat) (h2 : u < 9223372036854775808) (T : Nat → Int) (w : World) (ht : TB w T) :
    Calls Try.prog 72 #[.int .i64 u] w fun e w' => e = .returned (.string (NUM T u)) ∧ Below w.heap.size w w' := by
  go_enter Try.func72, Try.ntmps72
  go_wp2_with (go_at_call 73; (with_reducible refine (formatInt_in u h2 T _ ht).mono ?_); rintro e w' ⟨rfl, hb⟩)
  go_ret
  exact ⟨rfl, by first | exact hb | exact hb.drew⟩
set_option maxHeartbeats 4000000 in
theorem strconv_Itoa_any (u : Nat) (h2 : u < 9223372036854775808) (T : Nat → Int) (w : World) (ht : TB w T) :
    Calls Try.prog 71 #[.int .i64 u] w fun e w' => e = .returned (.string (NUM T u)) ∧ Below w.heap.size w w' := by
  go_enter Try.func71, Try.ntmps71
  go_wp2_with (go_at_call 72; (with_reducible refine (strconv_Itoa_in_any u h2 T _ ht).mono ?_); rintro e w' ⟨rfl, hb⟩)
  go_ret
  exact ⟨rfl, by first | exact hb | exact hb.drew⟩
end Go.Proofs.Ytmmgcbafdmkhbaa.M
