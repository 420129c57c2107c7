import Derived.Test.YtmmgcbafdmkhbaaP1Li
import Derived.Test.YtmmgcbafdmkhbaaP1Mx5
import Derived.Test.YtmmgcbafdmkhbaaP1Mx6
namespace Go.Proofs.Ytmmgcbafdmkhbaa.M
open Go Go.RowKit Go.Proofs.YtmmgcbafdmkhbaaW.PrintWords Go.Proofs.YtmmgcbafdmkhbaaW.PrintLast Go.Proofs.YtmmgcbafdmkhbaaW.PrintMore Go.Proofs
set_option linter.unusedVariables false
set_option linter.unusedSimpArgs false
theorem rcon_size (T : Nat → Int) : ∀ (l : List S39) (i : Nat) (s : ByteArray), (∀ c ∈ l, CondOk c) → (RCON T i s l).size ≤ s.size + 90 * l.length := by
  intro l
  induction l with
  | nil => intro i s _; simp [RCON]
  | cons c r ih =>
    intro i s h
    have hc := h c List.mem_cons_self
    have hz := condw_size T c hc.1 hc.2.2.1 hc.2.2.2
    have := ih (i + 1) ((if i = 0 then s ++ bs [32, 119, 104, 101, 110, 32] else s ++ bs [32, 97, 110, 100, 32]) ++ CONDW T c) (fun y hy => h y (List.mem_cons_of_mem _ hy))
    rw [RCON]
    refine Nat.le_trans this ?_
    rw [ByteArray.size_append, List.length_cons]
    split <;> (rw [ByteArray.size_append, bs_size]; simp only [List.length_cons, List.length_nil]; omega)
/-- A rule that may be shown, and is not too great. -/
structure RuleOk (x : S42) : Prop where
  k : 1 ≤ x.f0.f0 ∧ x.f0.f0 ≤ 8
  a : 0 ≤ x.f0.f1 ∧ x.f0.f1 ≤ 65535
  n : 1 ≤ x.f1.length ∧ x.f1.length ≤ 16
  j : (JOINW x.f1).size ≤ 100000
  c : x.f2.length ≤ 8
  o : ∀ c ∈ x.f2, CondOk c
theorem rulew_size (T : Nat → Int) (x : S42) (h : RuleOk x) : (RULEW T x).size ≤ 200000 := by
  have h1 := rcon_size T x.f2 0 (ACTW T x.f0.f0 x.f0.f1 ++ bs [32] ++ JOINW x.f1) h.o
  have h2 := actw_size T x.f0.f0 x.f0.f1 h.a
  have h3 := h.j
  have h4 := h.c
  simp only [ByteArray.size_append, bs_size, List.length_cons, List.length_nil] at h1
  unfold RULEW
  omega
/-- A rule's line. -/
def LINEW (T : Nat → Int) (x : S42) : ByteArray := RULEW T x ++ bs [59, 10]
def TEXT0 (T : Nat → Int) (d0 d1 : Int) : ByteArray := bs [100, 101, 102, 97, 117, 108, 116, 32] ++ (ACTW T d0 d1 ++ bs [59, 10])
/-- Rules' text. -/
def TEXT (T : Nat → Int) (d0 d1 : Int) (L : List S42) : ByteArray := L.foldl (fun s x => s ++ LINEW T x) (TEXT0 T d0 d1)
theorem take_rd42 (L : List S42) (j : Nat) (h : j < L.length) : L.take (j + 1) = L.take j ++ [rd_T42 L j] := by
  rw [List.take_add_one, List.getElem?_eq_getElem h]
  unfold rd_T42
  rw [Int.toNat_natCast, List.getD_eq_getElem?_getD, List.getElem?_eq_getElem h]
  rfl
theorem rd42_mem (l : List S42) (i : Nat) (h : i < l.length) : rd_T42 l i ∈ l := by
  unfold rd_T42
  rw [Int.toNat_natCast, List.getD_eq_getElem?_getD, List.getElem?_eq_getElem h]
  exact List.getElem_mem h
set_option maxHeartbeats 8000000 in
set_option maxRecDepth 100000 in
theorem show_Text_false (k : Nat) (d0 d1 : Int) (A : Option Addr) (c : Nat) (L : List S42) (w : World) (hr : Kd.C k42 w A L.length L) (hc : L.length ≤ c) (h : show_Right.f k d0 d1 L = some false) :
    Calls Try.prog 10 #[.agg #[.int .i64 d0, .int .i64 d1, .slice A L.length c]] w fun e w' => e = .returned (.tuple #[.string (bs []), .int .i64 1]) ∧ Below w.heap.size w w' := by
  have HW := fun w1 (hb : Below w.heap.size w w1) => show_Right.calls k d0 d1 A c L false w1 (Kd.C_below hr hb) hc h
  have HW := Aside0.mk HW
  have HB0 := Aside0.mk (BW.init w #[.int .i64 d0, .int .i64 d1, .slice A L.length c] 26)
  clear hr h
  go_enter Try.func10, Try.ntmps10
  go_wp2_with (go_at_call 12; (with_reducible refine (HW.out _ HB0.out.below).mono ?_); rintro e w5 ⟨rfl, hb5⟩; have HB5 := Aside0.mk (HB0.out.step hb5); clear hb5)
  go_ret2
  exact ⟨rfl, HB5.out.below⟩
set_option maxHeartbeats 8000000 in
set_option maxRecDepth 100000 in
theorem show_Text_true (k : Nat) (d0 d1 : Int) (A : Option Addr) (c : Nat) (L : List S42) (w : World) (hr : Kd.C k42 w A L.length L) (hc : L.length ≤ c) (h : show_Right.f k d0 d1 L = some true) (hk : 1 ≤ d0 ∧ d0 ≤ 8) (ha : 0 ≤ d1 ∧ d1 ≤ 65535) (hL : L.length ≤ 64) (hR : ∀ x ∈ L, RuleOk x) (T : Nat → Int) (ht : TB w T) :
    Calls Try.prog 10 #[.agg #[.int .i64 d0, .int .i64 d1, .slice A L.length c]] w fun e w' => e = .returned (.tuple #[.string (TEXT T d0 d1 L), .int .i64 0]) ∧ Below w.heap.size w w' := by
  have HW := Aside0.mk (fun w1 (hb : Below w.heap.size w w1) => show_Right.calls k d0 d1 A c L true w1 (Kd.C_below hr hb) hc h)
  have HB0 := Aside0.mk (BW.init w #[.int .i64 d0, .int .i64 d1, .slice A L.length c] 26)
  have HT := Aside0.mk ht
  have HK := Aside0.mk hk
  have HA := Aside0.mk ha
  have HC := Aside0.mk hr
  have HL := Aside0.mk hL
  have HRu := Aside0.mk hR
  obtain ⟨AW, hAW⟩ : ∃ AW, AW = ACTW T d0 d1 ++ bs [59, 10] := ⟨_, rfl⟩
  have haz : AW.size ≤ 32 := by rw [hAW, ByteArray.size_append, bs_size]; have := actw_size T d0 d1 ha; simp only [List.length_cons, List.length_nil]; omega
  have HAW := Aside0.mk hAW
  have p1 : ¬ 9223372036854775807 < 8 + AW.size := by omega
  have hu26 := Try.underlying26
  have hu42 := Try.underlying42
  have hu23 := Try.underlying23
  clear ht hk ha hr hL hR h hAW
  go_enter Try.func10, Try.ntmps10
  go_wp2_with (first
    | (go_at_call 12; (with_reducible refine (HW.out _ HB0.out.below).mono ?_); rintro e w5 ⟨rfl, hb5⟩; have HB5 := Aside0.mk (HB0.out.step hb5); clear hb5; have z0 := (HB5.out.cell 0).trans (show _ = some (.int .i64 d0 : Value) from rfl); have z1 := (HB5.out.cell 1).trans (show _ = some (.int .i64 d1 : Value) from rfl); have z2 := (HB5.out.cell 2).trans (show _ = some (.slice A L.length c : Value) from rfl))
    | (go_at_call 16; (with_reducible refine (line_act d0 d1 HK.out HA.out T _ (HB5.out.tb HT.out)).mono ?_); rintro e w6 ⟨rfl, hb6⟩; rw [← HAW.out]; have HB6 := Aside0.mk (HB5.out.step hb6); clear hb6 z0 z1 z2; have z2 := (HB6.out.cell 2).trans (show _ = some (.slice A L.length c : Value) from rfl)))
  have HST := Aside0.mk (show (⟨#[100, 101, 102, 97, 117, 108, 116, 32]⟩ : ByteArray) ++ AW = TEXT T d0 d1 (L.take 0) by rw [HAW.out]; rfl)
  have hSz : ((⟨#[100, 101, 102, 97, 117, 108, 116, 32]⟩ : ByteArray) ++ AW).size ≤ 100 := by rw [ByteArray.size_append]; have e5 : (⟨#[100, 101, 102, 97, 117, 108, 116, 32]⟩ : ByteArray).size = 8 := rfl; omega
  generalize (⟨#[100, 101, 102, 97, 117, 108, 116, 32]⟩ : ByteArray) ++ AW = SX at HST hSz ⊢
  clear z2 p1
  go_loopg [4, 18] (L.length + 1) (fun kq v4 v18 w' => ∃ (s : ByteArray) (i : Int) (j : Nat), v4 = .string s ∧ v18 = .int .i64 i ∧ Aside0 (i = (j : Int)) ∧ Aside0 (j ≤ L.length) ∧ Aside0 (L.length - j < kq) ∧ Aside0 (s = TEXT T d0 d1 (L.take j)) ∧ Aside0 (s.size ≤ 100 + 200002 * j) ∧ Aside0 (BW w w' #[.int .i64 d0, .int .i64 d1, .slice A L.length c] 26))
  case atStart => exact ⟨SX, 0, 0, rfl, rfl, ⟨rfl⟩, ⟨Nat.zero_le _⟩, ⟨by omega⟩, HST, ⟨by omega⟩, HB6⟩
  case round =>
    clear HB6 HB5 HB0 HST hSz
    obtain ⟨s, i, j, rfl, rfl, hi, hj, hk2, hR, hz, hB⟩ := hrel
    obtain ⟨k2, rfl⟩ : ∃ k2, gk = k2 + 1 := ⟨gk - 1, by have := hk2.out; omega⟩
    by_cases hlt : i < (L.length : Int)
    · have b1 : decide (i < (L.length : Int)) = true := decide_eq_true hlt
      have p1 : 0 ≤ i := by have := hi.out; omega
      have hjl : Aside0 (j + 1 ≤ L.length) := ⟨by have := hi.out; omega⟩
      obtain ⟨ad, A2, c2, A3, c3, e, y0, y1, y2, y3, l2, g2, l3, g3⟩ := at_T42 HC.out i p1 hlt
      cases e
      replace y0 := pw_cell_below hB.out.below y0
      replace y1 := pw_cell_below hB.out.below y1
      replace y2 := pw_cell_below hB.out.below y2
      replace y3 := pw_cell_below hB.out.below y3
      obtain ⟨x, hx⟩ : ∃ x, x = rd_T42 L i := ⟨_, rfl⟩
      rw [← hx] at y0 y1 y2 y3 l2 g2 l3 g3
      have hxj : x = rd_T42 L (j : Int) := by rw [hx, hi.out]
      have hxo : Aside0 (RuleOk x) := ⟨by rw [hxj]; exact HRu.out _ (rd42_mem L j hjl.out)⟩
      have hrz := rulew_size T x hxo.out
      have hdr : Aside0 (TEXT T d0 d1 (L.take (j + 1)) = s ++ LINEW T x) := ⟨by rw [hxj, take_rd42 L j hjl.out, hR.out]; unfold TEXT; rw [List.foldl_append]; rfl⟩
      have hlz : (LINEW T x).size ≤ 200002 := by unfold LINEW; rw [ByteArray.size_append, bs_size]; simp only [List.length_cons, List.length_nil]; omega
      have hi1 : wrap64 (i + 1) = ((j + 1 : Nat) : Int) := by have := hi.out; have := HL.out; unfold wrap64; omega
      have hzs : s.size ≤ 100 + 200002 * j := hz.out
      have q2 : ¬ 9223372036854775807 < s.size + (LINEW T x).size := by have := HL.out; have := hjl.out; omega
      have HLW := Aside0.mk (fun w1 (hb : Below w.heap.size w w1) => line_rule x A2 c2 A3 c3 hxo.out.k hxo.out.a w1 (Kd.C_below g2 hb) l2 (Kd.C_below g3 hb) l3 hxo.out.n hxo.out.j hxo.out.c hxo.out.o T (HT.out.below hb HT.out.pos) hrz)
      have HLn := Aside0.mk (show RULEW T x ++ bs [59, 10] = LINEW T x from rfl)
      clear hx hxj g2 g3 hrz
      go_wp2_with (first | (go_at_call 16; (with_reducible refine (HLW.out _ (hB.out.alloc _).below).mono ?_); rintro e w5 ⟨rfl, hb5⟩; rw [HLn.out]; have HB5 := Aside0.mk ((hB.out.alloc _).step hb5); clear hb5))
      go_roundg k2
      case measure => have := hk2.out; omega
      case rel => exact ⟨s ++ LINEW T x, ((j + 1 : Nat) : Int), j + 1, rfl, by first | rfl | (rw [← hi1]; done) | (simp [hi1]; done), ⟨rfl⟩, ⟨hjl.out⟩, ⟨by have := hk2.out; have := hjl.out; omega⟩, ⟨hdr.out.symm⟩, ⟨by rw [ByteArray.size_append]; omega⟩, HB5⟩
    · have b1 : decide (i < (L.length : Int)) = false := decide_eq_false hlt
      have hjl : j = L.length := by have := hi.out; have := hj.out; omega
      have hfin : s = TEXT T d0 d1 L := by rw [hR.out, hjl, List.take_length]
      go_wp2
      go_ret2
      exact ⟨by rw [← hfin]; rfl, hB.out.below⟩
end Go.Proofs.Ytmmgcbafdmkhbaa.M
