import Derived.Test.YtmmgcbafdmkhbaaP1Te
namespace Go.Proofs.Ytmmgcbafdmkhbaa.M
open Go Go.RowKit Go.Proofs.YtmmgcbafdmkhbaaW.PrintWords Go.Proofs.YtmmgcbafdmkhbaaW.PrintLast Go.Proofs.YtmmgcbafdmkhbaaW.PrintMore Go.Proofs
set_option linter.unusedVariables false
set_option linter.unusedSimpArgs false
abbrev aw11c : S39 := ⟨1, 2, 3, 0⟩
abbrev aw11 : S42 := ⟨⟨4, 13⟩, [⟨#[111, 112, 101, 110]⟩], [aw11c]⟩
theorem one_cells {α : Type} {d : Kd α} {w : World} {b : Nat} {x : α} {cs : Array Value} {t : Nat} (hb : w.heap[b]? = some (.cells cs t (0, 0))) (hK : d.K w x cs.toList) : Kd.C d w (some ⟨b, 0, none⟩) 1 [x] := by
  refine ⟨rfl, by simp, fun _ => ⟨_, rfl, fun j p hj => ?_⟩⟩
  cases j with
  | zero =>
    have : x = p := by simpa using hj
    subst this
    refine ⟨_, d.K_len hK, hK, fun i u hu => ?_⟩
    rw [Addr.add_mid, blk_cell hb]
    simpa using hu
  | succ j => simp at hj
theorem aw_row (w : World) : Kd.C k42 (((w.alloc (.cells #[.string ⟨#[111, 112, 101, 110]⟩] 9)).alloc (.cells #[.int .i64 1, .int .i64 2, .int .u64 3, .int .u64 0] 39)).alloc (.cells #[.int .i64 4, .int .i64 13, .slice (some ⟨w.heap.size, 0, none⟩) 1 1, .slice (some ⟨w.heap.size + 1, 0, none⟩) 1 1] 42)) (some ⟨w.heap.size + 1 + 1, 0, none⟩) 1 [aw11] := by
  have b0 := blk_new w (.cells #[.string ⟨#[111, 112, 101, 110]⟩] 9)
  have b1 := blk_new (w.alloc (.cells #[.string ⟨#[111, 112, 101, 110]⟩] 9)) (.cells #[.int .i64 1, .int .i64 2, .int .u64 3, .int .u64 0] 39)
  have b2 := blk_new ((w.alloc (.cells #[.string ⟨#[111, 112, 101, 110]⟩] 9)).alloc (.cells #[.int .i64 1, .int .i64 2, .int .u64 3, .int .u64 0] 39)) (.cells #[.int .i64 4, .int .i64 13, .slice (some ⟨w.heap.size, 0, none⟩) 1 1, .slice (some ⟨w.heap.size + 1, 0, none⟩) 1 1] 42)
  simp only [World.size_alloc] at b1 b2
  refine one_cells b2 ?_
  have c0 := blk_alloc (blk_alloc b0 (.cells #[.int .i64 1, .int .i64 2, .int .u64 3, .int .u64 0] 39)) (.cells #[.int .i64 4, .int .i64 13, .slice (some ⟨w.heap.size, 0, none⟩) 1 1, .slice (some ⟨w.heap.size + 1, 0, none⟩) 1 1] 42)
  have c1 := blk_alloc b1 (.cells #[.int .i64 4, .int .i64 13, .slice (some ⟨w.heap.size, 0, none⟩) 1 1, .slice (some ⟨w.heap.size + 1, 0, none⟩) 1 1] 42)
  exact k42_mk _ aw11 (c2 := 1) (Nat.le_refl _) (one_cells c0 rfl) (c3 := 1) (Nat.le_refl _) (one_cells c1 (k39_mk _ aw11c))
theorem aw_ok : RuleOk aw11 := ⟨by decide, by decide, by decide, by decide, by decide, fun c hc => by rw [List.mem_singleton.1 hc]; unfold CondOk; decide⟩
theorem aw_right : show_Right.f 60 1 0 [aw11] = some true := by kernel_rfl
theorem num_lit1 (T : Nat → Int) (u : Nat) (h : u < 10) : NUM T u = bs [UInt8.ofNat (48 + u)] := by
  unfold NUM
  rw [if_pos (by omega)]
  unfold Lib.decDigits
  rw [dif_pos h]
  rfl
theorem num_13 (T : Nat → Int) : NUM T 13 = bs [49, 51] := by
  unfold NUM
  rw [if_pos (by decide)]
  unfold Lib.decDigits
  rw [dif_neg (by decide)]
  unfold Lib.decDigits
  rw [dif_pos (by decide)]
  rfl
theorem aw_text (T : Nat → Int) : TEXT T 1 0 [aw11] = ⟨#[100, 101, 102, 97, 117, 108, 116, 32, 107, 105, 108, 108, 59, 10, 101, 114, 114, 110, 111, 32, 49, 51, 32, 111, 112, 101, 110, 32, 119, 104, 101, 110, 32, 97, 114, 103, 49, 32, 38, 32, 51, 32, 33, 61, 32, 48, 59, 10]⟩ := by
  have e1 : ACTW T 4 13 = bs [101, 114, 114, 110, 111] ++ (bs [32] ++ bs [49, 51]) := by
    have h : NUM T (13 : Int).toNat = bs [49, 51] := num_13 T
    unfold ACTW; rw [if_pos (by decide), h]; rfl
  have e2 : CONDW T aw11c = bs [97, 114, 103] ++ bs [49] ++ (bs [32, 38, 32] ++ bs [51]) ++ bs [32] ++ bs [33, 61] ++ bs [32] ++ bs [48] := by
    have h1 : NUM T (1 : Int).toNat = bs [49] := num_lit1 T 1 (by decide)
    have h3 : NUM T (3 : Int).toNat = bs [51] := num_lit1 T 3 (by decide)
    have h0 : NUM T (0 : Int).toNat = bs [48] := num_lit1 T 0 (by decide)
    unfold CONDW CONDA
    rw [if_neg (by decide)]
    show bs [97, 114, 103] ++ NUM T (1 : Int).toNat ++ (bs [32, 38, 32] ++ NUM T (3 : Int).toNat) ++ bs [32] ++ SIGN 2 ++ bs [32] ++ NUM T (0 : Int).toNat = _
    rw [h1, h3, h0]
    rfl
  show TEXT0 T 1 0 ++ LINEW T aw11 = _
  unfold TEXT0 LINEW RULEW
  show bs [100, 101, 102, 97, 117, 108, 116, 32] ++ (ACTW T 1 0 ++ bs [59, 10]) ++ (RCON T 0 (ACTW T 4 13 ++ bs [32] ++ JOINW [⟨#[111, 112, 101, 110]⟩]) [aw11c] ++ bs [59, 10]) = _
  have e0 : ACTW T 1 0 = bs [107, 105, 108, 108] := by unfold ACTW; rw [if_neg (by decide)]; rfl
  rw [e0, e1]
  simp only [RCON]
  rw [e2]
  decide +kernel
set_option maxHeartbeats 8000000 in
set_option maxRecDepth 100000 in
theorem awake11 (T : Nat → Int) (w : World) (ht : TB w T) :
    Calls Try.prog 8 #[] w fun e w' => e = .returned (.bool true) ∧ Below w.heap.size w w' := by
  have HT := Aside0.mk ht
  have HX := Aside0.mk (aw_text T)
  have HW := Aside0.mk (show_Text_true 60 1 0 _ 1 [aw11] _ (aw_row w) (Nat.le_refl _) aw_right (by decide) (by decide) (by decide) (fun x hx => by rw [List.mem_singleton.1 hx]; exact aw_ok) T (((ht.alloc _).alloc _).alloc _))
  clear ht
  go_enter Try.func8, Try.ntmps8
  go_wp2_with (go_at_call 10; refine HW.out.mono ?_; rintro e w5 ⟨rfl, hb5⟩; rw [HX.out]; have HB5 := Aside0.mk hb5; clear hb5)
  go_ret
  exact ⟨rfl, (below_alloc (below_alloc (below_alloc (Below.refl _ _) _) _) _).trans (HB5.out.mono (by simp only [World.size_alloc]; omega))⟩
end Go.Proofs.Ytmmgcbafdmkhbaa.M
