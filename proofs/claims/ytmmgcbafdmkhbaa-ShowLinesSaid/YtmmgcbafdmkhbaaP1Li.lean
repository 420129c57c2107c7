import Derived.Test.YtmmgcbafdmkhbaaP1Ru
namespace Go.Proofs.Ytmmgcbafdmkhbaa.M
open Go Go.RowKit Go.Proofs.YtmmgcbafdmkhbaaW.PrintWords Go.Proofs.YtmmgcbafdmkhbaaW.PrintLast Go.Proofs.YtmmgcbafdmkhbaaW.PrintMore Go.Proofs
set_option linter.unusedVariables false
set_option linter.unusedSimpArgs false
set_option maxHeartbeats 8000000 in
set_option maxRecDepth 100000 in
theorem line_act (k a : Int) (hk : 1 ≤ k ∧ k ≤ 8) (ha : 0 ≤ a ∧ a ≤ 65535) (T : Nat → Int) (w : World) (ht : TB w T) :
    Calls Try.prog 16 #[.iface 44 (.agg #[.int .i64 k, .int .i64 a])] w fun e w' => e = .returned (.string (ACTW T k a ++ bs [59, 10])) ∧ Below w.heap.size w w' := by
  have HT := Aside0.mk ht
  have HK := Aside0.mk hk
  have HA := Aside0.mk ha
  obtain ⟨AW, hAW⟩ : ∃ AW, AW = ACTW T k a := ⟨_, rfl⟩
  have haz : AW.size ≤ 30 := by rw [hAW]; exact actw_size T k a ha
  have p1 : ¬ 9223372036854775807 < AW.size + 2 := by omega
  have HAW := Aside0.mk hAW
  clear ht hk ha hAW
  have hm : ∀ w : World, (method 230 44 (.agg #[.int .i64 k, .int .i64 a]) "fairlead/show.words").run Try.prog w = .ok (70, .agg #[.int .i64 k, .int .i64 a]) w := fun _ => by kernel_rfl
  go_enter Try.func16, Try.ntmps16
  go_wp2_with (go_at_call 70; (with_reducible refine (act_words k a HK.out HA.out T _ HT.out).mono ?_); rintro e w5 ⟨rfl, hb5⟩; rw [← HAW.out]; have HB5 := Aside0.mk hb5; clear hb5)
  go_ret
  exact ⟨by rw [← HAW.out]; rfl, HB5.out⟩
set_option maxHeartbeats 8000000 in
set_option maxRecDepth 100000 in
theorem line_rule (x : S42) (A1 : Option Addr) (c1 : Nat) (A2 : Option Addr) (c2 : Nat) (hk : 1 ≤ x.f0.f0 ∧ x.f0.f0 ≤ 8) (ha : 0 ≤ x.f0.f1 ∧ x.f0.f1 ≤ 65535) (w : World) (hr1 : Kd.C Kd.string w A1 x.f1.length x.f1) (hc1 : x.f1.length ≤ c1) (hr2 : Kd.C k39 w A2 x.f2.length x.f2) (hc2 : x.f2.length ≤ c2) (hn : 1 ≤ x.f1.length ∧ x.f1.length ≤ 16) (hj : (JOINW x.f1).size ≤ 100000) (hcl : x.f2.length ≤ 8) (hco : ∀ c ∈ x.f2, CondOk c) (T : Nat → Int) (ht : TB w T) (hz : (RULEW T x).size ≤ 200000) :
    Calls Try.prog 16 #[.iface 45 (.agg #[.int .i64 x.f0.f0, .int .i64 x.f0.f1, .slice A1 x.f1.length c1, .slice A2 x.f2.length c2])] w fun e w' => e = .returned (.string (RULEW T x ++ bs [59, 10])) ∧ Below w.heap.size w w' := by
  have HW := Aside0.mk (rule_words x A1 c1 A2 c2 hk ha w hr1 hc1 hr2 hc2 hn hj hcl hco T ht)
  have p1 : ¬ 9223372036854775807 < (RULEW T x).size + 2 := by omega
  clear ht hk ha hr1 hc1 hr2 hc2 hn hj hcl hco hz
  have hm : ∀ w : World, (method 230 45 (.agg #[.int .i64 x.f0.f0, .int .i64 x.f0.f1, .slice A1 x.f1.length c1, .slice A2 x.f2.length c2]) "fairlead/show.words").run Try.prog w = .ok (85, .agg #[.int .i64 x.f0.f0, .int .i64 x.f0.f1, .slice A1 x.f1.length c1, .slice A2 x.f2.length c2]) w := fun _ => by kernel_rfl
  go_enter Try.func16, Try.ntmps16
  go_wp2_with (go_at_call 85; (with_reducible refine HW.out.mono ?_); rintro e w5 ⟨rfl, hb5⟩; have HB5 := Aside0.mk hb5; clear hb5)
  go_ret
  exact ⟨rfl, HB5.out⟩
end Go.Proofs.Ytmmgcbafdmkhbaa.M
