/- Words for stacks: a row of rows behind a pointer, copies of rows, a cut with three places. -/
import Derived.Test.YteojfjlklikaoaaP5WWords
import Derived.Test.YteojfjlklikaoaaP5WApart
import Derived.Test.YteojfjlklikaoaaP5WLast
import Derived.ArgAppend
import Derived.Laws.CopyRow
import Derived.Maps.AppendAt
import Derived.Deep.MidRow
import Derived.Deep.RegionHeld3
import Derived.Deep.RegionLaw
set_option linter.unusedVariables false
set_option linter.unusedSimpArgs false
namespace Go.Proofs.Yteojfjlklikaoaa.Mine
open Go Go.RowKit Go.Proofs.YteojfjlklikaoaaW Go.Proofs.YteojfjlklikaoaaW.PrintWords Go.Proofs.YteojfjlklikaoaaW.PrintLast
/-- All but the blocks of S stand as they did. -/
structure But (S : Nat → Prop) (w w' : World) : Prop where
  os : w'.os = w.os
  tape : w'.tape = w.tape
  output : w'.output = w.output
  size : w.heap.size ≤ w'.heap.size
  block : ∀ k, k < w.heap.size → ¬ S k → w'.heap[k]? = w.heap[k]?
section
variable {S S' : Nat → Prop} {u v w w1 : World} {g B : Nat}
theorem But.refl (S : Nat → Prop) (w : World) : But S w w := ⟨rfl, rfl, rfl, Nat.le_refl _, fun _ _ _ => rfl⟩
theorem But.trans (h : But S u v) (k : But S v w) : But S u w :=
  ⟨k.os.trans h.os, k.tape.trans h.tape, k.output.trans h.output, Nat.le_trans h.size k.size, fun i hi h1 => (k.block i (Nat.lt_of_lt_of_le hi h.size) h1).trans (h.block i hi h1)⟩
/-- The second's blocks need be told only of those that the first world had. -/
theorem But.join (h : But S u v) (k : But S' v w) (hs : ∀ i, i < u.heap.size → S' i → S i) : But S u w :=
  ⟨k.os.trans h.os, k.tape.trans h.tape, k.output.trans h.output, Nat.le_trans h.size k.size, fun i hi h1 => (k.block i (Nat.lt_of_lt_of_le hi h.size) (fun h2 => h1 (hs i hi h2))).trans (h.block i hi h1)⟩
theorem But.mono (h : But S u w) (hs : ∀ k, k < u.heap.size → S k → S' k) : But S' u w := ⟨h.os, h.tape, h.output, h.size, fun k hk h1 => h.block k hk (fun h2 => h1 (hs k hk h2))⟩
theorem But.setCell (h : But S u w) {p : Addr} (hs : p.block < u.heap.size → S p.block) (x : Value) : But S u (w.setCell p x) :=
  h.join (S' := fun k => k = p.block) ⟨rfl, rfl, rfl, by simp [World.setCell], fun k hk h1 => Below.heap_setCell _ _ _ _ h1⟩ (fun i hi e => e ▸ hs (e ▸ hi))
theorem But.row (h : But S u w) (hs : g < u.heap.size → S g) (cs : Array Value) : But S u (w.setRow g cs) :=
  h.join (S' := fun k => k = g) ⟨rfl, rfl, rfl, by simp [World.setRow], fun k hk h1 => setRow_other w g k cs h1⟩ (fun i hi e => e ▸ hs (e ▸ hi))
theorem But.alloc (h : But S u w) (ob : Obj) : But S u (w.alloc ob) := h.trans ⟨rfl, rfl, rfl, by simp, fun k hk _ => Below.heap_alloc _ _ _ hk⟩
theorem But.drew (h : But S u w) : But S u w.drew := ⟨h.os, h.tape, h.output, h.size, h.block⟩
theorem But.drewN (h : But S u w) (n : Nat) : But S u (w.drewN n) := ⟨h.os, h.tape, h.output, h.size, h.block⟩
theorem But.of_below (h : Below u.heap.size u w) : But S u w := ⟨h.os, h.tape, h.output, h.size, fun k hk _ => h.block k hk⟩
theorem But.of_grown {row : Option Nat} (h : u.grownBy w row) (hs : ∀ k, row = some k → k < u.heap.size → S k) : But S u w := ⟨h.os, h.tape, h.output, h.size, fun k hk h1 => h.block k hk (fun e => h1 (hs k e.symm hk))⟩
theorem But.below (h : But S u w) (hS : ∀ k, k < B → ¬ S k) (hB : B ≤ u.heap.size) : Below B u w := ⟨h.os, h.tape, h.output, h.size, fun k hk => h.block k (by omega) (hS k hk)⟩
theorem But.toBelow (h : But S u w) (hS : ∀ k, k < u.heap.size → ¬ S k) : Below u.heap.size u w := h.below hS (Nat.le_refl _)
theorem But.thenBelow (h : But S u v) (k : Below v.heap.size v w) : But S u w := h.trans (But.of_below k)
theorem But.blk (h : But S u w) {b : Nat} {ob : Obj} (hb : u.heap[b]? = some ob) (h1 : ¬ S b) : w.heap[b]? = some ob := (h.block b (blk_lt hb) h1).trans hb
theorem But.cell (h : But S u w) {a : Addr} {x : Value} (hc : u.cell? a = some x) (h1 : ¬ S a.block) : w.cell? a = some x :=
  (World.cell?_of_block (h.block a.block (World.block_lt_of_cell? u _ hc) h1)).trans hc
end
/-- A row of one's own stands through what leaves its blocks alone. -/
theorem R_but {α : Type} {d : Kd α} {e base : Nat} {ok S : Nat → Prop} {u w : World} {v : Value} {xs : List α} (h : d.R e u base ok v xs) (hb : But S u w) (hs : ∀ k, k < u.heap.size → ok k → ¬ S k) : d.R e w base ok v xs :=
  Kd.R_step h (fun k ho hk => hb.block k hk (hs k hk ho))
theorem R_more {α : Type} {d : Kd α} {e base : Nat} {ok ok' : Nat → Prop} {w : World} {v : Value} {xs : List α} (h : d.R e w base ok v xs) (hs : ∀ k, k < w.heap.size → ok k → ok' k) : d.R e w base ok' v xs :=
  Kd.R_mono (Kd.R_bound h) (fun k hk => hs k hk.2.2.1 hk.1)
/-- A stack behind a pointer: its row of rows, its cost. -/
structure Sk {α : Type} (T e t : Nat) (d : Kd α) (ok : Nat → Prop) (w : World) (g : Nat) (L : List (List α)) (cost : Int) : Prop where
  blk : ∃ v, w.heap[g]? = some (.cells #[v, .int .i64 cost] T (0, 0)) ∧ Kd.R (Kd.slice e d) t w 0 ok v L
  og : ¬ ok g
/-- The document's stack. -/
structure Rk {α : Type} (T e t : Nat) (d : Kd α) (ok : Nat → Prop) (w : World) (g : Nat) (L : List (List α)) : Prop where
  blk : ∃ v, w.heap[g]? = some (.cells #[v] T (0, 0)) ∧ Kd.R (Kd.slice e d) t w 0 ok v L
  og : ¬ ok g
section
variable {α : Type} {T e t : Nat} {d : Kd α} {ok ok' S : Nat → Prop} {w w1 : World} {g : Nat} {L : List (List α)} {cost : Int}
theorem Sk.lt (h : Sk T e t d ok w g L cost) : g < w.heap.size := by obtain ⟨⟨v, hb, _⟩, _⟩ := h; exact blk_lt hb
theorem Rk.lt (h : Rk T e t d ok w g L) : g < w.heap.size := by obtain ⟨⟨v, hb, _⟩, _⟩ := h; exact blk_lt hb
theorem Sk.step (h : Sk T e t d ok w g L cost) (hb : But S w w1) (h1 : ¬ S g) (h2 : ∀ k, k < w.heap.size → ok k → ¬ S k) : Sk T e t d ok w1 g L cost := by
  obtain ⟨⟨v, hv, hr⟩, ho⟩ := h
  exact ⟨⟨v, hb.blk hv h1, R_but hr hb h2⟩, ho⟩
theorem Rk.step (h : Rk T e t d ok w g L) (hb : But S w w1) (h1 : ¬ S g) (h2 : ∀ k, k < w.heap.size → ok k → ¬ S k) : Rk T e t d ok w1 g L := by
  obtain ⟨⟨v, hv, hr⟩, ho⟩ := h
  exact ⟨⟨v, hb.blk hv h1, R_but hr hb h2⟩, ho⟩
theorem Sk.more (h : Sk T e t d ok w g L cost) (hs : ∀ k, k < w.heap.size → ok k → ok' k) (hg : ¬ ok' g) : Sk T e t d ok' w g L cost := by
  obtain ⟨⟨v, hv, hr⟩, ho⟩ := h
  exact ⟨⟨v, hv, R_more hr hs⟩, hg⟩
theorem Rk.more (h : Rk T e t d ok w g L) (hs : ∀ k, k < w.heap.size → ok k → ok' k) (hg : ¬ ok' g) : Rk T e t d ok' w g L := by
  obtain ⟨⟨v, hv, hr⟩, ho⟩ := h
  exact ⟨⟨v, hv, R_more hr hs⟩, hg⟩
theorem Sk.below (h : Sk T e t d ok w g L cost) (hb : Below w.heap.size w w1) : Sk T e t d ok w1 g L cost := h.step (S := fun _ => False) (But.of_below hb) (fun x => x) (fun _ _ _ x => x)
theorem Rk.below (h : Rk T e t d ok w g L) (hb : Below w.heap.size w w1) : Rk T e t d ok w1 g L := h.step (S := fun _ => False) (But.of_below hb) (fun x => x) (fun _ _ _ x => x)
theorem Sk.drewN (h : Sk T e t d ok w g L cost) (n : Nat) : Sk T e t d ok (w.drewN n) g L cost := h.step (S := fun _ => False) ((But.refl _ _).drewN n) (fun x => x) (fun _ _ _ x => x)
theorem Rk.drewN (h : Rk T e t d ok w g L) (n : Nat) : Rk T e t d ok (w.drewN n) g L := h.step (S := fun _ => False) ((But.refl _ _).drewN n) (fun x => x) (fun _ _ _ x => x)
theorem Sk.new (T e t : Nat) (d : Kd α) (w : World) : Sk T e t d (fun k => k ≠ w.heap.size) (w.alloc (.cells #[.slice none 0 0, .int .i64 0] T)) w.heap.size [] 0 :=
  ⟨⟨_, blk_new w _, Kd.R_nil _ _ _ _ _⟩, fun h => h rfl⟩
theorem Rk.new (T e t : Nat) (d : Kd α) (w : World) : Rk T e t d (fun k => k ≠ w.heap.size) (w.alloc (.cells #[.slice none 0 0] T)) w.heap.size [] :=
  ⟨⟨_, blk_new w _, Kd.R_nil _ _ _ _ _⟩, fun h => h rfl⟩
/-- What stands in a stack's block. -/
theorem Sk.open_ (h : Sk T e t d ok w g L cost) : ∃ A c, w.heap[g]? = some (.cells #[.slice A L.length c, .int .i64 cost] T (0, 0)) ∧ L.length ≤ c ∧ Kd.R (Kd.slice e d) t w 0 ok (.slice A L.length c) L ∧ Kd.C (Kd.slice e d) w A L.length L := by
  obtain ⟨⟨v, hv, hr⟩, ho⟩ := h
  obtain ⟨A, c, rfl, hl, hc⟩ := Kd.R_reads hr
  exact ⟨A, c, hv, hl, hr, hc⟩
theorem Rk.open_ (h : Rk T e t d ok w g L) : ∃ A c, w.heap[g]? = some (.cells #[.slice A L.length c] T (0, 0)) ∧ L.length ≤ c ∧ Kd.R (Kd.slice e d) t w 0 ok (.slice A L.length c) L ∧ Kd.C (Kd.slice e d) w A L.length L := by
  obtain ⟨⟨v, hv, hr⟩, ho⟩ := h
  obtain ⟨A, c, rfl, hl, hc⟩ := Kd.R_reads hr
  exact ⟨A, c, hv, hl, hr, hc⟩
/-- A row of a row. -/
theorem C_row {A : Option Addr} {n : Nat} {L : List (List α)} (h : Kd.C (Kd.slice e d) w A n L) (i : Int) (h0 : 0 ≤ i) (h1 : i < n) :
    ∃ ad A' c', A = some ad ∧ w.cell? (ad.add i.toNat) = some (.slice A' (L.getD i.toNat []).length c') ∧ (L.getD i.toNat []).length ≤ c' ∧ Kd.C d w A' (L.getD i.toNat []).length (L.getD i.toNat []) := by
  obtain ⟨ad, c, e1, hl, ⟨A', c', hc, hle, hC⟩, hcell⟩ := Kd.C_get h [] i h0 h1
  refine ⟨ad, A', c', e1, ?_, hle, hC⟩
  have := hcell 0 (.slice A' (L.getD i.toNat []).length c') (by rw [hc]; rfl)
  rw [show i.toNat * (Kd.slice e d).sz + 0 = i.toNat from Nat.mul_one _] at this
  exact this
end
theorem R_form0 {α : Type} {d : Kd α} {e base : Nat} {ok : Nat → Prop} {w : World} {v : Value} {xs : List α} (h : d.R e w base ok v xs) {b : Nat} (hb : v.ownBlock = some b) : ∃ cap, v = .slice (some ⟨b, 0, none⟩) xs.length cap := by
  obtain ⟨_, inner, ⟨_, h2⟩, _⟩ := h
  rcases h2 with ⟨rfl, _⟩ | ⟨g, cap, cur, rfl, _⟩
  · cases hb
  · have : g = b := by simpa [Value.ownBlock] using hb
    subst this
    exact ⟨cap, rfl⟩
/-- s[:n:n]. -/
theorem run_slice3 {P : Program} (W : World) (t e : TypeId) {i : TypeInfo} (A : Option Addr) (n c : Nat) (ht : P.underlying t = some (.slice e)) (hi : P.info? e = some i) (hc : n ≤ c) (k k' : IntKind) :
    (Instr.slice t (.slice A n c) none (some (.int k n)) (some (.int k' n))).run P W = .ok (.slice A n n) W := by
  have ha : (A.map fun x => x.add 0) = A := by cases A <;> simp [Addr.add]
  simp [Instr.slice, Instr.sliceBounds, Instr.sliceBound, run_underlying ht, asIntOf, sizeOf, typeInfo, hi, hc, Int.ofNat_le, ha]
/-- append onto a row without room. -/
theorem grown_row {P : Program} {α : Type} (d : Kd α) (W : World) (t ty e : TypeId) (z : Value) (bytes : Nat) (ht : P.underlying t = some (.slice e)) (hinfo : (P.info? e).map (fun i => (i.zero, i.size, i.bytes)) = some (some z, d.sz, bytes)) (hz : z.cells.size = d.sz) (hs0 : 0 < d.sz) (hb0 : 0 < bytes)
    {ok okp : Nat → Prop} {A : Option Addr} {n c : Nat} {xs : List α} {p : α} {cs : List Value} (HR : d.R e W 0 ok (.slice A n c) xs) (hn : n = xs.length) (hp : d.M W 0 okp p cs) (hokp : ∀ k, okp k → ok k ∧ some k ≠ (Value.slice A n c).ownBlock) (hfresh : ∀ k, W.heap.size ≤ k → ok k)
    (ad : Addr) (hnews : ∀ j u, cs[j]? = some u → W.cell? (ad.add j) = some u) (hl : (xs.length + 1) * bytes ≤ 140737488355328) :
    ∃ v1 w1, (Builtin.append_ #[t, t] ty #[.slice A n n, .slice (some ad) 1 1]).run P W = .ok v1 w1 ∧ d.R e w1 0 ok v1 (xs ++ [p]) ∧ W.grownBy w1 none := by
  subst hn
  obtain ⟨h0, inner, hown, hr⟩ := HR
  obtain ⟨i0, hi, hzz⟩ := Option.map_eq_some_iff.1 hinfo
  simp only [Prod.mk.injEq] at hzz
  obtain ⟨hz0, hz1, hz2⟩ := hzz
  have hb1 : xs.length + 1 ≤ 140737488355328 := Nat.le_trans (Nat.le_mul_of_pos_right _ hb0) hl
  have hcl : cs.length = 1 * d.sz := by rw [d.K_len (d.K_of_M hp), Nat.one_mul]
  have key : ∃ v1 w1, (Builtin.append_ #[t, t] ty #[.slice A xs.length xs.length, .slice (some ad) 1 1]).run P W = .ok v1 w1 ∧ w1.ownsRow W.heap.size e d.sz v1 (xs.length + 1) (inner ++ cs) ∧ W.grownBy w1 none := by
    rcases hown.2 with ⟨h1, h2⟩ | ⟨g, cap, cur, h1, h2, h3, h4, h5, h6, h7⟩
    · have e1 : xs.length = 0 := h2
      injection h1 with h1 _ _
      subst h1
      have : inner = [] := List.eq_nil_of_length_eq_zero (by rw [hown.1, h2]; simp)
      subst this
      obtain ⟨v', w', hrun, r1, r2, _⟩ := run_append_own (P := P) W W.heap.size t ty e i0 z d.sz bytes ht hi hz0 hz1 hz2 hz hs0 (.slice none 0 0) 0 [] (World.ownsRow_nil W _ e d.sz) ad 1 1 cs hcl hnews (d.K_one (d.K_of_M hp)) (by unfold maxLen; omega) (by rw [Nat.zero_add]; rw [e1] at hl; omega) (Nat.le_refl _)
      rw [e1]
      exact ⟨v', w', hrun, r1, r2⟩
    · injection h1 with h1 _ _
      subst h1
      obtain ⟨v', w', hrun, r1, r2⟩ := run_append_arg_grows (P := P) W t ty e i0 z d.sz bytes ht hi hz0 hz1 hz2 hz hs0 ⟨g, 0, none⟩ xs.length xs.length inner hown.1 (fun j u hj => by
        rw [Addr.add_lit]
        have : (cur.toList.take (xs.length * d.sz))[j]? = some u := by rw [h7]; exact hj
        have h8 : cur.toList[j]? = some u := by
          rw [List.getElem?_take] at this
          split at this
          · exact this
          · cases this
        rw [blk_cell h3, Nat.zero_add]
        simpa using h8) ad 1 1 cs hcl hnews (by omega) (by unfold maxLen; omega) hl
      exact ⟨v', w', hrun, r1, r2⟩
  obtain ⟨v1, w1, hrun, ho, hg⟩ := key
  refine ⟨v1, w1, hrun, ?_, hg⟩
  have hat : ∃ b, v1.ownBlock = some b ∧ W.heap.size ≤ b := by
    rcases own_base' ho with h1 | h1
    · exfalso
      rcases ho.2 with ⟨_, h2⟩ | ⟨g, cap, cur, h2, _⟩
      · omega
      · rw [h2] at h1; cases h1
    · exact h1
  exact Kd.R_appended h0 hr hp hokp hfresh (own_weaken ho (Nat.zero_le _)) ⟨hg.os, hg.tape, hg.output, hg.size, fun k hk _ => hg.block k hk (by simp)⟩ (.inr hat)
/-- The same, the draw ahead of the region. -/
theorem grown_step2 {P : Program} {ops : Array Oper} {o : Oper} {a : Act} {K : Act → World → Prop} {Q : Exit → Act → World → Prop} {E : Prop} {α : Type} (d : Kd α) {W : World} (hgd : o.guard = none) (s x : Operand) (t e : TypeId) (z : Value) (bytes : Nat)
    (ho : o.op = .call { callee := .builtin .append, args := #[s, x], argTypes := #[t, t] }) (ht : P.underlying t = some (.slice e)) (hinfo : (P.info? e).map (fun i => (i.zero, i.size, i.bytes)) = some (some z, d.sz, bytes)) (hz : z.cells.size = d.sz) (hs0 : 0 < d.sz) (hb0 : 0 < bytes)
    {ok okp : Nat → Prop} {A : Option Addr} {n c : Nat} {xs : List α} {p : α} {cs : List Value} (hs : a.eval s = .slice A n n) (hx : a.eval x = .slice (some ⟨W.heap.size, 0, none⟩) 1 1) (HR : d.R e W 0 ok (.slice A n c) xs) (hn : n = xs.length) (hp : d.M W 0 okp p cs) (hokp : ∀ k, okp k → ok k ∧ some k ≠ (Value.slice A n c).ownBlock) (hfresh : ∀ k, W.heap.size ≤ k → ok k)
    (hl : (xs.length + 1) * bytes ≤ 140737488355328)
    (h : ∀ A1 c1 w1, d.R e w1 0 ok (.slice A1 (xs.length + 1) c1) (xs ++ [p]) → W.grownBy w1 none → K (a.put o.dst (.slice A1 (xs.length + 1) c1)) w1) :
    if Region.wanted o (yielded ops a.tmps) = true then Oper.wp P o a (W.alloc (.cells cs.toArray e)) K Q else E := by
  have hw : Region.wanted o (yielded ops a.tmps) = true := by simp [Region.wanted, hgd]
  rw [if_pos hw]
  have hb : Below W.heap.size W (W.alloc (.cells cs.toArray e)) := below_alloc (Below.refl _ _) _
  obtain ⟨v1, w1, hrun, hR, hg⟩ := grown_row (P := P) d (W.alloc (.cells cs.toArray e)) t o.type e z bytes ht hinfo hz hs0 hb0 (Kd.R_below HR hb) hn (Kd.M_below hp hb) hokp (fun k hk => hfresh k (Nat.le_trans hb.size hk)) ⟨W.heap.size, 0, none⟩ (fun j u hj => by
    rw [Addr.add_lit, Nat.zero_add]
    show (W.alloc (.cells cs.toArray e)).cell? _ = _
    rw [blk_cell (blk_new W _)]
    simpa using hj) hl
  obtain ⟨A1, c1, rfl⟩ := Kd.R_slice hR
  rw [List.length_append, List.length_singleton] at hrun hR
  unfold Oper.wp
  simp [execOp, ho, resolve, invoke, builtin, hs, hx, hrun, Result.andThen]
  refine h A1 c1 w1 hR ⟨hg.os.trans hb.os, hg.tape.trans hb.tape, hg.output.trans hb.output, Nat.le_trans hb.size hg.size, fun k hk h1 => (hg.block k (Nat.lt_of_lt_of_le hk hb.size) h1).trans (hb.block k hk)⟩
/-- copy(x, y) onto a row of one's own of the same length. -/
theorem copy_event {P : Program} {ops : Array Oper} {rest : List Oper} {o : Oper} {a : Act} {Q : Exit → Act → World → Prop} {α : Type} (d : Kd α) {W : World} {base e : Nat} (hgd : o.guard = none) (x y : Operand) (t : TypeId)
    (ho : o.op = .call { callee := .builtin .copy, args := #[x, y], argTypes := #[t, t] }) (ht : P.underlying t = some (.slice e)) (hsz : (P.info? e).map (fun i => i.size) = some d.sz)
    {ok okp : Nat → Prop} {g n cap c : Nat} {A : Option Addr} (hx : a.eval x = .slice (some ⟨g, 0, none⟩) n cap) (hy : a.eval y = .slice A n c) {zs l : List α} {inner : List Value} (HR : d.R e W base ok (.slice (some ⟨g, 0, none⟩) n cap) zs) (hz : zs.length = n) (hl : l.length = n)
    (hrep : Reps (d.M W base okp) d.sz l inner) (hokp : ∀ k, okp k → ok k ∧ k ≠ g) (hsrc : 0 < n → ∃ ad, A = some ad ∧ ∀ j u, inner[j]? = some u → W.cell? (ad.add j) = some u)
    (h : ∀ w1, d.R e w1 base ok (.slice (some ⟨g, 0, none⟩) n cap) l → But (fun k => k = g) W w1 → wpList P ops Q rest (a.put o.dst (.int .i64 n)) w1) : wpList P ops Q (o :: rest) a W := by
  obtain ⟨i0, hi, hz1⟩ := Option.map_eq_some_iff.1 hsz
  obtain ⟨h0, inner0, hown, hr⟩ := HR
  obtain ⟨hil, h2⟩ := hown
  rcases h2 with ⟨h1, _⟩ | ⟨g', cap', cur, h1, hbs, hb, hnc, hcm, hcs, htk⟩
  · cases h1
  injection h1 with h1 _ h1c
  injection h1 with h1
  injection h1 with h1 _ _
  subst h1 h1c
  have hinl : inner.length = n * d.sz := by rw [hrep.1, hl]
  have hcsn : inner.length ≤ cur.size := by rw [hinl, hcs]; exact Nat.mul_le_mul_right _ (by omega)
  have one : ∀ u ∈ inner, u.oneCell' = true := by
    intro u hu
    obtain ⟨j, hj⟩ := List.getElem?_of_mem hu
    have hjl : j < n * d.sz := by rw [← hinl]; exact (List.getElem?_eq_some_iff.1 hj).1
    have hdp : 0 < d.sz := Nat.pos_of_ne_zero (fun e0 => by rw [e0] at hjl; omega)
    have hq : j / d.sz < l.length := by rw [hl]; exact Nat.div_lt_of_lt_mul (by rw [Nat.mul_comm]; exact hjl)
    have hp := hrep.2 (j / d.sz) _ (List.getElem?_eq_getElem hq)
    refine d.K_one (d.K_of_M hp) u ?_
    have h3 := Nat.div_add_mod j d.sz
    rw [Nat.mul_comm] at h3
    refine List.mem_of_getElem? (i := j % d.sz) ?_
    rw [List.getElem?_take, if_pos (Nat.mod_lt _ hdp), List.getElem?_drop, h3, hj]
  have hnew : ((inner ++ cur.toList.drop inner.length).toArray : Array Value).size = cap * d.sz := by simp; omega
  have fin : ∀ w1, w1.heap[g]? = some (.cells (inner ++ cur.toList.drop inner.length).toArray e (0, 0)) → But (fun k => k = g) W w1 → d.R e w1 base ok (.slice (some ⟨g, 0, none⟩) n cap) l := by
    intro w1 hb1 hbut
    refine ⟨h0, inner, ⟨by rw [hinl, hl], .inr ⟨g, cap, _, by rw [hl], hbs, hb1, by rw [hl, ← hz]; exact hnc, hcm, hnew, ?_⟩⟩, ?_⟩
    · rw [hl, ← hinl]; simp
    · refine hrep.imp_ (fun p q hp => d.M_mono (fun k hk => ?_) (d.M_move (w1 := w1) (fun k hk => hbut.block k hk.2.2.1 (hokp k hk.1).2) (d.M_bound hp)))
      exact ⟨(hokp k hk.1).1, fun e0 => (hokp k hk.1).2 (by simpa [Value.ownBlock] using e0)⟩
  refine wpList_plain hgd fun K hK => ?_
  by_cases hn0 : n = 0
  · have hi0 : inner = [] := List.eq_nil_of_length_eq_zero (by rw [hinl, hn0, Nat.zero_mul])
    have hrun : (Builtin.copy_ #[t, t] o.type #[.slice (some ⟨g, 0, none⟩) n cap, .slice A n c]).run P W = .ok (goInt 0) W := by
      have hld : ∀ (x : Addr), (loadCells x 0).run P W = .ok #[] W := fun x => by simpa using run_loadCells_list (P := P) W x [] (by simp)
      rw [hn0]
      cases A <;> simp [Builtin.copy_, run_underlying ht, Builtin.lenOf, Builtin.firstCells, sizeOf, typeInfo, hi, storeCells, hld]
    unfold Oper.wp
    simp [execOp, ho, resolve, invoke, builtin, hx, hy, hrun, Result.andThen]
    have h4 := h W (fin W (by rw [hi0]; simpa using hb) (But.refl _ _)) (But.refl _ _)
    rw [hn0] at h4
    exact hK _ _ h4
  · obtain ⟨ad, rfl, hcell⟩ := hsrc (by omega)
    have hrun : (Builtin.copy_ #[t, t] o.type #[.slice (some ⟨g, 0, none⟩) n cap, .slice (some ad) n c]).run P W = .ok (goInt n) (W.setRow g (inner ++ cur.toList.drop inner.length).toArray) := by
      have hld := run_loadCells_list (P := P) W ad inner hcell
      have hst := run_storeCells_at P g 0 e inner 0 cur W hb (by simpa using hcsn) one
      rw [hinl] at hld
      simp only [Nat.zero_add, Nat.add_zero, List.take_zero, List.nil_append] at hst
      simp [Builtin.copy_, run_underlying ht, Builtin.lenOf, Builtin.firstCells, sizeOf, typeInfo, hi, hz1, hld, hst]
    unfold Oper.wp
    simp [execOp, ho, resolve, invoke, builtin, hx, hy, hrun, Result.andThen]
    have hbt : But (fun k => k = g) W (W.setRow g (inner ++ cur.toList.drop inner.length).toArray) := But.row (S := fun k => k = g) (But.refl _ _) (fun _ => rfl) _
    exact hK _ _ (h _ (fin _ (setRow_heap W g cur _ e (0, 0) hb) hbt) hbt)
/-- append(x, y...) onto an empty row of one's own, in a region that draws. -/
theorem spread_step {P : Program} {ops : Array Oper} {o : Oper} {a : Act} {K : Act → World → Prop} {Q : Exit → Act → World → Prop} {E : Prop} {α : Type} (d : Kd α) {W : World} (hgd : o.guard = none) (s x : Operand) (t e : TypeId) (z : Value) (bytes : Nat)
    (ho : o.op = .call { callee := .builtin .append, args := #[s, x], argTypes := #[t, t] }) (ht : P.underlying t = some (.slice e)) (hinfo : (P.info? e).map (fun i => (i.zero, i.size, i.bytes)) = some (some z, d.sz, bytes)) (hz : z.cells.size = d.sz) (hs0 : 0 < d.sz) (hb0 : 0 < bytes)
    {ok okp : Nat → Prop} {b : Nat} {A : Option Addr} {n c : Nat} {l : List α} {inner : List Value} (hs : a.eval s = .slice (some ⟨b, 0, none⟩) 0 0) (hx : a.eval x = .slice A n c) (hb : W.heap[b]? = some (.cells #[] e (0, 0))) (hn : n = l.length) (hp : 0 < n)
    (hrep : Reps (d.M W 0 okp) d.sz l inner) (hsrc : 0 < n → ∃ ad, A = some ad ∧ ∀ j u, inner[j]? = some u → W.cell? (ad.add j) = some u) (hokp : ∀ k, okp k → ok k ∧ k ≠ b) (hfresh : ∀ k, W.heap.size ≤ k → ok k) (hokb : ok b)
    (hl : l.length * bytes ≤ 140737488355328)
    (h : ∀ A1 c1 w1, d.R e w1 0 ok (.slice A1 l.length c1) l → But (fun k => k = b) W w1 → K (a.put o.dst (.slice A1 l.length c1)) w1) :
    if Region.wanted o (yielded ops a.tmps) = true then Oper.wp P o a W K Q else E := by
  subst hn
  have hw : Region.wanted o (yielded ops a.tmps) = true := by simp [Region.wanted, hgd]
  rw [if_pos hw]
  obtain ⟨ad, rfl, hcell⟩ := hsrc hp
  obtain ⟨i0, hi, hzz⟩ := Option.map_eq_some_iff.1 hinfo
  simp only [Prod.mk.injEq] at hzz
  obtain ⟨hz0, hz1, hz2⟩ := hzz
  have hb1 : l.length ≤ 140737488355328 := Nat.le_trans (Nat.le_mul_of_pos_right _ hb0) hl
  have one : ∀ u ∈ inner, u.oneCell' = true := by
    intro u hu
    obtain ⟨j, hj⟩ := List.getElem?_of_mem hu
    have hjl : j < l.length * d.sz := by rw [← hrep.1]; exact (List.getElem?_eq_some_iff.1 hj).1
    have hq : j / d.sz < l.length := Nat.div_lt_of_lt_mul (by rw [Nat.mul_comm]; exact hjl)
    have hp := hrep.2 (j / d.sz) _ (List.getElem?_eq_getElem hq)
    refine d.K_one (d.K_of_M hp) u ?_
    have h3 := Nat.div_add_mod j d.sz
    rw [Nat.mul_comm] at h3
    refine List.mem_of_getElem? (i := j % d.sz) ?_
    rw [List.getElem?_take, if_pos (Nat.mod_lt _ hs0), List.getElem?_drop, h3, hj]
  have hown : W.ownsRow 0 e d.sz (.slice (some ⟨b, 0, none⟩) 0 0) 0 [] := ⟨by simp, .inr ⟨b, 0, #[], rfl, Nat.zero_le _, hb, Nat.le_refl _, by simp [maxLen], by simp, by simp⟩⟩
  obtain ⟨v', w', hrun, r1, r2, _, r3⟩ := run_append_own_at (P := P) W 0 t o.type e i0 z d.sz bytes ht hi hz0 hz1 hz2 hz hs0 (.slice (some ⟨b, 0, none⟩) 0 0) 0 [] hown ad l.length c inner hrep.1 hcell one (by unfold maxLen; omega) (by rw [Nat.zero_add]; exact hl) (Nat.zero_le _)
  rw [Nat.zero_add, List.nil_append] at r1
  have hbut : But (fun k => k = b) W w' := But.of_grown r2 (fun k hk _ => by simpa [Value.ownBlock] using hk.symm)
  have hform : ∃ g cap, v' = .slice (some ⟨g, 0, none⟩) l.length cap ∧ (g = b ∨ W.heap.size ≤ g) := by
    rcases r1.2 with ⟨_, h0⟩ | ⟨g, cap, cur, h0, _, hg, hnc, hcm, hcs, htk⟩
    · omega
    · refine ⟨g, cap, h0, ?_⟩
      rcases r3 with r3 | r3
      · left; simpa [h0, Value.ownBlock] using r3
      · right; have : g = W.heap.size := by simpa [h0, Value.ownBlock] using r3
        omega
  obtain ⟨g, cap, rfl, hg⟩ := hform
  unfold Oper.wp
  simp [execOp, ho, resolve, invoke, builtin, hs, hx, hrun, Result.andThen]
  refine h (some ⟨g, 0, none⟩) cap w' ⟨fun k hk => ?_, inner, r1, ?_⟩ hbut
  · have : g = k := by simpa [Value.ownBlock] using hk
    subst this
    rcases hg with rfl | hg
    · exact hokb
    · exact hfresh _ hg
  · refine hrep.imp_ (fun p q hp => d.M_mono (fun k hk => ?_) (d.M_move (w1 := w') (fun k hk => hbut.block k hk.2.2.1 (hokp k hk.1).2) (d.M_bound hp)))
    refine ⟨(hokp k hk.1).1, fun e0 => ?_⟩
    have e1 : k = g := by simpa [Value.ownBlock] using e0
    have := hk.2.2.1
    rcases hg with rfl | hg
    · exact (hokp k hk.1).2 e1
    · omega
/-- A whole struct, loaded in a region that draws. -/
theorem op_load_row {P : Program} {o : Oper} {ev : Operand → Value} {w : World} (ty : TypeId) (x : Operand) (ho : o.op = .load ty x) (g : Nat) (hx : ev x = .pointer (some ⟨g, 0, none⟩)) (t : TypeId) (cs : Array Value) (fr : Nat × Nat) (d : TypeDesc) (hg : w.heap[g]? = some (.cells cs t fr))
    (hu : P.underlying ty = some d) (hd : (match d with | .struct _ | .array _ _ => true | _ => false) = true) (hi : (P.info? ty).map (·.size) = some cs.size) : (execOp ev o).run P w = .ok (.value (.agg cs)) w := by
  unfold execOp
  simp only [ho, hx, Instr.loadAt, Instr.sureAddr, Sem.run_bind, Sem.run_pure, Result.andThen_ok, run_loadVar_row w g t ty cs fr d hg hu hd hi]
end Go.Proofs.Yteojfjlklikaoaa.Mine
