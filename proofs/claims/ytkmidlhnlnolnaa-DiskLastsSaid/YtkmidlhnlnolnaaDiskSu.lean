/-
  DiskSu: lemmas on what Go functions of this seat come to (for whatever arguments, as each says). No condition but those that stand in each lemma.
-/
import Derived.Test.YtkmidlhnlnolnaaDiskSs
namespace Go.Proofs.Ytkmidlhnlnolnaa
open Go Go.Ev
set_option maxRecDepth 100000
set_option linter.unusedVariables false
set_option linter.unusedSimpArgs false

abbrev RTq := Option (Exit × (Int × Int × Int × Bool × Bool) × World)
noncomputable def tl50 (u0 : ShS) (a b lim p : Int) (x : World) : RTq :=
(callF Try.prog 50 #[.slice u0.1 u0.2.1 u0.2.2, .int .i64 a, .int .i64 b, .int .i64 p] x).bind fun r33 =>
(asTup 2 r33.1).bind fun l34 =>
(asI .i64 (l34.getD 0 undef)).bind fun n35 =>
(asB (l34.getD 1 undef)).bind fun b36 =>
if (decide (((IntKind.i64.wrap (n35 - a)) : Int) < (IntKind.i64.wrap (b - n35)))) = true then
((callF Try.prog 35 #[.slice u0.1 u0.2.1 u0.2.2, .int .i64 a, .int .i64 n35, .int .i64 lim] r33.2).bind fun r37 =>
(asTup 0 r37.1).bind fun _ =>
some (.normal, ((IntKind.i64.wrap (n35 + 1)), b, lim, (decide (((IntKind.i64.wrap (n35 - a)) : Int) ≥ (IntKind.i64.wrap (Int.tdiv (IntKind.i64.wrap (b - a)) 8)))), b36), r37.2))
else
((callF Try.prog 35 #[.slice u0.1 u0.2.1 u0.2.2, .int .i64 (IntKind.i64.wrap (n35 + 1)), .int .i64 b, .int .i64 lim] r33.2).bind fun r38 =>
(asTup 0 r38.1).bind fun _ =>
some (.normal, (a, n35, lim, (decide (((IntKind.i64.wrap (b - n35)) : Int) ≥ (IntKind.i64.wrap (Int.tdiv (IntKind.i64.wrap (b - a)) 8)))), b36), r38.2))
noncomputable def tlE (u0 : ShS) (a b lim : Int) (bal par : Bool) (p : Int) (x : World) : RTq :=
if (decide ((a : Int) > 0)) = true then
((idxA u0.1 u0.2.1 1 (IntKind.i64.wrap (a - 1))).bind fun a17 =>
(World.cell? (World.drew x) a17).bind fun v18 =>
(asS v18).bind fun s19 =>
(idxA u0.1 u0.2.1 1 p).bind fun a20 =>
(World.cell? (World.drew x) a20).bind fun v21 =>
(asS v21).bind fun s22 =>
(callF Try.prog 48 #[.string s19, .string s22] (World.drew x)).bind fun r23 =>
(asB r23.1).bind fun b24 =>
if (!b24) = true then
((callF Try.prog 49 #[.slice u0.1 u0.2.1 u0.2.2, .int .i64 a, .int .i64 b, .int .i64 p] r23.2).bind fun r25 =>
(asI .i64 r25.1).bind fun n26 =>
some (.normal, (n26, b, lim, bal, par), r25.2))
else tl50 u0 a b lim p r23.2)
else tl50 u0 a b lim p (World.drew x)
noncomputable def tlP (u0 : ShS) (a b lim : Int) (bal par : Bool) (p : Int) (x : World) : RTq :=
((callF Try.prog 47 #[.slice u0.1 u0.2.1 u0.2.2, .int .i64 a, .int .i64 b] x).bind fun r15 =>
(asB r15.1).bind fun b16 =>
if b16 = true then
(some (.ret, (a, b, lim, bal, par), r15.2))
else tlE u0 a b lim bal par p r15.2)
noncomputable def tlR (u0 : ShS) (a b lim : Int) (bal par : Bool) (p : Int) (x : World) : RTq :=
if bal = true then (if par = true then tlP u0 a b lim bal par p x else tlE u0 a b lim bal par p x) else tlE u0 a b lim bal par p x
noncomputable def tlN (u0 : ShS) (a b lim : Int) (bal par : Bool) (p c : Int) (x : World) : RTq :=
if bal = true then (if par = true then (if ((c : Int) == 1) = true then tlP u0 a b lim bal par p x else tlE u0 a b lim bal par p x) else tlE u0 a b lim bal par p x) else tlE u0 a b lim bal par p x
noncomputable def tlV (u0 : ShS) (a b lim : Int) (bal par : Bool) (x : World) : RTq :=
(callF Try.prog 45 #[.slice u0.1 u0.2.1 u0.2.2, .int .i64 a, .int .i64 b] x).bind fun r8 =>
(asTup 2 r8.1).bind fun l9 =>
(asI .i64 (l9.getD 0 undef)).bind fun n10 =>
(asI .i64 (l9.getD 1 undef)).bind fun n11 =>
if ((n11 : Int) == 2) = true then
((callF Try.prog 46 #[.slice u0.1 u0.2.1 u0.2.2, .int .i64 a, .int .i64 b] r8.2).bind fun r13 =>
(asTup 0 r13.1).bind fun _ =>
tlR u0 a b lim bal par (IntKind.i64.wrap ((IntKind.i64.wrap (b - 1)) - (IntKind.i64.wrap (n10 - a)))) r13.2)
else tlN u0 a b lim bal par n10 n11 r8.2
noncomputable def tlW (u0 : ShS) (s2 : Int × Int × Int × Bool × Bool) (w3 : World) : RTq :=
if (decide (((IntKind.i64.wrap (s2.2.1 - s2.1)) : Int) ≤ 12)) = true then
((callF Try.prog 42 #[.slice u0.1 u0.2.1 u0.2.2, .int .i64 s2.1, .int .i64 s2.2.1] w3).bind fun r4 =>
(asTup 0 r4.1).bind fun _ =>
some (.ret, (s2.1, s2.2.1, s2.2.2.1, s2.2.2.2.1, s2.2.2.2.2), r4.2))
else
(if ((s2.2.2.1 : Int) == 0) = true then
((callF Try.prog 43 #[.slice u0.1 u0.2.1 u0.2.2, .int .i64 s2.1, .int .i64 s2.2.1] w3).bind fun r5 =>
(asTup 0 r5.1).bind fun _ =>
some (.ret, (s2.1, s2.2.1, s2.2.2.1, s2.2.2.2.1, s2.2.2.2.2), r5.2))
else
(if (!s2.2.2.2.1) = true then
((callF Try.prog 44 #[.slice u0.1 u0.2.1 u0.2.2, .int .i64 s2.1, .int .i64 s2.2.1] w3).bind fun r7 =>
(asTup 0 r7.1).bind fun _ =>
tlV u0 s2.1 s2.2.1 (IntKind.i64.wrap (s2.2.2.1 - 1)) s2.2.2.2.1 s2.2.2.2.2 r7.2)
else tlV u0 s2.1 s2.2.1 s2.2.2.1 s2.2.2.2.1 s2.2.2.2.2 w3))
theorem g35_l1_flat (u0 : ShS) (s2 : Int × Int × Int × Bool × Bool) (w3 : World) : g35_l1_b u0 s2 w3 = tlW u0 s2 w3 := by kernel_rfl
section
variable {q : ShS} {g off : Nat} {W w : World} {β : Type} {f : Value × World → Option β} {Q : β → Prop} {a b p : Int}
theorem wp_ins (h : J q g off W w) (h0 : 0 ≤ a) (ha : a ≤ (q.2.1 : Int)) (hb : b ≤ (q.2.1 : Int)) (hf : ∀ w', J q g off W w' → wp (f (.tuple #[], w')) Q) : wp ((callF Try.prog 42 #[.slice q.1 q.2.1 q.2.2, .int .i64 a, .int .i64 b] w).bind f) Q := by
  obtain ⟨w', e, h'⟩ := ins42 h h0 ha hb
  exact wp_bind e (hf _ h')
theorem wp_heap (h : J q g off W w) (h0 : 0 ≤ a) (hab : a < b) (hb : b ≤ (q.2.1 : Int)) (hf : ∀ w', J q g off W w' → wp (f (.tuple #[], w')) Q) : wp ((callF Try.prog 43 #[.slice q.1 q.2.1 q.2.2, .int .i64 a, .int .i64 b] w).bind f) Q := by
  obtain ⟨w', e, h'⟩ := heap43 h h0 hab hb
  exact wp_bind e (hf _ h')
theorem wp_brk (hn : q.2.1 < 65536) (h : J q g off W w) (h0 : 0 ≤ a) (hab : a < b) (hb : b ≤ (q.2.1 : Int)) (hf : ∀ w', J q g off W w' → wp (f (.tuple #[], w')) Q) : wp ((callF Try.prog 44 #[.slice q.1 q.2.1 q.2.2, .int .i64 a, .int .i64 b] w).bind f) Q := by
  obtain ⟨w', e, h'⟩ := break44 h h0 hab hb hn
  exact wp_bind e (hf _ h')
theorem wp_rev (h : J q g off W w) (h0 : 0 ≤ a) (hab : a ≤ b) (hb : b ≤ (q.2.1 : Int)) (hf : ∀ w', J q g off W w' → wp (f (.tuple #[], w')) Q) : wp ((callF Try.prog 46 #[.slice q.1 q.2.1 q.2.2, .int .i64 a, .int .i64 b] w).bind f) Q := by
  obtain ⟨w', e, h'⟩ := rev46 h h0 hb hab
  exact wp_bind e (hf _ h')
theorem wp_pis (h : J q g off W w) (h0 : 0 ≤ a) (hab : a < b) (hb : b ≤ (q.2.1 : Int)) (hf : ∀ r w', J q g off W w' → wp (f (.bool r, w')) Q) : wp ((callF Try.prog 47 #[.slice q.1 q.2.1 q.2.2, .int .i64 a, .int .i64 b] w).bind f) Q := by
  obtain ⟨r, w', e, h'⟩ := partial47 h h0 hab hb
  exact wp_bind e (hf _ _ h')
theorem wp_piv (h : J q g off W w) (h0 : 0 ≤ a) (hab : a < b) (hb : b ≤ (q.2.1 : Int)) (hf : ∀ (x c : Int) w', J q g off W w' → a ≤ x → x < b → wp (f (.tuple #[.int .i64 x, .int .i64 c], w')) Q) : wp ((callF Try.prog 45 #[.slice q.1 q.2.1 q.2.2, .int .i64 a, .int .i64 b] w).bind f) Q := by
  obtain ⟨x, c, w', e, h', h1, h2⟩ := pivot45 h h0 hab hb
  exact wp_bind e (hf _ _ _ h' h1 h2)
theorem wp_peq (h : J q g off W w) (h0 : 0 ≤ a) (hab : a < b) (hb : b ≤ (q.2.1 : Int)) (hp1 : a ≤ p) (hp2 : p < b) (hf : ∀ (x : Int) w', J q g off W w' → a < x → x ≤ b → wp (f (.int .i64 x, w')) Q) : wp ((callF Try.prog 49 #[.slice q.1 q.2.1 q.2.2, .int .i64 a, .int .i64 b, .int .i64 p] w).bind f) Q := by
  obtain ⟨x, w', e, h', h1, h2⟩ := partEq49 h h0 hab hb ⟨hp1, hp2⟩
  exact wp_bind e (hf _ _ h' h1 h2)
theorem wp_par (h : J q g off W w) (h0 : 0 ≤ a) (hab : a < b) (hb : b ≤ (q.2.1 : Int)) (hp1 : a ≤ p) (hp2 : p < b) (hf : ∀ (x : Int) (r : Bool) w', J q g off W w' → a ≤ x → x < b → wp (f (.tuple #[.int .i64 x, .bool r], w')) Q) : wp ((callF Try.prog 50 #[.slice q.1 q.2.1 q.2.2, .int .i64 a, .int .i64 b, .int .i64 p] w).bind f) Q := by
  obtain ⟨x, r, w', e, h', h1, h2⟩ := part50 h h0 hab hb ⟨hp1, hp2⟩
  exact wp_bind e (hf _ _ _ h' h1 h2)
end


section
variable {q : ShS} {g off : Nat} {W : World}
/-- what a round of the sort comes to -/
def RQ (q : ShS) (g off : Nat) (W : World) (a b a' b' : Int) (r : Exit × (Int × Int × Int × Bool × Bool) × World) : Prop :=
  r.1 = .normal ∧ (a ≤ r.2.1.1 ∧ r.2.1.1 ≤ r.2.1.2.1 ∧ r.2.1.2.1 ≤ b ∧ J q g off W r.2.2) ∧ (r.2.1.2.1 - r.2.1.1).toNat < (b' - a').toNat ∨ r.1 ≠ .normal ∧ r.1 = .ret ∧ J q g off W r.2.2
theorem rq_n {a b a' b' x y l : Int} {f f' : Bool} {w : World} (h1 : a ≤ x) (h2 : x ≤ y) (h3 : y ≤ b) (h4 : y - x < b' - a') (h : J q g off W w) : wp (some (Exit.normal, (x, y, l, f, f'), w)) (RQ q g off W a b a' b') :=
  wp_some (.inl ⟨rfl, ⟨h1, h2, h3, h⟩, by simp only; omega⟩)
theorem rq_r {a b a' b' : Int} {s : Int × Int × Int × Bool × Bool} {w : World} (h : J q g off W w) : wp (some (Exit.ret, s, w)) (RQ q g off W a b a' b') := wp_some (.inr ⟨by simp, rfl, h⟩)

/-- the sort of a shorter stretch -/
def Rec (q : ShS) (g off : Nat) (d : Nat) : Prop := ∀ {W w : World} (_ : J q g off W w) {a b lim : Int}, 0 ≤ a → a ≤ b → b ≤ (q.2.1 : Int) → b - a < (d : Int) →
    ∃ w', callF Try.prog 35 #[.slice q.1 q.2.1 q.2.2, .int .i64 a, .int .i64 b, .int .i64 lim] w = some (.tuple #[], w') ∧ J q g off W w'
theorem wp_rec {d : Nat} (hr : Rec q g off d) {β : Type} {f : Value × World → Option β} {Q : β → Prop} {x : World} {lo hi l : Int} (hx : J q g off W x) (h1 : 0 ≤ lo) (h2 : lo ≤ hi) (h3 : hi ≤ (q.2.1 : Int)) (h4 : hi - lo < (d : Int)) (hf : ∀ w', J q g off W w' → wp (f (.tuple #[], w')) Q) :
    wp ((callF Try.prog 35 #[.slice q.1 q.2.1 q.2.2, .int .i64 lo, .int .i64 hi, .int .i64 l] x).bind f) Q := by
  obtain ⟨w', e, h'⟩ := hr hx h1 h2 h3 h4 (lim := l)
  exact wp_bind e (hf _ h')

variable {d : Nat} {a b a' b' : Int}
theorem tl50_ok (hr : Rec q g off d) (h0 : 0 ≤ a) (h1 : a ≤ a') (h2 : a' < b') (h3 : b' ≤ b) (h4 : b ≤ (q.2.1 : Int)) (h5 : b' - a' ≤ (d : Int)) {lim p : Int} (hp1 : a' ≤ p) (hp2 : p < b') {x : World} (hx : J q g off W x) : wp (tl50 q a' b' lim p x) (RQ q g off W a b a' b') := by
  have hle := hx.le
  unfold tl50
  refine wp_par hx (by omega) h2 (by omega) hp1 hp2 fun y r w1 hw1 hy1 hy2 => wp_bind (asTup2 ..) (wp_bind (asI_int ..) (wp_bind (asB_bool ..) ?_))
  rw [wrap_i64 (n := y + 1) (by omega) (by omega)]
  refine wp_if (fun _ => ?_) (fun _ => ?_)
  · refine wp_rec hr hw1 (by omega) hy1 (by omega) (by omega) fun w2 hw2 => wp_bind asTup0 ?_
    exact rq_n (by omega) (by omega) h3 (by omega) hw2
  · refine wp_rec hr hw1 (by omega) (by omega) (by omega) (by omega) fun w2 hw2 => wp_bind asTup0 ?_
    exact rq_n h1 hy1 (by omega) (by omega) hw2
theorem tlE_ok (hr : Rec q g off d) (h0 : 0 ≤ a) (h1 : a ≤ a') (h2 : a' < b') (h3 : b' ≤ b) (h4 : b ≤ (q.2.1 : Int)) (h5 : b' - a' ≤ (d : Int)) {lim p : Int} {f f' : Bool} (hp1 : a' ≤ p) (hp2 : p < b') {x : World} (hx : J q g off W x) : wp (tlE q a' b' lim f f' p x) (RQ q g off W a b a' b') := by
  have hle := hx.le
  unfold tlE
  refine wp_if (fun c => ?_) (fun _ => tl50_ok hr h0 h1 h2 h3 h4 h5 hp1 hp2 hx.drew)
  simp only [decide_eq_true_eq] at c
  rw [wrap_i64 (n := a' - 1) (by omega) (by omega)]
  (first | (refine wp_ix (by (first | assumption | (apply J.drew; assumption) | (apply J.drew; apply J.drew; assumption) | (apply J.drew; apply J.drew; apply J.drew; assumption) | (apply J.drew; apply J.drew; apply J.drew; apply J.drew; assumption) | (apply J.drew; apply J.drew; apply J.drew; apply J.drew; apply J.drew; assumption))) (by omega) (by omega) ?_) | (refine wp_ld (by (first | assumption | (apply J.drew; assumption) | (apply J.drew; apply J.drew; assumption) | (apply J.drew; apply J.drew; apply J.drew; assumption) | (apply J.drew; apply J.drew; apply J.drew; apply J.drew; assumption) | (apply J.drew; apply J.drew; apply J.drew; apply J.drew; apply J.drew; assumption))) (by omega) (by omega) fun _ => ?_) | (refine wp_st (by (first | assumption | (apply J.drew; assumption) | (apply J.drew; apply J.drew; assumption) | (apply J.drew; apply J.drew; apply J.drew; assumption) | (apply J.drew; apply J.drew; apply J.drew; apply J.drew; assumption) | (apply J.drew; apply J.drew; apply J.drew; apply J.drew; apply J.drew; assumption))) (by omega) (by omega) fun _ _ => ?_) | (refine wp_less fun _ => wp_bind (asB_bool _) ?_)); (first | (refine wp_ix (by (first | assumption | (apply J.drew; assumption) | (apply J.drew; apply J.drew; assumption) | (apply J.drew; apply J.drew; apply J.drew; assumption) | (apply J.drew; apply J.drew; apply J.drew; apply J.drew; assumption) | (apply J.drew; apply J.drew; apply J.drew; apply J.drew; apply J.drew; assumption))) (by omega) (by omega) ?_) | (refine wp_ld (by (first | assumption | (apply J.drew; assumption) | (apply J.drew; apply J.drew; assumption) | (apply J.drew; apply J.drew; apply J.drew; assumption) | (apply J.drew; apply J.drew; apply J.drew; apply J.drew; assumption) | (apply J.drew; apply J.drew; apply J.drew; apply J.drew; apply J.drew; assumption))) (by omega) (by omega) fun _ => ?_) | (refine wp_st (by (first | assumption | (apply J.drew; assumption) | (apply J.drew; apply J.drew; assumption) | (apply J.drew; apply J.drew; apply J.drew; assumption) | (apply J.drew; apply J.drew; apply J.drew; apply J.drew; assumption) | (apply J.drew; apply J.drew; apply J.drew; apply J.drew; apply J.drew; assumption))) (by omega) (by omega) fun _ _ => ?_) | (refine wp_less fun _ => wp_bind (asB_bool _) ?_)); (first | (refine wp_ix (by (first | assumption | (apply J.drew; assumption) | (apply J.drew; apply J.drew; assumption) | (apply J.drew; apply J.drew; apply J.drew; assumption) | (apply J.drew; apply J.drew; apply J.drew; apply J.drew; assumption) | (apply J.drew; apply J.drew; apply J.drew; apply J.drew; apply J.drew; assumption))) (by omega) (by omega) ?_) | (refine wp_ld (by (first | assumption | (apply J.drew; assumption) | (apply J.drew; apply J.drew; assumption) | (apply J.drew; apply J.drew; apply J.drew; assumption) | (apply J.drew; apply J.drew; apply J.drew; apply J.drew; assumption) | (apply J.drew; apply J.drew; apply J.drew; apply J.drew; apply J.drew; assumption))) (by omega) (by omega) fun _ => ?_) | (refine wp_st (by (first | assumption | (apply J.drew; assumption) | (apply J.drew; apply J.drew; assumption) | (apply J.drew; apply J.drew; apply J.drew; assumption) | (apply J.drew; apply J.drew; apply J.drew; apply J.drew; assumption) | (apply J.drew; apply J.drew; apply J.drew; apply J.drew; apply J.drew; assumption))) (by omega) (by omega) fun _ _ => ?_) | (refine wp_less fun _ => wp_bind (asB_bool _) ?_)); (first | (refine wp_ix (by (first | assumption | (apply J.drew; assumption) | (apply J.drew; apply J.drew; assumption) | (apply J.drew; apply J.drew; apply J.drew; assumption) | (apply J.drew; apply J.drew; apply J.drew; apply J.drew; assumption) | (apply J.drew; apply J.drew; apply J.drew; apply J.drew; apply J.drew; assumption))) (by omega) (by omega) ?_) | (refine wp_ld (by (first | assumption | (apply J.drew; assumption) | (apply J.drew; apply J.drew; assumption) | (apply J.drew; apply J.drew; apply J.drew; assumption) | (apply J.drew; apply J.drew; apply J.drew; apply J.drew; assumption) | (apply J.drew; apply J.drew; apply J.drew; apply J.drew; apply J.drew; assumption))) (by omega) (by omega) fun _ => ?_) | (refine wp_st (by (first | assumption | (apply J.drew; assumption) | (apply J.drew; apply J.drew; assumption) | (apply J.drew; apply J.drew; apply J.drew; assumption) | (apply J.drew; apply J.drew; apply J.drew; apply J.drew; assumption) | (apply J.drew; apply J.drew; apply J.drew; apply J.drew; apply J.drew; assumption))) (by omega) (by omega) fun _ _ => ?_) | (refine wp_less fun _ => wp_bind (asB_bool _) ?_)); (first | (refine wp_ix (by (first | assumption | (apply J.drew; assumption) | (apply J.drew; apply J.drew; assumption) | (apply J.drew; apply J.drew; apply J.drew; assumption) | (apply J.drew; apply J.drew; apply J.drew; apply J.drew; assumption) | (apply J.drew; apply J.drew; apply J.drew; apply J.drew; apply J.drew; assumption))) (by omega) (by omega) ?_) | (refine wp_ld (by (first | assumption | (apply J.drew; assumption) | (apply J.drew; apply J.drew; assumption) | (apply J.drew; apply J.drew; apply J.drew; assumption) | (apply J.drew; apply J.drew; apply J.drew; apply J.drew; assumption) | (apply J.drew; apply J.drew; apply J.drew; apply J.drew; apply J.drew; assumption))) (by omega) (by omega) fun _ => ?_) | (refine wp_st (by (first | assumption | (apply J.drew; assumption) | (apply J.drew; apply J.drew; assumption) | (apply J.drew; apply J.drew; apply J.drew; assumption) | (apply J.drew; apply J.drew; apply J.drew; apply J.drew; assumption) | (apply J.drew; apply J.drew; apply J.drew; apply J.drew; apply J.drew; assumption))) (by omega) (by omega) fun _ _ => ?_) | (refine wp_less fun _ => wp_bind (asB_bool _) ?_))
  refine wp_if (fun _ => ?_) (fun _ => tl50_ok hr h0 h1 h2 h3 h4 h5 hp1 hp2 (by (first | assumption | (apply J.drew; assumption) | (apply J.drew; apply J.drew; assumption) | (apply J.drew; apply J.drew; apply J.drew; assumption) | (apply J.drew; apply J.drew; apply J.drew; apply J.drew; assumption) | (apply J.drew; apply J.drew; apply J.drew; apply J.drew; apply J.drew; assumption))))
  refine wp_peq (W := W) (g := g) (off := off) (by (first | assumption | (apply J.drew; assumption) | (apply J.drew; apply J.drew; assumption) | (apply J.drew; apply J.drew; apply J.drew; assumption) | (apply J.drew; apply J.drew; apply J.drew; apply J.drew; assumption) | (apply J.drew; apply J.drew; apply J.drew; apply J.drew; apply J.drew; assumption))) (by omega) h2 (by omega) hp1 hp2 fun y w1 hw1 hy1 hy2 => wp_bind (asI_int ..) ?_
  exact rq_n (by omega) (by omega) h3 (by omega) hw1
theorem tlP_ok (hr : Rec q g off d) (h0 : 0 ≤ a) (h1 : a ≤ a') (h2 : a' < b') (h3 : b' ≤ b) (h4 : b ≤ (q.2.1 : Int)) (h5 : b' - a' ≤ (d : Int)) {lim p : Int} {f f' : Bool} (hp1 : a' ≤ p) (hp2 : p < b') {x : World} (hx : J q g off W x) : wp (tlP q a' b' lim f f' p x) (RQ q g off W a b a' b') := by
  unfold tlP
  refine wp_pis hx (by omega) h2 (by omega) fun r w1 hw1 => wp_bind (asB_bool r) ?_
  exact wp_if (fun _ => rq_r hw1) (fun _ => tlE_ok hr h0 h1 h2 h3 h4 h5 hp1 hp2 hw1)
theorem tlR_ok (hr : Rec q g off d) (h0 : 0 ≤ a) (h1 : a ≤ a') (h2 : a' < b') (h3 : b' ≤ b) (h4 : b ≤ (q.2.1 : Int)) (h5 : b' - a' ≤ (d : Int)) {lim p : Int} {f f' : Bool} (hp1 : a' ≤ p) (hp2 : p < b') {x : World} (hx : J q g off W x) : wp (tlR q a' b' lim f f' p x) (RQ q g off W a b a' b') := by
  have E := tlE_ok hr h0 h1 h2 h3 h4 h5 (lim := lim) (f := f) (f' := f') hp1 hp2 hx
  unfold tlR
  exact wp_if (fun _ => wp_if (fun _ => tlP_ok hr h0 h1 h2 h3 h4 h5 hp1 hp2 hx) (fun _ => E)) (fun _ => E)
theorem tlN_ok (hr : Rec q g off d) (h0 : 0 ≤ a) (h1 : a ≤ a') (h2 : a' < b') (h3 : b' ≤ b) (h4 : b ≤ (q.2.1 : Int)) (h5 : b' - a' ≤ (d : Int)) {lim p c : Int} {f f' : Bool} (hp1 : a' ≤ p) (hp2 : p < b') {x : World} (hx : J q g off W x) : wp (tlN q a' b' lim f f' p c x) (RQ q g off W a b a' b') := by
  have E := tlE_ok hr h0 h1 h2 h3 h4 h5 (lim := lim) (f := f) (f' := f') hp1 hp2 hx
  unfold tlN
  exact wp_if (fun _ => wp_if (fun _ => wp_if (fun _ => tlP_ok hr h0 h1 h2 h3 h4 h5 hp1 hp2 hx) (fun _ => E)) (fun _ => E)) (fun _ => E)
theorem tlV_ok (hr : Rec q g off d) (h0 : 0 ≤ a) (h1 : a ≤ a') (h2 : a' < b') (h3 : b' ≤ b) (h4 : b ≤ (q.2.1 : Int)) (h5 : b' - a' ≤ (d : Int)) {lim : Int} {f f' : Bool} {x : World} (hx : J q g off W x) : wp (tlV q a' b' lim f f' x) (RQ q g off W a b a' b') := by
  have hle := hx.le
  unfold tlV
  refine wp_piv hx (by omega) h2 (by omega) fun y c w1 hw1 hy1 hy2 => wp_bind (asTup2 ..) (wp_bind (asI_int ..) (wp_bind (asI_int ..) ?_))
  refine wp_if (fun _ => ?_) (fun _ => tlN_ok hr h0 h1 h2 h3 h4 h5 hy1 hy2 hw1)
  refine wp_rev hw1 (by omega) (by omega) (by omega) fun w2 hw2 => wp_bind asTup0 ?_
  rw [wrap_i64 (n := b' - 1) (by omega) (by omega), wrap_i64 (n := y - a') (by omega) (by omega), wrap_i64 (by omega) (by omega)]
  exact tlR_ok hr h0 h1 h2 h3 h4 h5 (by omega) (by omega) hw2

theorem pdq35 (hn : q.2.1 < 65536) (d : Nat) : Rec q g off d := by
  induction d with
  | zero => intro W w h a b lim h0 hab hb hd; omega
  | succ d hr =>
    intro W w h a b lim h0 hab hb hd
    have hle := h.le
    obtain ⟨e, t, w', g1, rfl, hJ⟩ := loop_wp (b := g35_l1_b q) (I := fun s x => a ≤ s.1 ∧ s.1 ≤ s.2.1 ∧ s.2.1 ≤ b ∧ J q g off W x) (Q := fun e s x => e = .ret ∧ J q g off W x) (fun s => (s.2.1 - s.1).toNat)
      (fun s x ⟨hs1, hs2, hs3, hx⟩ => by
        obtain ⟨a', b', l', bal, par⟩ := s
        simp only at hs1 hs2 hs3
        rw [g35_l1_flat]
        suffices H : wp (tlW q (a', b', l', bal, par) x) (RQ q g off W a b a' b') from H
        unfold tlW
        have wba : IntKind.i64.wrap (b' - a') = b' - a' := wrap_i64 (by omega) (by omega)
        refine wp_if (fun c => ?_) (fun c => ?_)
        · exact wp_ins hx (by simp only; omega) (by simp only; omega) (by simp only; omega) fun w1 hw1 => wp_bind asTup0 (rq_r hw1)
        simp only [wba, decide_eq_true_eq] at c
        refine wp_if (fun c2 => ?_) (fun c2 => ?_)
        · exact wp_heap hx (by simp only; omega) (by simp only; omega) (by simp only; omega) fun w1 hw1 => wp_bind asTup0 (rq_r hw1)
        refine wp_if (fun c3 => ?_) (fun c3 => ?_)
        · exact wp_brk hn hx (by simp only; omega) (by simp only; omega) (by simp only; omega) fun w1 hw1 => wp_bind asTup0 (tlV_ok hr h0 hs1 (by omega) hs3 hb (by omega) hw1)
        · exact tlV_ok hr h0 hs1 (by omega) hs3 hb (by omega) hx)
      (s := (a, b, lim, true, true)) (w := w) ⟨by simp only; omega, hab, by simp only; omega, h⟩
    refine ⟨w', g35_call ?_, hJ⟩
    unfold g35
    rw [g35_l1_ret_of g1, g35_l1_ret]

/-- the sort of strings: the row is one of as many strings afterwards -/
theorem sort27 {w : World} {xs : List Value} (o : Own w 9 1 q xs) (hs : ∀ v ∈ xs, ∃ s, v = .string s) (hn : q.2.1 < 65536) :
    ∃ ys w', callF Try.prog 27 #[.slice q.1 q.2.1 q.2.2] w = some (.tuple #[], w') ∧ Own w' 9 1 q ys ∧ (∀ v ∈ ys, ∃ s, v = .string s) ∧ Fr (blkOf q) w w' := by
  obtain ⟨n, e1⟩ := len64 w (u := (q.2.1 : Int)) (by omega) (by omega)
  have wu : IntKind.u64.wrap (q.2.1 : Int) = (q.2.1 : Int) := wrap_u64 (by omega) (by omega)
  have hat : ∃ g off, 0 < q.2.1 → q.1 = some ⟨g, off, none⟩ := by
    by_cases h0 : 0 < q.2.1
    · obtain ⟨g, off, h, _⟩ := o.idx h0
      exact ⟨g, off, fun _ => h⟩
    · exact ⟨0, 0, fun h => absurd h h0⟩
  obtain ⟨g, off, hat⟩ := hat
  have h : J q g off w w := ⟨hat, ⟨xs, o, hs⟩, Fr.refl _ _, by omega⟩
  obtain ⟨w', e2, h2⟩ := pdq35 hn (q.2.1 + 1) h (a := 0) (b := (q.2.1 : Int)) (lim := n) (by omega) (by omega) (by omega) (by omega)
  obtain ⟨ys, o2, hs2⟩ := h2.ss
  refine ⟨ys, w', g27_call ?_, o2, hs2, h2.fr⟩
  unfold g27
  simp only [wu, e1, e2, obs, asP_pointer, asB_bool, asI_int, asS_string, asSl_slice, asM_map, asTup0, asTup1, asTup2, asTup3, asTup4, asTup5, asTup6, asTup7, asTup8, asTup9, asAgg2, asAgg3, asAgg4, asAgg5, asAgg6, asAgg7, asAgg8, asAgg9, asAgg12, getD0, getD1, getD2, getD3, getD4, getD5, getD6, getD7, getD8, getD9, getD10, getD11, getD12, getD13, getD14, getD15, getD16, getD17, getD18, getD19, Bool.not_true, Bool.not_false, Bool.false_eq_true, Bool.true_eq_false, ↓reduceIte, decide_true, decide_false, Option.isNone_some, Option.isNone_none, Option.isSome_some, Option.isSome_none, beq_self_eq_true, bne_self_eq_false, Bool.and_true, Bool.true_and, Bool.and_false, Bool.false_and, not_true_eq_false, not_false_eq_true]
end
end Go.Proofs.Ytkmidlhnlnolnaa
