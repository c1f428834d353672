/- DERIVED. A part of the proof of a statement of this seat (Ge, Gf, Gg, Gh, Gi, Gj, Gk, Gl, Pa, Pb, Pc, Pd, Pe, Pf, Pg, Ph, Pi, Ua, La, Lb, Pj, Pk, Lc). No statement of its own; no conditions. -/
import Derived.KernelRfl
import Derived.Test.YtalcipbagidbpaaWd
set_option linter.unusedVariables false
set_option linter.unusedSimpArgs false
set_option linter.unusedSectionVars false
set_option linter.unnecessarySimpa false
section
set_option linter.unusedVariables false
namespace Go.Proofs.Ytalcipbagidbpaa
open Go.Proofs
theorem rgz_ok : FnOK Try.prog 83 Try.f83 (bodyOf Try.f83) := ⟨Try.func83, rfl, rfl⟩
theorem rgz_vc (t : Tr) (s : List Rg) (bf : Nat → Nat × Nat) : vc Try.prog TA none [] [(11, .dead)] (bodyOf Try.f83) ⟨startT Try.f83 [t.v, .ol 0 s.length 6], [.ob (RL s) 23]⟩ (FinO TA Try.f83 [] bf (.ol 1 s.length 6) [.emp, .ob (RL s) 23]) = (((t.h == 0) = true → (s.length = s.length ∧ 6 = 6) ∧ RL s = RL s ∧ PurL (RL s) ∧ True) ∧ ((t.h == 0) = false → Stuck (11 : Nat))) := by kernel_rfl
theorem rgz_side (t : Tr) (s : List Rg) (p0 base : Nat) (bf : Nat → Nat × Nat) : sideP [p0] base [] bf [t.v, .ol 0 s.length 6] [t.v, .ol p0 s.length 6] [.ob (RL s) 23] [.ob (RL s) 23] (.ol 1 s.length 6) (.ol base s.length 6) [.emp, .ob (RL s) 23] ([.emp] ++ [.ob (RL s) 23]) = (t.h = t.h ∧ t.f = t.f ∧ t.l = t.l ∧ t.g = t.g ∧ t.r.start = t.r.start ∧ t.r.pages = t.r.pages ∧ t.r.prot = t.r.prot ∧ t.r.flags = t.r.flags ∧ t.r.file = t.r.file ∧ t.r.index = t.r.index ∧ t.kids.length = t.kids.length ∧ t.K = t.K ∧ PurL t.K ∧ true = true ∧ p0 = p0 ∧ s.length = s.length ∧ 6 = 6 ∧ 23 = 23 ∧ RL s = RL s ∧ PurL (RL s) ∧ true = true ∧ base = base ∧ s.length = s.length ∧ 6 = 6 ∧ 23 = 23 ∧ RL s = RL s ∧ PurL (RL s) ∧ true = true ∧ true = true) := by kernel_rfl
theorem rgz_cs (t : Tr) (s : List Rg) (h0 : (t.h == 0) = true) (p0 base : Nat)  (hb0 : p0 < base) : CallSem Try.prog 83 [t.v, .ol p0 s.length 6] [(p0, .ob (RL s) 23)] base (.ol base s.length 6) [(p0, .emp)] [.ob (RL s) 23] := by
  have hnd : nodupB [p0] = true := by simp [nodupB]
  have hlt : ∀ p ∈ [p0], p < base := by intro p hp; simp at hp; omega
  refine CallSem.of_vcS (fps := [.ob (RL s) 23]) (upds := [.emp]) mixedA tabA rgz_ok [p0] rfl rfl hnd hlt [] (fun bf => [t.v, .ol 0 s.length 6]) (fun bf => [.ob (RL s) 23]) (.ol 1 s.length 6) [.emp, .ob (RL s) 23] (rgz_side t s p0 base) (fun bf => ?_) (rgz_vc t s) (fun bf => ?_)
  · repeat' (first | exact Tr.purK _ | exact RL_pur _ | with_reducible rfl | refine And.intro ?_ ?_)
    all_goals first | rfl | assumption | exact Nat.le_of_ble_eq_true (Eq.refl true) | (refine PurAll.mem ?_; repeat' (first | skip)) | (simp [RL_length, RL_takeL, RL_append, RL]; done)
  · try rw [h0]
    repeat' (first | exact RL_pur _ | refine And.intro ?_ ?_ | (intro h_; first | (cases h_; done) | rw [h_] | (simp only [Bool.not_eq_true', Bool.not_eq_false'] at h_; rw [h_]) | skip))
    all_goals (first | exact trivial | with_reducible rfl)
open Go.IntKind GV Ent in
theorem rgn_vc (h f l g : Int) (x : Rg) (a b : Tr) (s s1 s3 : List Rg) (bf : Nat → Nat × Nat) : vc Try.prog TA none [] [(14, cl [0] (.ol 2 s1.length 6) [.emp] [.ob (RL s1) 23]), (500005, .view fun s => ⟨tmL 26 [(2, .ptr 0 0), (1, .ol 1 (app s1 x).length 6)], [.blk (Tr.mk h f l g x [a, b]).cells 26, .ob (RL (app s1 x)) 23]⟩), (25, cl [1] (.ol 2 s3.length 6) [.emp] [.ob (RL s3) 23])] (bodyOf Try.f83) ⟨startT Try.f83 [(Tr.mk h f l g x [a, b]).v, .ol 0 s.length 6], [.ob (RL s) 23]⟩ (FinO TA Try.f83 [] bf (.ol 1 s3.length 6) [.emp, .ob (RL s3) 23]) = (((h == (0 : Int)) = true → (s.length = s3.length ∧ 6 = 6) ∧ RL s = RL s3 ∧ PurL (RL s3) ∧ True) ∧ ((h == (0 : Int)) = false → ((0 : Int) ≤ (0 : Int) ∧ (0 : Int) < (↑(2 : Nat) : Int)) ∧ 22 = 22 ∧ CallSem Try.prog 83 [a.v, ol 0 s.length (6 : Nat)] [((0 : Nat), ob (RL s) (23 : Nat))] 2 (ol 2 s1.length (6 : Nat)) [((0 : Nat), emp)] [ob (RL s1) (23 : Nat)] ∧ 6 ≤ 6 ∧ 23 = 23 ∧ (RL s1).length = s1.length * 6 ∧ s1.length + 1 ≤ 1073741824 ∧ true = true ∧ true = true ∧ ((0 : Nat) < (6 : Nat) ∧ 48 ≤ 65536) ∧ (s1.length + 1 = (app s1 x).length ∧ 6 = 6) ∧ 0 = 0 ∧ h = h ∧ f = f ∧ l = l ∧ g = g ∧ x.start = x.start ∧ x.pages = x.pages ∧ x.prot = x.prot ∧ x.flags = x.flags ∧ x.file = x.file ∧ x.index = x.index ∧ 2 = 2 ∧ [int i64 a.h, int i64 a.f, int i64 a.l, int i64 a.g, int i64 a.r.start, int i64 a.r.pages, int i64 a.r.prot, int i64 a.r.flags, int i64 a.r.file, int i64 a.r.index, im a.kids.length a.K, int i64 b.h, int i64 b.f, int i64 b.l, int i64 b.g, int i64 b.r.start, int i64 b.r.pages, int i64 b.r.prot, int i64 b.r.flags, int i64 b.r.file, int i64 b.r.index, im b.kids.length b.K] = [int i64 a.h, int i64 a.f, int i64 a.l, int i64 a.g, int i64 a.r.start, int i64 a.r.pages, int i64 a.r.prot, int i64 a.r.flags, int i64 a.r.file, int i64 a.r.index, im a.kids.length a.K, int i64 b.h, int i64 b.f, int i64 b.l, int i64 b.g, int i64 b.r.start, int i64 b.r.pages, int i64 b.r.prot, int i64 b.r.flags, int i64 b.r.file, int i64 b.r.index, im b.kids.length b.K] ∧ PurL [int i64 a.h, int i64 a.f, int i64 a.l, int i64 a.g, int i64 a.r.start, int i64 a.r.pages, int i64 a.r.prot, int i64 a.r.flags, int i64 a.r.file, int i64 a.r.index, im a.kids.length a.K, int i64 b.h, int i64 b.f, int i64 b.l, int i64 b.g, int i64 b.r.start, int i64 b.r.pages, int i64 b.r.prot, int i64 b.r.flags, int i64 b.r.file, int i64 b.r.index, im b.kids.length b.K] ∧ List.take (s1.length * 6) (RL s1) ++ [int i64 x.start, int i64 x.pages, int i64 x.prot, int i64 x.flags, int i64 x.file, int i64 x.index] = RL (app s1 x) ∧ PurL (RL (app s1 x)) ∧ ((0 : Int) ≤ (1 : Int) ∧ (1 : Int) < (↑(2 : Nat) : Int)) ∧ 22 = 22 ∧ CallSem Try.prog 83 [b.v, ol 1 (app s1 x).length (6 : Nat)] [((1 : Nat), ob (RL (app s1 x)) (23 : Nat))] 2 (ol 2 s3.length (6 : Nat)) [((1 : Nat), emp)] [ob (RL s3) (23 : Nat)] ∧ (s3.length = s3.length ∧ 6 = 6) ∧ RL s3 = RL s3 ∧ PurL (RL s3) ∧ True)) := by kernel_rfl
open Go.IntKind GV Ent in
theorem rgn_side (h f l g : Int) (x : Rg) (a b : Tr) (s s1 s3 : List Rg) (p0 base : Nat) (bf : Nat → Nat × Nat) : sideP [p0] base [] bf [(Tr.mk h f l g x [a, b]).v, .ol 0 s.length 6] [(Tr.mk h f l g x [a, b]).v, .ol p0 s.length 6] [.ob (RL s) 23] [.ob (RL s) 23] (.ol 1 s3.length 6) (.ol base s3.length 6) [.emp, .ob (RL s3) 23] ([.emp] ++ [.ob (RL s3) 23]) = (h = h ∧ f = f ∧ l = l ∧ g = g ∧ x.start = x.start ∧ x.pages = x.pages ∧ x.prot = x.prot ∧ x.flags = x.flags ∧ x.file = x.file ∧ x.index = x.index ∧ 2 = 2 ∧ [int i64 a.h, int i64 a.f, int i64 a.l, int i64 a.g, int i64 a.r.start, int i64 a.r.pages, int i64 a.r.prot, int i64 a.r.flags, int i64 a.r.file, int i64 a.r.index, im a.kids.length a.K, int i64 b.h, int i64 b.f, int i64 b.l, int i64 b.g, int i64 b.r.start, int i64 b.r.pages, int i64 b.r.prot, int i64 b.r.flags, int i64 b.r.file, int i64 b.r.index, im b.kids.length b.K] = [int i64 a.h, int i64 a.f, int i64 a.l, int i64 a.g, int i64 a.r.start, int i64 a.r.pages, int i64 a.r.prot, int i64 a.r.flags, int i64 a.r.file, int i64 a.r.index, im a.kids.length a.K, int i64 b.h, int i64 b.f, int i64 b.l, int i64 b.g, int i64 b.r.start, int i64 b.r.pages, int i64 b.r.prot, int i64 b.r.flags, int i64 b.r.file, int i64 b.r.index, im b.kids.length b.K] ∧ PurL [int i64 a.h, int i64 a.f, int i64 a.l, int i64 a.g, int i64 a.r.start, int i64 a.r.pages, int i64 a.r.prot, int i64 a.r.flags, int i64 a.r.file, int i64 a.r.index, im a.kids.length a.K, int i64 b.h, int i64 b.f, int i64 b.l, int i64 b.g, int i64 b.r.start, int i64 b.r.pages, int i64 b.r.prot, int i64 b.r.flags, int i64 b.r.file, int i64 b.r.index, im b.kids.length b.K] ∧ true = true ∧ p0 = p0 ∧ s.length = s.length ∧ 6 = 6 ∧ 23 = 23 ∧ RL s = RL s ∧ PurL (RL s) ∧ true = true ∧ base = base ∧ s3.length = s3.length ∧ 6 = 6 ∧ 23 = 23 ∧ RL s3 = RL s3 ∧ PurL (RL s3) ∧ true = true ∧ true = true) := by kernel_rfl
theorem rgn_cs (h f l g : Int) (x : Rg) (a b : Tr) (s s1 s3 : List Rg) (h0 : (h == 0) = false) (hl : s1.length + 1 ≤ 1073741824) (ha : ∀ p0 base, p0 < base → CallSem Try.prog 83 [a.v, .ol p0 s.length 6] [(p0, .ob (RL s) 23)] base (.ol base s1.length 6) [(p0, .emp)] [.ob (RL s1) 23])
    (hb : ∀ p0 base, p0 < base → CallSem Try.prog 83 [b.v, .ol p0 (app s1 x).length 6] [(p0, .ob (RL (app s1 x)) 23)] base (.ol base s3.length 6) [(p0, .emp)] [.ob (RL s3) 23]) (p0 base : Nat)  (hb0 : p0 < base) : CallSem Try.prog 83 [(Tr.mk h f l g x [a, b]).v, .ol p0 s.length 6] [(p0, .ob (RL s) 23)] base (.ol base s3.length 6) [(p0, .emp)] [.ob (RL s3) 23] := by
  have hnd : nodupB [p0] = true := by simp [nodupB]
  have hlt : ∀ p ∈ [p0], p < base := by intro p hp; simp at hp; omega
  refine CallSem.of_vcS (fps := [.ob (RL s) 23]) (upds := [.emp]) mixedA tabA rgz_ok [p0] rfl rfl hnd hlt [] (fun bf => [(Tr.mk h f l g x [a, b]).v, .ol 0 s.length 6]) (fun bf => [.ob (RL s) 23]) (.ol 1 s3.length 6) [.emp, .ob (RL s3) 23] (rgn_side h f l g x a b s s1 s3 p0 base) (fun bf => ?_) (rgn_vc h f l g x a b s s1 s3) (fun bf => ?_)
  · repeat' (first | exact RL_pur _ | with_reducible rfl | refine And.intro ?_ ?_)
    all_goals first | rfl | assumption | exact Nat.le_of_ble_eq_true (Eq.refl true) | (refine PurAll.mem ?_; repeat' (first | exact trivial | exact Pur.int | exact Pur.im (Tr.purK _) | refine And.intro ?_ ?_)) | (simp [RL_length, RL_takeL, RL_append, RL]; done)
  · try rw [h0]
    try simp only [app]
    repeat' (first | exact ha _ _ (by decide) | exact hb _ _ (by decide) | exact (Tr.purK (.mk h f l g x [a, b])) | exact RL_pur _ | refine And.intro ?_ ?_ | (intro h_; first | (cases h_; done) | rw [h_] | (simp only [Bool.not_eq_true', Bool.not_eq_false'] at h_; rw [h_]) | skip))
    all_goals (first | exact trivial | exact Nat.le_refl _ | exact Nat.le_of_ble_eq_true (Eq.refl true) | assumption | (simp [RL_length, RL_takeL, RL_append, RL, app, bsm]; done))
theorem rnumF_zero {t : Tr} (h0 : (t.h == 0) = true) : rnumF t = true := by
  cases t with
  | mk h f l g x k =>
    have h0 : (h == 0) = true := h0
    unfold rnumF
    split
    · simp_all
    · rfl
theorem rnumA_ps (t : Tr) : formedF t = true → PS Try.prog 86 [t.v] (.bool (rnumF t)) := by
  induction t using Tr.ind with
  | h t ih =>
    intro hf
    cases h0 : t.h == 0 with
    | true => rw [rnumF_zero h0]; exact rnum_ps t h0
    | false =>
      obtain ⟨a, b, hk, ha, hb⟩ := formedF_inv hf (by simpa using h0)
      cases t with
      | mk h f l g x k =>
        cases (hk : k = [a, b])
        exact rnum2_ps h f l g x a b (ih a (by simp [Tr.kids]) ha) (ih b (by simp [Tr.kids]) hb)
theorem nodesF_zero {t : Tr} (h0 : (t.h == 0) = true) : nodesF t = [] := nodesF_else t fun h => by rw [h0] at h; cases h
theorem rg_cs (t : Tr) : formedF t = true → ∀ (s : List Rg) (hs : s.length + (nodesF t).length ≤ 1073741824) (p0 base : Nat), p0 < base → CallSem Try.prog 83 [t.v, .ol p0 s.length 6] [(p0, .ob (RL s) 23)] base (.ol base (s ++ (nodesF t).map Tr.r).length 6)
    [(p0, .emp)] [.ob (RL (s ++ (nodesF t).map Tr.r)) 23] := by
  induction t using Tr.ind with
  | h t ih =>
    intro hf s hs p0 base hb
    cases h0 : t.h == 0 with
    | true =>
      rw [nodesF_zero h0, List.map_nil, List.append_nil]
      exact rgz_cs t s h0 p0 base hb
    | false =>
      obtain ⟨a, b, hk, ha, hb'⟩ := formedF_inv hf (by simpa using h0)
      cases t with
      | mk h f l g x k =>
        cases (hk : k = [a, b])
        have h0' : (h == 0) = false := h0
        rw [nodesF_two, h0', cond_false] at hs ⊢
        rw [List.length_append, List.length_cons] at hs
        have e : s ++ (nodesF a ++ (Tr.mk h f l g x [a, b] :: nodesF b)).map Tr.r = app (s ++ (nodesF a).map Tr.r) x ++ (nodesF b).map Tr.r := by simp [app, Tr.r]
        rw [e]
        exact rgn_cs h f l g x a b s _ _ h0' (by simp; omega) (ih a (by simp [Tr.kids]) ha s (by omega)) (ih b (by simp [Tr.kids]) hb' _ (by simp [app]; omega)) p0 base hb
/-- Is it in order? -/
def rl1 : List Rg → Bool
  | [] => true
  | r :: rs => bif validF r then rl1 rs else false
def rl2 : List Rg → Bool
  | a :: b :: rs => bif decide (b.start < a.end) then false else rl2 (b :: rs)
  | _ => true
theorem rl2_step {l : List Rg} {j : Nat} (h : j + 1 < l.length) : rl2 (l.drop j) = bif decide ((atR l (j + 1)).start < (atR l j).end) then false else rl2 (l.drop (j + 1)) := by
  rw [drop_atR (by omega : j < l.length), drop_atR h, rl2]
theorem rl2_end {l : List Rg} {j : Nat} (h : l.length ≤ j + 1) : rl2 (l.drop j) = true := by
  rcases Nat.lt_or_ge j l.length with h1 | h1
  · rw [drop_atR h1, List.drop_eq_nil_of_le h]; rfl
  · rw [List.drop_eq_nil_of_le h1]; rfl
def listedF (l : List Rg) : Int := bif rl1 l then (bif rl2 l then 0 else 10) else 2
def rk1_S (l : List Rg) (i : Nat) : St := ⟨tmL 35 [(0, Lv l), (3, .int .i64 i)], []⟩
def rk1_O (l : List Rg) (i : Nat) : List (Prop × Exit × St) := [(rl1 (l.drop i) = false, .ret, ⟨tmL 35 [(2, .int .i64 2)], []⟩), (rl1 (l.drop i) = true, .exit 0, ⟨tmL 35 [(0, Lv l)], []⟩)]
open Go.IntKind GV Ent in
theorem rk1_rd (l : List Rg) (i : Nat) (X : Prop) : vc Try.prog TA none [] [(14, tl (atR l i).v), (15, tl (.bool (validF (atR l i))))] (loopOf 2 Try.f85) (rk1_S l i) (LoopK (rk1_S l (i + 1)) X (rk1_O l i)) = ((decide ((↑i : Int) < (↑l.length : Int)) = true → ((0 : Int) ≤ (↑i : Int) ∧ (↑i : Int) < (↑l.length : Int)) ∧ (RL l).length = l.length * 6 ∧ 6 = 6 ∧ List.take 6 (List.drop 0 (List.drop ((↑i : Int).toNat * 6) (RL l))) = [int i64 (atR l i).start, int i64 (atR l i).pages, int i64 (atR l i).prot, int i64 (atR l i).flags, int i64 (atR l i).file, int i64 (atR l i).index] ∧ CallSem Try.prog 121 [(atR l i).v] [] 0 (bool (validF (atR l i))) [] [] ∧ ((!validF (atR l i)) = true → (2 : Int) = (2 : Int) ∧ rl1 (List.drop i l) = false) ∧ ((!validF (atR l i)) = false → l.length = l.length ∧ RL l = RL l ∧ PurL (RL l) ∧ i64.wrap ((↑i : Int) + (1 : Int)) = (↑(i + (1 : Nat)) : Int) ∧ X)) ∧ (decide ((↑i : Int) < (↑l.length : Int)) = false → l.length = l.length ∧ RL l = RL l ∧ PurL (RL l) ∧ rl1 (List.drop i l) = true)) := by kernel_rfl
theorem rk1_loop (l : List Rg) (hl : l.length ≤ 1073741824) (i : Nat) (hpsi : i ≤ l.length) : GW Try.prog none [] (.loop (loopOf 2 Try.f85)) (rk1_S l i) (OneOf (rk1_O l i)) := by
  refine GW.loopF mixedA tabA (β := Nat) (fun b => (fun i => rk1_S l i) b) (fun b => (fun i => i ≤ l.length) b) (fun b => (fun i => l.length - i) b) (fun b => (fun i => i + 1) b) (fun b => (fun i => rk1_O l i) b) (fun b => (fun i => [(14, tl (atR l i).v), (15, tl (.bool (validF (atR l i))))]) b) ?_ i hpsi
  clear hpsi
  rintro i hpsi
  replace hpsi : i ≤ l.length := hpsi
  refine Eq.mpr (rk1_rd l i _) ?_
  rcases Nat.lt_or_ge i l.length with hi | hi
  all_goals (try simp only [drop_atR hi, rl1])
  all_goals (try simp only [List.drop_eq_nil_of_le hi, rl1])
  repeat' (first | exact rvalid_ps (atR l i) _ | exact RL_pur _ | refine And.intro ?_ ?_ | (intro h_; first | (cases h_; done) | rw [h_] | (simp only [Bool.not_eq_true', Bool.not_eq_false'] at h_; rw [h_]) | skip))
  all_goals (try simp only [decide_eq_true_eq, decide_eq_false_iff_not, Bool.not_eq_true', Bool.not_eq_false'] at *)
  all_goals (first | exact RL_length _ | assumption | (simp only [Int.toNat_natCast, List.drop_zero]; exact RL_at (by omega)) | exact wrap_succ (by omega) | omega | (simp only [bsm]; done) | (rw [show rk1_O l i = rk1_O l (i + 1) from by unfold rk1_O; rw [drop_atR hi]; simp only [rl1, *, cond_true]]; assumption))
def rk2_S (l : List Rg) (j : Nat) : St := ⟨tmL 35 [(0, Lv l), (4, .int .i64 ((j + 1 : Nat) : Int))], []⟩
def rk2_O (l : List Rg) (j : Nat) : List (Prop × Exit × St) := [(rl2 (l.drop j) = false, .ret, ⟨tmL 35 [(2, .int .i64 10)], []⟩), (rl2 (l.drop j) = true, .exit 2, ⟨tmL 35 [(0, Lv l)], []⟩)]
open Go.IntKind GV Ent in
theorem rk2_rd (l : List Rg) (j : Nat) (X : Prop) : vc Try.prog TA none [] [(27, tl (.int .i64 (atR l (j + 1)).start)), (32, tl (atR l j).v), (33, tl (.int .i64 (atR l j).end))] (loopOf 7 Try.f85) (rk2_S l j) (LoopK (rk2_S l (j + 1)) X (rk2_O l j)) = ((decide ((↑(j + (1 : Nat)) : Int) < (↑l.length : Int)) = true → ((0 : Int) ≤ (↑(j + (1 : Nat)) : Int) ∧ (↑(j + (1 : Nat)) : Int) < (↑l.length : Int)) ∧ (RL l).length = l.length * 6 ∧ (List.drop 0 (List.drop ((↑(j + (1 : Nat)) : Int).toNat * 6) (RL l)))[(0 : Nat)]? = some (int i64 (atR l (j + (1 : Nat))).start) ∧ ((0 : Int) ≤ i64.wrap ((↑(j + (1 : Nat)) : Int) - (1 : Int)) ∧ i64.wrap ((↑(j + (1 : Nat)) : Int) - (1 : Int)) < (↑l.length : Int)) ∧ (RL l).length = l.length * 6 ∧ 6 = 6 ∧ List.take 6 (List.drop 0 (List.drop ((i64.wrap ((↑(j + (1 : Nat)) : Int) - (1 : Int))).toNat * 6) (RL l))) = [int i64 (atR l j).start, int i64 (atR l j).pages, int i64 (atR l j).prot, int i64 (atR l j).flags, int i64 (atR l j).file, int i64 (atR l j).index] ∧ CallSem Try.prog 122 [(atR l j).v] [] 0 (int i64 (atR l j).end) [] [] ∧ (decide ((atR l (j + (1 : Nat))).start < (atR l j).end) = true → (10 : Int) = (10 : Int) ∧ rl2 (List.drop j l) = false) ∧ (decide ((atR l (j + (1 : Nat))).start < (atR l j).end) = false → l.length = l.length ∧ RL l = RL l ∧ PurL (RL l) ∧ i64.wrap ((↑(j + (1 : Nat)) : Int) + (1 : Int)) = (↑(j + (1 : Nat) + 1) : Int) ∧ X)) ∧ (decide ((↑(j + (1 : Nat)) : Int) < (↑l.length : Int)) = false → l.length = l.length ∧ RL l = RL l ∧ PurL (RL l) ∧ rl2 (List.drop j l) = true)) := by kernel_rfl
theorem rk2_loop (l : List Rg) (hl : l.length ≤ 1073741824) (j : Nat) (hpsi : j ≤ l.length) : GW Try.prog none [] (.loop (loopOf 7 Try.f85)) (rk2_S l j) (OneOf (rk2_O l j)) := by
  refine GW.loopF mixedA tabA (β := Nat) (fun b => (fun j => rk2_S l j) b) (fun b => (fun j => j ≤ l.length) b) (fun b => (fun j => l.length - j) b) (fun b => (fun j => j + 1) b) (fun b => (fun j => rk2_O l j) b) (fun b => (fun j => [(27, tl (.int .i64 (atR l (j + 1)).start)), (32, tl (atR l j).v), (33, tl (.int .i64 (atR l j).end))]) b) ?_ j hpsi
  clear hpsi
  rintro j hpsi
  replace hpsi : j ≤ l.length := hpsi
  refine Eq.mpr (rk2_rd l j _) ?_
  have hw := wrap_pred (i := j) (by omega)
  rcases Nat.lt_or_ge (j + 1) l.length with hi | hi
  all_goals (try simp only [rl2_step hi])
  all_goals (try simp only [rl2_end hi])
  all_goals (simp only [hw])
  repeat' (first | exact rend_ps (atR l j) _ | exact RL_pur _ | refine And.intro ?_ ?_ | (intro h_; first | (cases h_; done) | rw [h_] | (simp only [Bool.not_eq_true', Bool.not_eq_false'] at h_; rw [h_]) | skip))
  all_goals (try simp only [decide_eq_true_eq, decide_eq_false_iff_not, Bool.not_eq_true', Bool.not_eq_false'] at *)
  all_goals (first | exact RL_length _ | assumption | (simp only [Int.toNat_natCast, List.drop_zero]; exact RL_at (by omega)) | exact wrap_succ (by omega) | omega | (simp only [bsm]; done) | (rw [show rk2_O l j = rk2_O l (j + 1) from by unfold rk2_O; rw [rl2_step hi]; simp only [*, decide_false, cond_false]]; assumption) | (rw [List.drop_zero, Int.toNat_natCast, RL_drop, drop_atR hi]; rfl))
theorem listed_ok : FnOK Try.prog 85 Try.f85 (bodyOf Try.f85) := ⟨Try.func85, rfl, rfl⟩
theorem listed_vc (l : List Rg) : vc Try.prog TA none [] [(100002, .loop (rk1_S l 0) (rk1_O l 0)), (100007, .loop (rk2_S l 0) (rk2_O l 0))] (bodyOf Try.f85) ⟨startT Try.f85 [Lv l], []⟩ (Fin TA Try.f85 (.int .i64 (listedF l))) = (l.length = l.length ∧ RL l = RL l ∧ PurL (RL l) ∧ (0 : Int) = (0 : Int) ∧ GW Try.prog none [] (loopOf (2 : Nat) Try.f85).loop (rk1_S l (0 : Nat)) (OneOf (rk1_O l (0 : Nat))) ∧ (rl1 (List.drop 0 l) = false → (2 : Int) = listedF l ∧ True) ∧ (rl1 (List.drop 0 l) = true → l.length = l.length ∧ RL l = RL l ∧ PurL (RL l) ∧ (1 : Int) = (1 : Int) ∧ GW Try.prog none [] (loopOf (7 : Nat) Try.f85).loop (rk2_S l (0 : Nat)) (OneOf (rk2_O l (0 : Nat))) ∧ (rl2 (List.drop 0 l) = false → (10 : Int) = listedF l ∧ True) ∧ (rl2 (List.drop 0 l) = true → (0 : Int) = listedF l ∧ True) ∧ True) ∧ True) := by kernel_rfl
theorem listed_ps (l : List Rg) (hl : l.length ≤ 1073741824) : PS Try.prog 85 [Lv l] (.int .i64 (listedF l)) := by
  refine .of_vcN mixedA tabA listed_ok (by repeat' (first | exact trivial | exact Pur.im (RL_pur _) | refine And.intro ?_ ?_)) (listed_vc l) ?_
  try simp only [listedF, List.drop_zero]
  repeat' (first | exact (rk1_loop l hl 0 (Nat.zero_le _)) | exact (rk2_loop l hl 0 (Nat.zero_le _)) | exact RL_pur _ | refine And.intro ?_ ?_ | (intro h_; first | (cases h_; done) | rw [h_] | (simp only [Bool.not_eq_true', Bool.not_eq_false'] at h_; rw [h_]) | skip))
  all_goals (first | exact trivial | (simp only [bsm]; done))
theorem nf {b : Bool} (h : (!b) = false) : b = true := by cases b <;> simp_all
def rregF (t : Tr) : List Rg := (nodesF t).map Tr.r
def rcheckF (t : Tr) : Int := bif !formedF t then 3 else bif listedF (rregF t) != 0 then listedF (rregF t) else bif !rnumF t then 11 else 0
theorem rgz0_vc (t : Tr) (bf : Nat → Nat × Nat) : vc Try.prog TA none [] [(11, .dead)] (bodyOf Try.f83) ⟨startT Try.f83 [t.v, .nils], []⟩ (FinO TA Try.f83 [] bf (.ol 0 0 6) [.ob [] 23]) = (((t.h == 0) = true → 0 = 0 ∧ ([] : List GV) = [] ∧ True) ∧ ((t.h == 0) = false → Stuck (11 : Nat))) := by kernel_rfl
theorem rgz0_side (t : Tr) (base : Nat) (bf : Nat → Nat × Nat) : sideP [] base [] bf [t.v, .nils] [t.v, .nils] [] [] (.ol 0 0 6) (.ol base 0 6) [.ob [] 23] ([] ++ [.ob [] 23]) = (t.h = t.h ∧ t.f = t.f ∧ t.l = t.l ∧ t.g = t.g ∧ t.r.start = t.r.start ∧ t.r.pages = t.r.pages ∧ t.r.prot = t.r.prot ∧ t.r.flags = t.r.flags ∧ t.r.file = t.r.file ∧ t.r.index = t.r.index ∧ t.kids.length = t.kids.length ∧ t.K = t.K ∧ PurL t.K ∧ true = true ∧ base = base ∧ 0 = 0 ∧ 6 = 6 ∧ 23 = 23 ∧ ([] : List GV) = [] ∧ PurL [] ∧ true = true ∧ true = true) := by kernel_rfl
theorem rgz0_cs (t : Tr) (h0 : (t.h == 0) = true) (base : Nat)   : CallSem Try.prog 83 [t.v, .nils] [] base (.ol base 0 6) [] [.ob [] 23] := by
  have hnd : nodupB [] = true := by simp [nodupB]
  have hlt : ∀ p ∈ ([] : List Nat), p < base := by intro p hp; simp at hp
  refine CallSem.of_vcS (fps := []) (upds := []) mixedA tabA rgz_ok [] rfl rfl hnd hlt [] (fun bf => [t.v, .nils]) (fun bf => []) (.ol 0 0 6) [.ob [] 23] (rgz0_side t  base) (fun bf => ?_) (rgz0_vc t) (fun bf => ?_)
  · repeat' (first | exact Tr.purK _ | exact purS (Eq.refl true) | with_reducible rfl | refine And.intro ?_ ?_)
    all_goals first | rfl | assumption | exact Nat.le_of_ble_eq_true (Eq.refl true) | (refine PurAll.mem ?_; repeat' (first | skip)) | (simp [RL_length, RL_takeL, RL_append, RL]; done)
  · try rw [h0]
    repeat' (first | refine And.intro ?_ ?_ | (intro h_; first | (cases h_; done) | rw [h_] | (simp only [Bool.not_eq_true', Bool.not_eq_false'] at h_; rw [h_]) | skip))
    all_goals (first | exact trivial | with_reducible rfl)
open Go.IntKind GV Ent in
theorem rgn0_vc (h f l g : Int) (x : Rg) (a b : Tr) (s1 s3 : List Rg) (bf : Nat → Nat × Nat) : vc Try.prog TA none [] [(14, cl [] (.ol 1 s1.length 6) [] [.ob (RL s1) 23]), (500005, .view fun s => ⟨tmL 26 [(2, .ptr 0 0), (1, .ol 1 (app s1 x).length 6)], [.blk (Tr.mk h f l g x [a, b]).cells 26, .ob (RL (app s1 x)) 23]⟩), (25, cl [1] (.ol 2 s3.length 6) [.emp] [.ob (RL s3) 23])] (bodyOf Try.f83) ⟨startT Try.f83 [(Tr.mk h f l g x [a, b]).v, .nils], []⟩ (FinO TA Try.f83 [] bf (.ol 0 s3.length 6) [.ob (RL s3) 23]) = (((h == (0 : Int)) = true → s3.length = (0 : Nat) ∧ RL s3 = [] ∧ True) ∧ ((h == (0 : Int)) = false → ((0 : Int) ≤ (0 : Int) ∧ (0 : Int) < (↑(2 : Nat) : Int)) ∧ 22 = 22 ∧ CallSem Try.prog 83 [a.v, nils] [] 1 (ol 1 s1.length (6 : Nat)) [] [ob (RL s1) (23 : Nat)] ∧ 6 ≤ 6 ∧ 23 = 23 ∧ (RL s1).length = s1.length * 6 ∧ s1.length + 1 ≤ 1073741824 ∧ true = true ∧ true = true ∧ ((0 : Nat) < (6 : Nat) ∧ 48 ≤ 65536) ∧ (s1.length + 1 = (app s1 x).length ∧ 6 = 6) ∧ 0 = 0 ∧ h = h ∧ f = f ∧ l = l ∧ g = g ∧ x.start = x.start ∧ x.pages = x.pages ∧ x.prot = x.prot ∧ x.flags = x.flags ∧ x.file = x.file ∧ x.index = x.index ∧ 2 = 2 ∧ [int i64 a.h, int i64 a.f, int i64 a.l, int i64 a.g, int i64 a.r.start, int i64 a.r.pages, int i64 a.r.prot, int i64 a.r.flags, int i64 a.r.file, int i64 a.r.index, im a.kids.length a.K, int i64 b.h, int i64 b.f, int i64 b.l, int i64 b.g, int i64 b.r.start, int i64 b.r.pages, int i64 b.r.prot, int i64 b.r.flags, int i64 b.r.file, int i64 b.r.index, im b.kids.length b.K] = [int i64 a.h, int i64 a.f, int i64 a.l, int i64 a.g, int i64 a.r.start, int i64 a.r.pages, int i64 a.r.prot, int i64 a.r.flags, int i64 a.r.file, int i64 a.r.index, im a.kids.length a.K, int i64 b.h, int i64 b.f, int i64 b.l, int i64 b.g, int i64 b.r.start, int i64 b.r.pages, int i64 b.r.prot, int i64 b.r.flags, int i64 b.r.file, int i64 b.r.index, im b.kids.length b.K] ∧ PurL [int i64 a.h, int i64 a.f, int i64 a.l, int i64 a.g, int i64 a.r.start, int i64 a.r.pages, int i64 a.r.prot, int i64 a.r.flags, int i64 a.r.file, int i64 a.r.index, im a.kids.length a.K, int i64 b.h, int i64 b.f, int i64 b.l, int i64 b.g, int i64 b.r.start, int i64 b.r.pages, int i64 b.r.prot, int i64 b.r.flags, int i64 b.r.file, int i64 b.r.index, im b.kids.length b.K] ∧ List.take (s1.length * 6) (RL s1) ++ [int i64 x.start, int i64 x.pages, int i64 x.prot, int i64 x.flags, int i64 x.file, int i64 x.index] = RL (app s1 x) ∧ PurL (RL (app s1 x)) ∧ ((0 : Int) ≤ (1 : Int) ∧ (1 : Int) < (↑(2 : Nat) : Int)) ∧ 22 = 22 ∧ CallSem Try.prog 83 [b.v, ol 1 (app s1 x).length (6 : Nat)] [((1 : Nat), ob (RL (app s1 x)) (23 : Nat))] 2 (ol 2 s3.length (6 : Nat)) [((1 : Nat), emp)] [ob (RL s3) (23 : Nat)] ∧ (s3.length = s3.length ∧ 6 = 6) ∧ RL s3 = RL s3 ∧ PurL (RL s3) ∧ True)) := by kernel_rfl
open Go.IntKind GV Ent in
theorem rgn0_side (h f l g : Int) (x : Rg) (a b : Tr) (s1 s3 : List Rg) (base : Nat) (bf : Nat → Nat × Nat) : sideP [] base [] bf [(Tr.mk h f l g x [a, b]).v, .nils] [(Tr.mk h f l g x [a, b]).v, .nils] [] [] (.ol 0 s3.length 6) (.ol base s3.length 6) [.ob (RL s3) 23] ([] ++ [.ob (RL s3) 23]) = (h = h ∧ f = f ∧ l = l ∧ g = g ∧ x.start = x.start ∧ x.pages = x.pages ∧ x.prot = x.prot ∧ x.flags = x.flags ∧ x.file = x.file ∧ x.index = x.index ∧ 2 = 2 ∧ [int i64 a.h, int i64 a.f, int i64 a.l, int i64 a.g, int i64 a.r.start, int i64 a.r.pages, int i64 a.r.prot, int i64 a.r.flags, int i64 a.r.file, int i64 a.r.index, im a.kids.length a.K, int i64 b.h, int i64 b.f, int i64 b.l, int i64 b.g, int i64 b.r.start, int i64 b.r.pages, int i64 b.r.prot, int i64 b.r.flags, int i64 b.r.file, int i64 b.r.index, im b.kids.length b.K] = [int i64 a.h, int i64 a.f, int i64 a.l, int i64 a.g, int i64 a.r.start, int i64 a.r.pages, int i64 a.r.prot, int i64 a.r.flags, int i64 a.r.file, int i64 a.r.index, im a.kids.length a.K, int i64 b.h, int i64 b.f, int i64 b.l, int i64 b.g, int i64 b.r.start, int i64 b.r.pages, int i64 b.r.prot, int i64 b.r.flags, int i64 b.r.file, int i64 b.r.index, im b.kids.length b.K] ∧ PurL [int i64 a.h, int i64 a.f, int i64 a.l, int i64 a.g, int i64 a.r.start, int i64 a.r.pages, int i64 a.r.prot, int i64 a.r.flags, int i64 a.r.file, int i64 a.r.index, im a.kids.length a.K, int i64 b.h, int i64 b.f, int i64 b.l, int i64 b.g, int i64 b.r.start, int i64 b.r.pages, int i64 b.r.prot, int i64 b.r.flags, int i64 b.r.file, int i64 b.r.index, im b.kids.length b.K] ∧ true = true ∧ base = base ∧ s3.length = s3.length ∧ 6 = 6 ∧ 23 = 23 ∧ RL s3 = RL s3 ∧ PurL (RL s3) ∧ true = true ∧ true = true) := by kernel_rfl
theorem rgn0_cs (h f l g : Int) (x : Rg) (a b : Tr) (s1 s3 : List Rg) (h0 : (h == 0) = false) (hl : s1.length + 1 ≤ 1073741824) (ha : ∀ base, CallSem Try.prog 83 [a.v, .nils] [] base (.ol base s1.length 6) [] [.ob (RL s1) 23])
    (hb : ∀ p0 base, p0 < base → CallSem Try.prog 83 [b.v, .ol p0 (app s1 x).length 6] [(p0, .ob (RL (app s1 x)) 23)] base (.ol base s3.length 6) [(p0, .emp)] [.ob (RL s3) 23]) (base : Nat)   : CallSem Try.prog 83 [(Tr.mk h f l g x [a, b]).v, .nils] [] base (.ol base s3.length 6) [] [.ob (RL s3) 23] := by
  have hnd : nodupB [] = true := by simp [nodupB]
  have hlt : ∀ p ∈ ([] : List Nat), p < base := by intro p hp; simp at hp
  refine CallSem.of_vcS (fps := []) (upds := []) mixedA tabA rgz_ok [] rfl rfl hnd hlt [] (fun bf => [(Tr.mk h f l g x [a, b]).v, .nils]) (fun bf => []) (.ol 0 s3.length 6) [.ob (RL s3) 23] (rgn0_side h f l g x a b s1 s3  base) (fun bf => ?_) (rgn0_vc h f l g x a b s1 s3) (fun bf => ?_)
  · repeat' (first | exact RL_pur _ | with_reducible rfl | refine And.intro ?_ ?_)
    all_goals first | rfl | assumption | exact Nat.le_of_ble_eq_true (Eq.refl true) | (refine PurAll.mem ?_; repeat' (first | exact trivial | exact Pur.int | exact Pur.im (Tr.purK _) | refine And.intro ?_ ?_)) | (simp [RL_length, RL_takeL, RL_append, RL]; done)
  · try rw [h0]
    try simp only [app]
    repeat' (first | exact ha _ | exact hb _ _ (by decide) | exact (Tr.purK (.mk h f l g x [a, b])) | exact RL_pur _ | refine And.intro ?_ ?_ | (intro h_; first | (cases h_; done) | rw [h_] | (simp only [Bool.not_eq_true', Bool.not_eq_false'] at h_; rw [h_]) | skip))
    all_goals (first | exact trivial | exact Nat.le_refl _ | exact Nat.le_of_ble_eq_true (Eq.refl true) | assumption | (simp [RL_length, RL_takeL, RL_append, RL, app, bsm]; done))
theorem rg_own (l : List Rg) : allP (vw (fun p => [Ent.ob (RL l) 23][p]?) [] 8 (.ol 0 l.length 6) (Lv l)) = (l.length = l.length ∧ ((RL l).length = l.length * 6 ∧ (0 : Nat) < (6 : Nat)) ∧ RL l = RL l ∧ ∀ (c : GV), List.Mem c (RL l) → ∀ (W : World) (E : Env) (v : Value), R W E c v → R W { I := E.I, ok := fun x => False, bk := E.bk, tot := E.tot } c v) := by kernel_rfl
theorem rg0_cs (t : Tr) : formedF t = true → ∀ (hs : (nodesF t).length ≤ 1073741824) (base : Nat), CallSem Try.prog 83 [t.v, .nils] [] base (.ol base (rregF t).length 6) [] [.ob (RL (rregF t)) 23] := by
  induction t using Tr.ind with
  | h t ih =>
    intro hf hs base
    unfold rregF
    cases h0 : t.h == 0 with
    | true =>
      rw [nodesF_zero h0, List.map_nil]
      exact rgz0_cs t h0 base
    | false =>
      obtain ⟨a, b, hk, ha, hb'⟩ := formedF_inv hf (by simpa using h0)
      cases t with
      | mk h f l g x k =>
        cases (hk : k = [a, b])
        have h0' : (h == 0) = false := h0
        rw [nodesF_two, h0', cond_false] at hs ⊢
        rw [List.length_append, List.length_cons] at hs
        have e : (nodesF a ++ (Tr.mk h f l g x [a, b] :: nodesF b)).map Tr.r = app ((nodesF a).map Tr.r) x ++ (nodesF b).map Tr.r := by simp [app, Tr.r]
        rw [e]
        exact rgn0_cs h f l g x a b _ _ h0' (by simp only [rregF, List.length_map]; omega) (fun base => ih a (by simp [Tr.kids]) ha (by omega) base) (rg_cs b hb' _ (by simp only [app, rregF, List.length_append, List.length_map, List.length_singleton]; omega)) base
theorem rg_ps (t : Tr) (hf : formedF t = true) (hl : (nodesF t).length ≤ 1073741824) : PS Try.prog 83 [t.v, .nils] (Lv (rregF t)) :=
  .of_own ⟨t.pur, .nils, trivial⟩ (rg0_cs t hf hl 0) (by rw [rg_own]; exact ⟨rfl, ⟨RL_length _, by decide⟩, rfl, RL_pur _⟩)
theorem rcheck_ok : FnOK Try.prog 42 Try.f42 (bodyOf Try.f42) := ⟨Try.func42, rfl, rfl⟩
open Go.IntKind GV Ent in
theorem rcheck_vc (t : Tr) : vc Try.prog TA none [] [(6, tl (.bool (formedF t))), (9, tl (Lv (rregF t))), (11, tl (.int .i64 (listedF (rregF t)))), (16, tl (.bool (rnumF t)))] (bodyOf Try.f42) ⟨startT Try.f42 [t.v], []⟩ (Fin TA Try.f42 (.int .i64 (rcheckF t))) = (CallSem Try.prog 84 [t.v] [] 1 (bool (formedF t)) [] [] ∧ ((!formedF t) = true → (3 : Int) = rcheckF t ∧ True) ∧ ((!formedF t) = false → CallSem Try.prog 83 [t.v, nils] [] 1 (im (rregF t).length (RL (rregF t))) [] [] ∧ CallSem Try.prog 85 [im (rregF t).length (RL (rregF t))] [] 1 (int i64 (listedF (rregF t))) [] [] ∧ ((listedF (rregF t) != (0 : Int)) = true → listedF (rregF t) = rcheckF t ∧ True) ∧ ((listedF (rregF t) != (0 : Int)) = false → CallSem Try.prog 86 [t.v] [] 1 (bool (rnumF t)) [] [] ∧ ((!rnumF t) = true → (11 : Int) = rcheckF t ∧ True) ∧ ((!rnumF t) = false → (0 : Int) = rcheckF t ∧ True)))) := by kernel_rfl
theorem rcheck_ps (t : Tr) (hl : (nodesF t).length ≤ 1073741824) : PS Try.prog 42 [t.v] (.int .i64 (rcheckF t)) := by
  have hl2 : (rregF t).length ≤ 1073741824 := by unfold rregF; simpa using hl
  refine .of_vcN mixedA tabA rcheck_ok (by repeat' (first | exact trivial | exact Tr.pur _ | refine And.intro ?_ ?_)) (rcheck_vc t) ?_
  try simp only [rcheckF]
  repeat' (first | exact rformedA_ps t _ | exact rg_ps t (nf (by assumption)) hl _ | exact listed_ps (rregF t) hl2 _ | exact rnumA_ps t (nf (by assumption)) _ | refine And.intro ?_ ?_ | (intro h_; first | (cases h_; done) | rw [h_] | (simp only [Bool.not_eq_true', Bool.not_eq_false'] at h_; rw [h_]) | skip))
  all_goals (first | exact trivial | (simp only [bsm]; done))
def rlistF (t : Tr) : List Rg := bif rcheckF t != 0 then [] else rregF t
theorem rcheckF_formed {t : Tr} (h : (rcheckF t != 0) = false) : formedF t = true := by
  cases hf : formedF t with
  | true => rfl
  | false => rw [rcheckF, hf] at h; cases h
theorem rlist_ok : FnOK Try.prog 41 Try.f41 (bodyOf Try.f41) := ⟨Try.func41, rfl, rfl⟩
open Go.IntKind GV Ent in
theorem rlist_vc (t : Tr) : vc Try.prog TA none [] [(4, tl (.int .i64 (rcheckF t))), (7, tl (Lv (rregF t)))] (bodyOf Try.f41) ⟨startT Try.f41 [t.v], []⟩ (Fin TA Try.f41 (Lv (rlistF t))) = (CallSem Try.prog 42 [t.v] [] 1 (int i64 (rcheckF t)) [] [] ∧ ((rcheckF t != (0 : Int)) = true → ((rlistF t).length = (0 : Nat) ∧ RL (rlistF t) = []) ∧ True) ∧ ((rcheckF t != (0 : Int)) = false → CallSem Try.prog 83 [t.v, nils] [] 1 (im (rregF t).length (RL (rregF t))) [] [] ∧ (rregF t).length = (rlistF t).length ∧ RL (rregF t) = RL (rlistF t) ∧ PurL (RL (rregF t)) ∧ True)) := by kernel_rfl
theorem rlist_ps (t : Tr) (hl : (nodesF t).length ≤ 1073741824) : PS Try.prog 41 [t.v] (Lv (rlistF t)) := by
  refine .of_vcN mixedA tabA rlist_ok (by repeat' (first | exact trivial | exact Tr.pur _ | refine And.intro ?_ ?_)) (rlist_vc t) ?_
  try simp only [rlistF]
  repeat' (first | exact rcheck_ps t hl _ | exact rg_ps t (rcheckF_formed (by assumption)) hl _ | exact RL_pur _ | refine And.intro ?_ ?_ | (intro h_; first | (cases h_; done) | rw [h_] | (simp only [Bool.not_eq_true', Bool.not_eq_false'] at h_; rw [h_]) | skip))
  all_goals (first | exact trivial | (simp only [bsm]; done) | (simp only [bsm]; exact rfl))
end Go.Proofs.Ytalcipbagidbpaa
end

section
set_option linter.unusedVariables false
namespace Go.Proofs.Ytalcipbagidbpaa
open Go.Proofs
mutual
def ndF : Tr → Int → Int
  | .mk _ _ _ _ _ k, lim => ndL k 1 lim
def ndL : List Tr → Int → Int → Int
  | [], n, _ => n
  | t :: ts, n, lim => bif decide (n ≤ lim) then ndL ts (w64 (n + ndF t (w64 (lim - n)))) lim else n
end
theorem ndF_eq (t : Tr) (lim : Int) : ndF t lim = ndL t.kids 1 lim := by cases t; rw [ndF]; rfl
theorem ndL_end {l : List Tr} {i : Nat} {n lim : Int} (h : l.length ≤ i) : ndL (l.drop i) n lim = n := by rw [List.drop_eq_nil_of_le h, ndL]
theorem ndL_no {l : List Tr} {i : Nat} {n lim : Int} (h : decide (n ≤ lim) = false) : ndL (l.drop i) n lim = n := by
  cases l.drop i with
  | nil => rw [ndL]
  | cons t ts => rw [ndL, h, cond_false]
theorem ndL_step {l : List Tr} {i : Nat} {n lim : Int} (hi : i < l.length) (h : decide (n ≤ lim) = true) : ndL (l.drop i) n lim = ndL (l.drop (i + 1)) (w64 (n + ndF (atT l i) (w64 (lim - n)))) lim := by
  rw [drop_atT hi, ndL, h, cond_true]
theorem atT_mem {l : List Tr} {i : Nat} (h : i < l.length) : atT l i ∈ l := by rw [atT, List.getD_eq_getElem?_getD, List.getElem?_eq_getElem h]; exact List.getElem_mem h
def nd_S (t : Tr) (lim : Int) (i : Nat) (n : Int) : St := ⟨tmL 31 [(1, .int .i64 lim), (2, .ptr 0 0), (5, .int .i64 n), (6, .int .i64 i)], [.blk t.cells 26]⟩
def nd_O (t : Tr) (lim : Int) (i : Nat) (n : Int) : List (Prop × Exit × St) := [(True, .exit 0, ⟨tmL 31 [(5, .int .i64 (ndL (t.kids.drop i) n lim))], []⟩)]
open Go.IntKind GV Ent in
theorem nd_rd (t : Tr) (lim : Int) (i : Nat) (n : Int) (X : Prop) : vc Try.prog TA none [] [(24, tl (atT t.kids i).v), (28, tl (.int .i64 (ndF (atT t.kids i) (w64 (lim - n)))))] (loopOf 3 Try.f92) (nd_S t lim i n) (LoopK (nd_S t lim (i + 1) (w64 (n + ndF (atT t.kids i) (w64 (lim - n))))) X (nd_O t lim i n)) = ((decide ((↑i : Int) < (↑t.kids.length : Int)) = true → (decide (n ≤ lim) = true → ((0 : Int) ≤ (↑i : Int) ∧ (↑i : Int) < (↑t.kids.length : Int)) ∧ t.K.length = t.kids.length * 11 ∧ 11 = 11 ∧ List.take 11 (List.drop 0 (List.drop ((↑i : Int).toNat * 11) t.K)) = [int i64 (atT t.kids i).h, int i64 (atT t.kids i).f, int i64 (atT t.kids i).l, int i64 (atT t.kids i).g, int i64 (atT t.kids i).r.start, int i64 (atT t.kids i).r.pages, int i64 (atT t.kids i).r.prot, int i64 (atT t.kids i).r.flags, int i64 (atT t.kids i).r.file, int i64 (atT t.kids i).r.index, im (atT t.kids i).kids.length (atT t.kids i).K] ∧ CallSem Try.prog 92 [(atT t.kids i).v, int i64 (i64.wrap (lim - n))] [] 1 (int i64 (ndF (atT t.kids i) (w64 (lim - n)))) [] [] ∧ lim = lim ∧ 0 = 0 ∧ w64 (n + ndF (atT t.kids i) (w64 (lim - n))) = w64 (n + ndF (atT t.kids i) (w64 (lim - n))) ∧ i64.wrap ((↑i : Int) + (1 : Int)) = (↑(i + (1 : Nat)) : Int) ∧ t.h = t.h ∧ t.f = t.f ∧ t.l = t.l ∧ t.g = t.g ∧ t.r.start = t.r.start ∧ t.r.pages = t.r.pages ∧ t.r.prot = t.r.prot ∧ t.r.flags = t.r.flags ∧ t.r.file = t.r.file ∧ t.r.index = t.r.index ∧ t.kids.length = t.kids.length ∧ t.K = t.K ∧ PurL t.K ∧ X) ∧ (decide (n ≤ lim) = false → n = ndL (List.drop i t.kids) n lim ∧ True)) ∧ (decide ((↑i : Int) < (↑t.kids.length : Int)) = false → n = ndL (List.drop i t.kids) n lim ∧ True)) := by kernel_rfl
theorem nd_loop (t : Tr) (lim : Int) (hl : t.kids.length ≤ 9223372036854775807) (ih : ∀ k ∈ t.kids, ∀ lim, PS Try.prog 92 [k.v, .int .i64 lim] (.int .i64 (ndF k lim))) (i : Nat) (n : Int) (hpsi : i ≤ t.kids.length) : GW Try.prog none [] (.loop (loopOf 3 Try.f92)) (nd_S t lim i n) (OneOf (nd_O t lim i n)) := by
  refine GW.loopF mixedA tabA (β := Nat × Int) (fun z_ => (fun i n => nd_S t lim i n) z_.1 z_.2) (fun z_ => (fun i n => i ≤ t.kids.length) z_.1 z_.2) (fun z_ => (fun i n => t.kids.length - i) z_.1 z_.2) (fun z_ => (fun i n => (i + 1, w64 (n + ndF (atT t.kids i) (w64 (lim - n))))) z_.1 z_.2) (fun z_ => (fun i n => nd_O t lim i n) z_.1 z_.2) (fun z_ => (fun i n => [(24, tl (atT t.kids i).v), (28, tl (.int .i64 (ndF (atT t.kids i) (w64 (lim - n)))))]) z_.1 z_.2) ?_ (i, n) hpsi
  clear hpsi
  rintro ⟨i, n⟩ hpsi
  replace hpsi : i ≤ t.kids.length := hpsi
  refine Eq.mpr (nd_rd t lim i n _) ?_
  repeat' (first | exact ih (atT t.kids i) (atT_mem (ltD (by assumption))) (w64 (lim - n)) _ | exact Tr.purK _ | refine And.intro ?_ ?_ | (intro h_; first | (cases h_; done) | rw [h_] | (simp only [Bool.not_eq_true', Bool.not_eq_false'] at h_; rw [h_]) | skip))
  all_goals (try simp only [decide_eq_true_eq, decide_eq_false_iff_not, Bool.not_eq_true', Bool.not_eq_false'] at *)
  all_goals (first | assumption | omega | (rw [wrap_id (by omega) (by omega)]; omega) | (rw [K_eq]; exact KL_length _) | (simp only [Int.toNat_natCast, List.drop_zero, K_eq t]; exact KL_at (by omega)) | (rw [show nd_O t lim i n = nd_O t lim (i + 1) (w64 (n + ndF (atT t.kids i) (w64 (lim - n)))) from by unfold nd_O; rw [ndL_step (by omega) (by simp only [decide_eq_true_eq]; assumption)]]; assumption) | (rw [ndL_end (by omega)]) | (rw [ndL_no (by simp only [decide_eq_false_iff_not]; assumption)]))
theorem nodes_ok : FnOK Try.prog 92 Try.f92 (bodyOf Try.f92) := ⟨Try.func92, rfl, rfl⟩
theorem nodes_vc (t : Tr) (lim : Int) : vc Try.prog TA none [] [(100003, .loop (nd_S t lim 0 1) (nd_O t lim 0 1))] (bodyOf Try.f92) ⟨startT Try.f92 [t.v, .int .i64 lim], []⟩ (Fin TA Try.f92 (.int .i64 (ndF t lim))) = (lim = lim ∧ 0 = 0 ∧ (1 : Int) = (1 : Int) ∧ (0 : Int) = (0 : Int) ∧ t.h = t.h ∧ t.f = t.f ∧ t.l = t.l ∧ t.g = t.g ∧ t.r.start = t.r.start ∧ t.r.pages = t.r.pages ∧ t.r.prot = t.r.prot ∧ t.r.flags = t.r.flags ∧ t.r.file = t.r.file ∧ t.r.index = t.r.index ∧ t.kids.length = t.kids.length ∧ t.K = t.K ∧ PurL t.K ∧ GW Try.prog none [] (loopOf (3 : Nat) Try.f92).loop (nd_S t lim (0 : Nat) (1 : Int)) (OneOf (nd_O t lim (0 : Nat) (1 : Int))) ∧ (True → ndL (List.drop 0 t.kids) (1 : Int) lim = ndF t lim ∧ True) ∧ True) := by kernel_rfl
theorem nodes_ps (t : Tr) (lim : Int) (hl : t.kids.length ≤ 9223372036854775807) (ih : ∀ k ∈ t.kids, ∀ lim, PS Try.prog 92 [k.v, .int .i64 lim] (.int .i64 (ndF k lim))) : PS Try.prog 92 [t.v, .int .i64 lim] (.int .i64 (ndF t lim)) := by
  refine .of_vcN mixedA tabA nodes_ok (by repeat' (first | exact trivial | exact Tr.pur _ | exact Pur.int | refine And.intro ?_ ?_)) (nodes_vc t lim) ?_
  try simp only [ndF_eq, List.drop_zero]
  repeat' (first | exact (nd_loop t lim hl ih 0 1 (Nat.zero_le _)) | exact Tr.purK _ | refine And.intro ?_ ?_ | (intro h_; first | (cases h_; done) | rw [h_] | (simp only [Bool.not_eq_true', Bool.not_eq_false'] at h_; rw [h_]) | skip))
  all_goals (exact trivial)
/-- No node has too many kids. -/
def kidsF : Tr → Prop
  | .mk _ _ _ _ _ k => k.length ≤ 9223372036854775807 ∧ ∀ t ∈ k, kidsF t
theorem kidsF_iff (t : Tr) : kidsF t ↔ t.kids.length ≤ 9223372036854775807 ∧ ∀ k ∈ t.kids, kidsF k := by cases t; rw [kidsF]; rfl
theorem nodesA_ps (t : Tr) : kidsF t → ∀ lim, PS Try.prog 92 [t.v, .int .i64 lim] (.int .i64 (ndF t lim)) := by
  induction t using Tr.ind with
  | h t ih => 
    intro hk lim
    rw [kidsF_iff] at hk
    exact nodes_ps t lim hk.1 fun k hm lim => ih k hm (hk.2 k hm) lim
def fewF (t : Tr) : Bool := decide (ndF t 200 ≤ 200)
theorem few_ok : FnOK Try.prog 48 Try.f48 (bodyOf Try.f48) := ⟨Try.func48, rfl, rfl⟩
open Go.IntKind GV Ent in
theorem few_vc (t : Tr) : vc Try.prog TA none [] [(4, tl (.int .i64 (ndF t 200)))] (bodyOf Try.f48) ⟨startT Try.f48 [t.v], []⟩ (Fin TA Try.f48 (.bool (fewF t))) = (CallSem Try.prog 92 [t.v, int i64 200] [] 1 (int i64 (ndF t (200 : Int))) [] [] ∧ fewF t = fewF t ∧ True) := by kernel_rfl
theorem few_ps (t : Tr) (hk : kidsF t) : PS Try.prog 48 [t.v] (.bool (fewF t)) := by
  refine .of_vcN mixedA tabA few_ok (by repeat' (first | exact trivial | exact Tr.pur _ | refine And.intro ?_ ?_)) (few_vc t) ?_
  try simp only [fewF]
  repeat' (first | exact nodesA_ps t hk 200 _ | refine And.intro ?_ ?_)
  all_goals (exact trivial)
theorem lfew_ok : FnOK Try.prog 15 Try.f15 (bodyOf Try.f15) := ⟨Try.func15, rfl, rfl⟩
open Go.IntKind GV Ent in
theorem lfew_vc (t : Tr) : vc Try.prog TA none [] [(4, tl (.bool (fewF t)))] (bodyOf Try.f15) ⟨startT Try.f15 [t.v], []⟩ (Fin TA Try.f15 (.bool (fewF t))) = (CallSem Try.prog 48 [t.v] [] 1 (bool (fewF t)) [] [] ∧ fewF t = fewF t ∧ True) := by kernel_rfl
theorem lfew_ps (t : Tr) (hk : kidsF t) : PS Try.prog 15 [t.v] (.bool (fewF t)) := by
  refine .of_vcN mixedA tabA lfew_ok (by repeat' (first | exact trivial | exact Tr.pur _ | refine And.intro ?_ ?_)) (lfew_vc t) ?_
  repeat' (first | exact few_ps t hk _ | refine And.intro ?_ ?_)
  all_goals (first | exact trivial | with_reducible rfl)
end Go.Proofs.Ytalcipbagidbpaa
end

section
set_option linter.unusedVariables false
namespace Go.Proofs.Ytalcipbagidbpaa
open Go.Proofs
def lsmF : List Rg → List Rg → Bool
  | x :: xs, y :: ys => bif !decide ([x.start, x.pages, x.prot, x.flags, x.file, x.index] = [y.start, y.pages, y.prot, y.flags, y.file, y.index]) then false else lsmF xs ys
  | _, _ => true
theorem lsmF_step {l m : List Rg} {i : Nat} (hi : i < l.length) (hm : i < m.length) : lsmF (l.drop i) (m.drop i) = bif !decide ([(atR l i).start, (atR l i).pages, (atR l i).prot, (atR l i).flags, (atR l i).file, (atR l i).index] = [(atR m i).start, (atR m i).pages, (atR m i).prot, (atR m i).flags, (atR m i).file, (atR m i).index]) then false else lsmF (l.drop (i + 1)) (m.drop (i + 1)) := by
  rw [drop_atR hi, drop_atR hm, lsmF]
theorem lsmF_end {l m : List Rg} {i : Nat} (h : l.length ≤ i) : lsmF (l.drop i) (m.drop i) = true := by rw [List.drop_eq_nil_of_le h, lsmF]; simp
def ls_S (a b : List Rg) (i : Nat) : St := ⟨tmL 26 [(0, Lv a), (1, Lv b), (5, .int .i64 i)], []⟩
def ls_O (a b : List Rg) (i : Nat) : List (Prop × Exit × St) := [(lsmF (a.drop i) (b.drop i) = false, .ret, ⟨tmL 26 [(4, .bool false)], []⟩), (lsmF (a.drop i) (b.drop i) = true, .exit 0, ⟨tmL 26 [], []⟩)]
open Go.IntKind GV Ent in
theorem ls_rd (a b : List Rg) (i : Nat) (X : Prop) : vc Try.prog TA none [] [(20, tl (atR a i).v), (24, tl (atR b i).v)] (loopOf 4 Try.f93) (ls_S a b i) (LoopK (ls_S a b (i + 1)) X (ls_O a b i)) = ((decide ((↑i : Int) < (↑a.length : Int)) = true → ((0 : Int) ≤ (↑i : Int) ∧ (↑i : Int) < (↑a.length : Int)) ∧ (RL a).length = a.length * 6 ∧ 6 = 6 ∧ List.take 6 (List.drop 0 (List.drop ((↑i : Int).toNat * 6) (RL a))) = [int i64 (atR a i).start, int i64 (atR a i).pages, int i64 (atR a i).prot, int i64 (atR a i).flags, int i64 (atR a i).file, int i64 (atR a i).index] ∧ ((0 : Int) ≤ (↑i : Int) ∧ (↑i : Int) < (↑b.length : Int)) ∧ (RL b).length = b.length * 6 ∧ 6 = 6 ∧ List.take 6 (List.drop 0 (List.drop ((↑i : Int).toNat * 6) (RL b))) = [int i64 (atR b i).start, int i64 (atR b i).pages, int i64 (atR b i).prot, int i64 (atR b i).flags, int i64 (atR b i).file, int i64 (atR b i).index] ∧ ((!decide ([(atR a i).start, (atR a i).pages, (atR a i).prot, (atR a i).flags, (atR a i).file, (atR a i).index] = [(atR b i).start, (atR b i).pages, (atR b i).prot, (atR b i).flags, (atR b i).file, (atR b i).index])) = true → false = false ∧ lsmF (List.drop i a) (List.drop i b) = false) ∧ ((!decide ([(atR a i).start, (atR a i).pages, (atR a i).prot, (atR a i).flags, (atR a i).file, (atR a i).index] = [(atR b i).start, (atR b i).pages, (atR b i).prot, (atR b i).flags, (atR b i).file, (atR b i).index])) = false → a.length = a.length ∧ RL a = RL a ∧ PurL (RL a) ∧ b.length = b.length ∧ RL b = RL b ∧ PurL (RL b) ∧ i64.wrap ((↑i : Int) + (1 : Int)) = (↑(i + (1 : Nat)) : Int) ∧ X)) ∧ (decide ((↑i : Int) < (↑a.length : Int)) = false → lsmF (List.drop i a) (List.drop i b) = true)) := by kernel_rfl
theorem ls_loop (a b : List Rg) (hl : a.length ≤ 1073741824) (hab : a.length = b.length) (i : Nat) (hpsi : i ≤ a.length) : GW Try.prog none [] (.loop (loopOf 4 Try.f93)) (ls_S a b i) (OneOf (ls_O a b i)) := by
  refine GW.loopF mixedA tabA (β := Nat) (fun z_ => (fun i => ls_S a b i) z_) (fun z_ => (fun i => i ≤ a.length) z_) (fun z_ => (fun i => a.length - i) z_) (fun z_ => (fun i => i + 1) z_) (fun z_ => (fun i => ls_O a b i) z_) (fun z_ => (fun i => [(20, tl (atR a i).v), (24, tl (atR b i).v)]) z_) ?_ i hpsi
  clear hpsi
  rintro i hpsi
  replace hpsi : i ≤ a.length := hpsi
  refine Eq.mpr (ls_rd a b i _) ?_
  rcases Nat.lt_or_ge i a.length with hi | hi
  all_goals (try simp only [lsmF_step hi (hab ▸ hi)])
  all_goals (try simp only [lsmF_end hi])
  repeat' (first | exact RL_pur _ | refine And.intro ?_ ?_ | (intro h_; first | (cases h_; done) | rw [h_] | (simp only [Bool.not_eq_true', Bool.not_eq_false'] at h_; rw [h_]) | skip))
  all_goals (try simp only [decide_eq_true_eq, decide_eq_false_iff_not, Bool.not_eq_true', Bool.not_eq_false'] at *)
  all_goals (first | exact RL_length _ | assumption | (simp only [Int.toNat_natCast, List.drop_zero]; exact RL_at (by omega)) | exact wrap_succ (by omega) | omega | (simp only [bsm]; done) | (rw [show ls_O a b i = ls_O a b (i + 1) from by unfold ls_O; rw [lsmF_step hi (hab ▸ hi)]; simp only [*, decide_true, Bool.not_true, cond_false]]; assumption))
theorem len_of_bne {a b : List Rg} (h : ((a.length : Int) != (b.length : Int)) = false) : a.length = b.length := by simp only [bne_eq_false_iff_eq] at h; omega
def lsameF (a b : List Rg) : Bool := bif (a.length : Int) != (b.length : Int) then false else lsmF a b
theorem lsame_ok : FnOK Try.prog 93 Try.f93 (bodyOf Try.f93) := ⟨Try.func93, rfl, rfl⟩
theorem lsame_vc (a b : List Rg) : vc Try.prog TA none [] [(100004, .loop (ls_S a b 0) (ls_O a b 0))] (bodyOf Try.f93) ⟨startT Try.f93 [Lv a, Lv b], []⟩ (Fin TA Try.f93 (.bool (lsameF a b))) = ((((↑a.length : Int) != (↑b.length : Int)) = true → false = lsameF a b ∧ True) ∧ (((↑a.length : Int) != (↑b.length : Int)) = false → a.length = a.length ∧ RL a = RL a ∧ PurL (RL a) ∧ b.length = b.length ∧ RL b = RL b ∧ PurL (RL b) ∧ (0 : Int) = (0 : Int) ∧ GW Try.prog none [] (loopOf (4 : Nat) Try.f93).loop (ls_S a b (0 : Nat)) (OneOf (ls_O a b (0 : Nat))) ∧ (lsmF (List.drop 0 a) (List.drop 0 b) = false → false = lsameF a b ∧ True) ∧ (lsmF (List.drop 0 a) (List.drop 0 b) = true → true = lsameF a b ∧ True) ∧ True)) := by kernel_rfl
theorem lsame_ps (a b : List Rg) (hl : a.length ≤ 1073741824) : PS Try.prog 93 [Lv a, Lv b] (.bool (lsameF a b)) := by
  refine .of_vcN mixedA tabA lsame_ok (by repeat' (first | exact trivial | exact Pur.im (RL_pur _) | refine And.intro ?_ ?_)) (lsame_vc a b) ?_
  try simp only [lsameF, List.drop_zero]
  repeat' (first | exact (ls_loop a b hl (len_of_bne (by assumption)) 0 (Nat.zero_le _)) | exact RL_pur _ | refine And.intro ?_ ?_ | (intro h_; first | (cases h_; done) | rw [h_] | (simp only [Bool.not_eq_true', Bool.not_eq_false'] at h_; rw [h_]) | skip))
  all_goals (first | exact trivial | (simp only [bsm]; done))
def rovN (b : Rg) : Nat → Int → Bool
  | 0, _ => false
  | n + 1, p => bif rhas b p then true else rovN b n (p + 1)
def rovF (a b : Rg) : Bool := bif rchk a != 0 then false else bif rchk b != 0 then false else rovN b a.pages.toNat a.start
def rwiF (p c : Int) : Int := bif decide (c < 1) then 1 else bif decide (p < 0) || (decide (c > 512) || decide (p > w64 (512 - c))) then 2 else 0
/-- The first error of a list of regions; mergeable neighbours. -/
def rc1 : List Rg → Int
  | [] => 0
  | r :: rs => bif rchk r != 0 then rchk r else rc1 rs
def rc2 : List Rg → Bool
  | a :: b :: rs => bif rmrg a b then true else rc2 (b :: rs)
  | _ => false
theorem rc2_step {l : List Rg} {j : Nat} (h : j + 1 < l.length) : rc2 (l.drop j) = bif rmrg (atR l j) (atR l (j + 1)) then true else rc2 (l.drop (j + 1)) := by
  rw [drop_atR (by omega : j < l.length), drop_atR h, rc2]
theorem rc2_end {l : List Rg} {j : Nat} (h : l.length ≤ j + 1) : rc2 (l.drop j) = false := by
  rcases Nat.lt_or_ge j l.length with h1 | h1
  · rw [drop_atR h1, List.drop_eq_nil_of_le h]; rfl
  · rw [List.drop_eq_nil_of_le h1]; rfl
def qk1_S (l : List Rg) (i : Nat) : St := ⟨tmL 49 [(4, Lv l), (5, .int .i64 i)], []⟩
def qk1_O (l : List Rg) (i : Nat) : List (Prop × Exit × St) := [((rc1 (l.drop i) != 0) = true, .ret, ⟨tmL 49 [(2, .int .i64 (rc1 (l.drop i)))], []⟩), ((rc1 (l.drop i) != 0) = false, .exit 0, ⟨tmL 49 [(4, Lv l)], []⟩)]
open Go.IntKind GV Ent in
theorem qk1_rd (l : List Rg) (i : Nat) (X : Prop) : vc Try.prog TA none [] [(24, tl (atR l i).v), (25, tl (.int .i64 (rchk (atR l i))))] (loopOf 6 Try.f29) (qk1_S l i) (LoopK (qk1_S l (i + 1)) X (qk1_O l i)) = ((decide ((↑i : Int) < (↑l.length : Int)) = true → ((0 : Int) ≤ (↑i : Int) ∧ (↑i : Int) < (↑l.length : Int)) ∧ (RL l).length = l.length * 6 ∧ 6 = 6 ∧ List.take 6 (List.drop 0 (List.drop ((↑i : Int).toNat * 6) (RL l))) = [int i64 (atR l i).start, int i64 (atR l i).pages, int i64 (atR l i).prot, int i64 (atR l i).flags, int i64 (atR l i).file, int i64 (atR l i).index] ∧ CallSem Try.prog 58 [(atR l i).v] [] 0 (int i64 (rchk (atR l i))) [] [] ∧ ((rchk (atR l i) != (0 : Int)) = true → rchk (atR l i) = rc1 (List.drop i l) ∧ (rc1 (List.drop i l) != (0 : Int)) = true) ∧ ((rchk (atR l i) != (0 : Int)) = false → l.length = l.length ∧ RL l = RL l ∧ PurL (RL l) ∧ i64.wrap ((↑i : Int) + (1 : Int)) = (↑(i + (1 : Nat)) : Int) ∧ X)) ∧ (decide ((↑i : Int) < (↑l.length : Int)) = false → l.length = l.length ∧ RL l = RL l ∧ PurL (RL l) ∧ (rc1 (List.drop i l) != (0 : Int)) = false)) := by kernel_rfl
theorem qk1_loop (l : List Rg) (hl : l.length ≤ 1073741824) (i : Nat) (hpsi : i ≤ l.length) : GW Try.prog none [] (.loop (loopOf 6 Try.f29)) (qk1_S l i) (OneOf (qk1_O l i)) := by
  refine GW.loopF mixedA tabA (β := Nat) (fun z_ => (fun i => qk1_S l i) z_) (fun z_ => (fun i => i ≤ l.length) z_) (fun z_ => (fun i => l.length - i) z_) (fun z_ => (fun i => i + 1) z_) (fun z_ => (fun i => qk1_O l i) z_) (fun z_ => (fun i => [(24, tl (atR l i).v), (25, tl (.int .i64 (rchk (atR l i))))]) z_) ?_ i hpsi
  clear hpsi
  rintro i hpsi
  replace hpsi : i ≤ l.length := hpsi
  refine Eq.mpr (qk1_rd l i _) ?_
  rcases Nat.lt_or_ge i l.length with hi | hi
  all_goals (try simp only [drop_atR hi, rc1])
  all_goals (try simp only [List.drop_eq_nil_of_le hi, rc1])
  repeat' (first | exact rchk_ps (atR l i) _ | exact RL_pur _ | refine And.intro ?_ ?_ | (intro h_; first | (cases h_; done) | rw [h_] | (simp only [Bool.not_eq_true', Bool.not_eq_false'] at h_; rw [h_]) | skip))
  all_goals (try simp only [decide_eq_true_eq, decide_eq_false_iff_not, Bool.not_eq_true', Bool.not_eq_false'] at *)
  all_goals (first | exact RL_length _ | assumption | (simp only [Int.toNat_natCast, List.drop_zero]; exact RL_at (by omega)) | exact wrap_succ (by omega) | omega | (simp only [bsm]; done) | (rw [show qk1_O l i = qk1_O l (i + 1) from by unfold qk1_O; rw [drop_atR hi]; simp only [rc1, *, cond_false]]; assumption))
def qk2_S (l : List Rg) (j : Nat) : St := ⟨tmL 49 [(4, Lv l), (7, .int .i64 j)], []⟩
def qk2_O (l : List Rg) (j : Nat) : List (Prop × Exit × St) := [(rc2 (l.drop j) = true, .ret, ⟨tmL 49 [(2, .int .i64 11)], []⟩), (rc2 (l.drop j) = false, .exit 2, ⟨tmL 49 [(4, Lv l)], []⟩)]
open Go.IntKind GV Ent in
theorem qk2_rd (l : List Rg) (j : Nat) (X : Prop) : vc Try.prog TA none [] [(39, tl (atR l j).v), (44, tl (atR l (j + 1)).v), (45, tl (.bool (rmrg (atR l j) (atR l (j + 1)))))] (loopOf 12 Try.f29) (qk2_S l j) (LoopK (qk2_S l (j + 1)) X (qk2_O l j)) = ((decide (i64.wrap ((↑j : Int) + (1 : Int)) < (↑l.length : Int)) = true → ((0 : Int) ≤ (↑j : Int) ∧ (↑j : Int) < (↑l.length : Int)) ∧ (RL l).length = l.length * 6 ∧ 6 = 6 ∧ List.take 6 (List.drop 0 (List.drop ((↑j : Int).toNat * 6) (RL l))) = [int i64 (atR l j).start, int i64 (atR l j).pages, int i64 (atR l j).prot, int i64 (atR l j).flags, int i64 (atR l j).file, int i64 (atR l j).index] ∧ ((0 : Int) ≤ i64.wrap ((↑j : Int) + (1 : Int)) ∧ i64.wrap ((↑j : Int) + (1 : Int)) < (↑l.length : Int)) ∧ (RL l).length = l.length * 6 ∧ 6 = 6 ∧ List.take 6 (List.drop 0 (List.drop ((i64.wrap ((↑j : Int) + (1 : Int))).toNat * 6) (RL l))) = [int i64 (atR l (j + (1 : Nat))).start, int i64 (atR l (j + (1 : Nat))).pages, int i64 (atR l (j + (1 : Nat))).prot, int i64 (atR l (j + (1 : Nat))).flags, int i64 (atR l (j + (1 : Nat))).file, int i64 (atR l (j + (1 : Nat))).index] ∧ CallSem Try.prog 73 [(atR l j).v, (atR l (j + (1 : Nat))).v] [] 0 (bool (rmrg (atR l j) (atR l (j + (1 : Nat))))) [] [] ∧ (rmrg (atR l j) (atR l (j + (1 : Nat))) = true → (11 : Int) = (11 : Int) ∧ rc2 (List.drop j l) = true) ∧ (rmrg (atR l j) (atR l (j + (1 : Nat))) = false → l.length = l.length ∧ RL l = RL l ∧ PurL (RL l) ∧ i64.wrap ((↑j : Int) + (1 : Int)) = (↑(j + (1 : Nat)) : Int) ∧ X)) ∧ (decide (i64.wrap ((↑j : Int) + (1 : Int)) < (↑l.length : Int)) = false → l.length = l.length ∧ RL l = RL l ∧ PurL (RL l) ∧ rc2 (List.drop j l) = false)) := by kernel_rfl
theorem qk2_loop (l : List Rg) (hl : l.length ≤ 1073741824) (j : Nat) (hpsi : j ≤ l.length) : GW Try.prog none [] (.loop (loopOf 12 Try.f29)) (qk2_S l j) (OneOf (qk2_O l j)) := by
  refine GW.loopF mixedA tabA (β := Nat) (fun z_ => (fun j => qk2_S l j) z_) (fun z_ => (fun j => j ≤ l.length) z_) (fun z_ => (fun j => l.length - j) z_) (fun z_ => (fun j => j + 1) z_) (fun z_ => (fun j => qk2_O l j) z_) (fun z_ => (fun j => [(39, tl (atR l j).v), (44, tl (atR l (j + 1)).v), (45, tl (.bool (rmrg (atR l j) (atR l (j + 1)))))]) z_) ?_ j hpsi
  clear hpsi
  rintro j hpsi
  replace hpsi : j ≤ l.length := hpsi
  refine Eq.mpr (qk2_rd l j _) ?_
  have hw := wrap_succ (i := j) (by omega)
  rcases Nat.lt_or_ge (j + 1) l.length with hi | hi
  all_goals (try simp only [rc2_step hi])
  all_goals (try simp only [rc2_end hi])
  all_goals (simp only [hw])
  repeat' (first | exact rmrg_ps (atR l j) (atR l (j + 1)) _ | exact RL_pur _ | refine And.intro ?_ ?_ | (intro h_; first | (cases h_; done) | rw [h_] | (simp only [Bool.not_eq_true', Bool.not_eq_false'] at h_; rw [h_]) | skip))
  all_goals (try simp only [decide_eq_true_eq, decide_eq_false_iff_not, Bool.not_eq_true', Bool.not_eq_false'] at *)
  all_goals (first | exact RL_length _ | assumption | (simp only [Int.toNat_natCast, List.drop_zero]; exact RL_at (by omega)) | omega | (simp only [bsm]; done) | (rw [show qk2_O l j = qk2_O l (j + 1) from by unfold qk2_O; rw [rc2_step hi]; simp only [*, cond_false]]; assumption))
def rcF (t : Tr) : Int := bif rcheckF t != 0 then rcheckF t else bif rc1 (rlistF t) != 0 then rc1 (rlistF t) else bif rc2 (rlistF t) then 11 else bif decide (((rlistF t).length : Int) > 12) then 9 else 0
theorem rlistF_len {n : Nat} {t : Tr} (hn : (nodesF t).length ≤ n) : (rlistF t).length ≤ n := by
  unfold rlistF rregF
  cases rcheckF t != 0 <;> simp [hn]
theorem rc_ok : FnOK Try.prog 29 Try.f29 (bodyOf Try.f29) := ⟨Try.func29, rfl, rfl⟩
open Go.IntKind GV Ent in
theorem rc_vc (t : Tr) : vc Try.prog TA none [] [(9, tl (.int .i64 (rcheckF t))), (14, tl (Lv (rlistF t))), (100006, .loop (qk1_S (rlistF t) 0) (qk1_O (rlistF t) 0)), (100012, .loop (qk2_S (rlistF t) 0) (qk2_O (rlistF t) 0))] (bodyOf Try.f29) ⟨startT Try.f29 [t.v], []⟩ (Fin TA Try.f29 (.int .i64 (rcF t))) = (CallSem Try.prog 42 [t.v] [] 1 (int i64 (rcheckF t)) [] [] ∧ ((rcheckF t != (0 : Int)) = true → rcheckF t = rcF t ∧ True) ∧ ((rcheckF t != (0 : Int)) = false → CallSem Try.prog 41 [t.v] [] 1 (im (rlistF t).length (RL (rlistF t))) [] [] ∧ (rlistF t).length = (rlistF t).length ∧ RL (rlistF t) = RL (rlistF t) ∧ PurL (RL (rlistF t)) ∧ (0 : Int) = (0 : Int) ∧ GW Try.prog none [] (loopOf (6 : Nat) Try.f29).loop (qk1_S (rlistF t) (0 : Nat)) (OneOf (qk1_O (rlistF t) (0 : Nat))) ∧ ((rc1 (List.drop 0 (rlistF t)) != (0 : Int)) = true → rc1 (List.drop 0 (rlistF t)) = rcF t ∧ True) ∧ ((rc1 (List.drop 0 (rlistF t)) != (0 : Int)) = false → (rlistF t).length = (rlistF t).length ∧ RL (rlistF t) = RL (rlistF t) ∧ PurL (RL (rlistF t)) ∧ (0 : Int) = (0 : Int) ∧ GW Try.prog none [] (loopOf (12 : Nat) Try.f29).loop (qk2_S (rlistF t) (0 : Nat)) (OneOf (qk2_O (rlistF t) (0 : Nat))) ∧ (rc2 (List.drop 0 (rlistF t)) = true → (11 : Int) = rcF t ∧ True) ∧ (rc2 (List.drop 0 (rlistF t)) = false → (decide ((↑(rlistF t).length : Int) > (12 : Int)) = true → (9 : Int) = rcF t ∧ True) ∧ (decide ((↑(rlistF t).length : Int) > (12 : Int)) = false → (0 : Int) = rcF t ∧ True)) ∧ True) ∧ True)) := by kernel_rfl
theorem rc_ps (t : Tr) (hn : (nodesF t).length ≤ 1073741824) : PS Try.prog 29 [t.v] (.int .i64 (rcF t)) := by
  refine .of_vcN mixedA tabA rc_ok (by repeat' (first | exact trivial | exact Tr.pur _ | refine And.intro ?_ ?_)) (rc_vc t) ?_
  try simp only [rcF, List.drop_zero]
  repeat' (first | exact rcheck_ps t hn _ | exact rlist_ps t hn _ | exact (qk1_loop (rlistF t) (rlistF_len hn) 0 (Nat.zero_le _)) | exact (qk2_loop (rlistF t) (rlistF_len hn) 0 (Nat.zero_le _)) | exact RL_pur _ | refine And.intro ?_ ?_ | (intro h_; first | (cases h_; done) | rw [h_] | (simp only [Bool.not_eq_true', Bool.not_eq_false'] at h_; rw [h_]) | skip))
  all_goals (first | exact trivial | (simp only [bsm]; done))
def rlsF (t : Tr) : List Rg := bif rcF t != 0 then [] else rlistF t
end Go.Proofs.Ytalcipbagidbpaa
end

section
set_option linter.unusedVariables false
namespace Go.Proofs.Ytalcipbagidbpaa
open Go.Proofs
def rfnL (p : Int) : List Rg → Rg × Bool
  | [] => (zR, false)
  | r :: rs => bif rhas r p then (r, true) else rfnL p rs
def rfindF (t : Tr) (p : Int) : Rg × Bool := rfnL p (rlsF t)
def rcvN (t : Tr) : Nat → Int → Bool
  | 0, _ => true
  | n + 1, p => bif !(rfindF t p).2 then false else rcvN t n (p + 1)
def rnS (out : List Rg) (x : Rg) : List Rg := bif decide ((out.length : Int) > 0) && rmrg (atR out (out.length - 1)) x then out.set (out.length - 1) (rmerge (atR out (out.length - 1)) x).1 else out ++ [x]
theorem rnS_len (out : List Rg) (x : Rg) : (rnS out x).length ≤ out.length + 1 := by
  unfold rnS
  cases decide ((out.length : Int) > 0) && rmrg (atR out (out.length - 1)) x <;> simp
def rnrm (l : List Rg) : List Rg := l.foldl rnS []
theorem rnrm_len (l : List Rg) : (rnrm l).length ≤ l.length := by have := foldl_len rnS_len l []; simpa [rnrm] using this
/-- That a list can be inserted into a tree. -/
def RBOK : List Rg → Tr → Prop
  | [], _ => True
  | r :: rs, t => RInsOK r t ∧ RBOK rs (rinsF t r)
def rbuildF (l : List Rg) : Tr × Int := bif listedF l != 0 then (zT, listedF l) else (l.foldl rinsF zT, 0)
def rtreeF (l : List Rg) : Tr × Int := bif decide (((rnrm l).length : Int) > 12) then (zT, 9) else ((rbuildF (rnrm l)).1, 0)
end Go.Proofs.Ytalcipbagidbpaa
end

section
set_option linter.unusedVariables false
namespace Go.Proofs.Ytalcipbagidbpaa
open Go.Proofs
def rmO (r : Rg) : List Rg → Bool
  | [] => false
  | x :: xs => bif rovF x r then true else rmO r xs
def rmD (r : Rg) (d : Bool) (x : Rg) : Bool := bif !d then (bif decide (r.start < x.start) then true else d) else d
def rmI (r : Rg) (d : Bool) (x : Rg) (out : List Rg) : List Rg := bif !d then (bif decide (r.start < x.start) then (out ++ [r]) ++ [x] else out ++ [x]) else out ++ [x]
def rmL (r : Rg) : List Rg → Bool → List Rg → List Rg
  | [], d, out => bif !d then out ++ [r] else out
  | x :: xs, d, out => rmL r xs (rmD r d x) (rmI r d x out)
def rinL (t : Tr) (r : Rg) : List Rg := rmL r (rlsF t) false []
def rmapF (t : Tr) (r : Rg) : Tr × Int := bif rcF t != 0 then (zT, rcF t) else bif rchk r != 0 then (zT, rchk r) else bif rmO r (rlsF t) then (zT, 7) else rtreeF (rinL t r)
def plR (p n : Int) : Rg := ⟨p, n, 1, 0, -1, 0⟩
def rplN (t : Tr) (n : Int) : Nat → Int → Int
  | 0, _ => -1
  | k + 1, p => bif (rmapF t (plR p n)).2 != 7 then p else rplN t n k (p + 1)
def rplaceF (t : Tr) (n : Int) : Int := bif (rcF t != 0) || (decide (n < 1) || decide (n > 512)) then -1 else rplN t n (512 - n + 1).toNat 0
def rumL (t : Tr) (pg c : Int) : List Rg := (rlsF t).flatMap fun r => rcutL r pg c
def rumF (t : Tr) (pg c : Int) : Tr × Int := bif rcF t != 0 then (zT, rcF t) else bif rwiF pg c != 0 then (zT, rwiF pg c) else rtreeF (rumL t pg c)
end Go.Proofs.Ytalcipbagidbpaa
end

section
set_option linter.unusedVariables false
set_option maxHeartbeats 1000000
namespace Go.Proofs.Ytalcipbagidbpaa
open Go.Proofs
def pcR (r : Rg) (p : Int) : Rg := bif decide (p > r.start) then rspl2 r p else r
def pcL (r : Rg) (p c : Int) : List Rg := (bif decide (p > r.start) then [rspl1 r p] else []) ++ (bif decide (w64 (p + c) < w64 ((pcR r p).start + (pcR r p).pages)) then [rspl1 (pcR r p) (w64 (p + c)), rspl2 (pcR r p) (w64 (p + c))] else [pcR r p])
def pcN (r : Rg) (p : Int) : Nat := bif decide (p > r.start) then 1 else 0
end Go.Proofs.Ytalcipbagidbpaa
end

section
set_option linter.unusedVariables false
set_option maxHeartbeats 1000000
namespace Go.Proofs.Ytalcipbagidbpaa
open Go.Proofs
def md (pr : Int) (on : Bool) (r : Rg) : Rg := bif decide (pr > 0) then { r with prot := pr } else bif on then { r with flags := w64 (r.flags + 4) } else { r with flags := w64 (r.flags - 4) }
def rmd (pr : Int) (on : Bool) (r : Rg) (pg c : Int) : List Rg := (pcL r pg c).set (pcN r pg) (md pr on (atR (pcL r pg c) (pcN r pg)))
def rskA (pr : Int) (on : Bool) (pg c : Int) (r : Rg) : Bool := decide (w64 (r.start + r.pages) ≤ pg) || (decide (w64 (pg + c) ≤ r.start) || ((decide (pr > 0) && (r.prot == pr)) || ((pr == 0) && (((w64 (r.flags.tdiv 4)).tmod 2 == 1) == on))))
def rcgE (pr : Int) (on : Bool) (pg c : Int) (r : Rg) : List Rg := bif rskA pr on pg c r then [r] else rmd pr on r pg c
end Go.Proofs.Ytalcipbagidbpaa
end

section
set_option linter.unusedVariables false
set_option maxHeartbeats 1000000
namespace Go.Proofs.Ytalcipbagidbpaa
open Go.Proofs
def rcgL (pr : Int) (on : Bool) (l : List Rg) (pg c : Int) : List Rg := l.flatMap (rcgE pr on pg c)
theorem rwi_range {p c : Int} (h : (rwiF p c != 0) = false) : 0 ≤ p ∧ p + c ≤ 512 ∧ 0 ≤ c := by
  unfold rwiF at h
  cases h2 : decide (c < 1) with
  | true => rw [h2] at h; cases h
  | false =>
    rw [h2, cond_false] at h
    cases h3 : decide (p < 0) || (decide (c > 512) || decide (p > w64 (512 - c))) with
    | true => rw [h3] at h; cases h
    | false =>
      simp only [Bool.or_eq_false_iff, decide_eq_false_iff_not] at h3
      have h4 := of_decide_eq_false h2
      have h5 : w64 (512 - c) = 512 - c := wrap_id (by omega) (by omega)
      rw [h5] at h3
      omega
def rproF (t : Tr) (p c pr : Int) : Tr × Int := bif rcF t != 0 then (zT, rcF t) else bif rwiF p c != 0 then (zT, rwiF p c) else bif (pr != 1) && (pr != 3) then (zT, 1) else bif !rcvN t c.toNat p then (zT, 13) else rtreeF (rcgL pr false (rlsF t) p c)
def rgF (pg : Int) (l : List Rg) : List Rg → Nat → Tr × Int
  | [], _ => (zT, 13)
  | x :: xs, i => bif decide (x.start < pg) then rgF pg l xs (i + 1) else bif ((w64 (x.flags.tdiv 2)).tmod 2 == 0) then (zT, 13) else rtreeF (l.set i (grR x pg))
def rgrowF (t : Tr) (pg : Int) : Tr × Int := bif rcF t != 0 then (zT, rcF t) else bif decide (pg < 0) || decide (pg ≥ 512) then (zT, 2) else bif (rfindF t pg).2 then (zT, 7) else bif (rfindF t (w64 (pg - 1))).2 then (zT, 13) else rgF pg (rlsF t) (rlsF t) 0
end Go.Proofs.Ytalcipbagidbpaa
end

section
set_option linter.unusedVariables false
namespace Go.Proofs.Ytalcipbagidbpaa
open Go.Proofs
/-! ### Heights -/
inductive Good : Tr → Prop
  | leaf : Good zT
  | node {a b : Tr} (x : Rg) (ha : Good a) (hb : Good b) (h1 : a.h ≤ b.h + 1) (h2 : b.h ≤ a.h + 1) : Good (nodeF a x b)
theorem sz_nodeF (a b : Tr) (x : Rg) : (nodeF a x b).sz = 1 + a.sz + b.sz := by rw [nodeF, Tr.sz_two]
theorem h_nodeF (a b : Tr) (x : Rg) : (nodeF a x b).h = w64 (1 + imax a.h b.h) := rfl
theorem r_nodeF (a b : Tr) (x : Rg) : (nodeF a x b).r = x := rfl
theorem kids_nodeF (a b : Tr) (x : Rg) : (nodeF a x b).kids = [a, b] := rfl
theorem k0_nodeF (a b : Tr) (x : Rg) : k0 (nodeF a x b) = a := rfl
theorem k1_nodeF (a b : Tr) (x : Rg) : k1 (nodeF a x b) = b := rfl
theorem Two_nodeF (a b : Tr) (x : Rg) : Two (nodeF a x b) := ⟨a, b, rfl⟩
theorem sz_zT : zT.sz = 0 := by rw [zT, Tr.sz]; simp
theorem h_zT : zT.h = 0 := rfl
def BIG : Nat := 1000000000
theorem Good.h_le {t : Tr} (hg : Good t) : t.sz ≤ BIG → 0 ≤ t.h ∧ t.h ≤ t.sz := by
  induction hg with
  | leaf => intro _; rw [sz_zT, h_zT]; simp
  | node x ha hb h1 h2 iha ihb =>
    intro hs
    rw [sz_nodeF] at hs ⊢
    have := iha (by omega)
    have := ihb (by omega)
    rw [h_nodeF]
    unfold BIG at hs
    unfold imax
    split
    · rw [show w64 _ = _ from wrap_id (by omega) (by omega)]; omega
    · rw [show w64 _ = _ from wrap_id (by omega) (by omega)]; omega
/-- The height of a node of two good trees. -/
theorem h_node {a b : Tr} (ha : Good a) (hb : Good b) (hs : 1 + a.sz + b.sz ≤ BIG) (x : Rg) : (nodeF a x b).h = 1 + imax a.h b.h := by
  have h1 := ha.h_le (by omega)
  have h2 := hb.h_le (by omega)
  rw [h_nodeF]
  unfold BIG at hs
  unfold imax
  split
  · exact wrap_id (by omega) (by omega)
  · exact wrap_id (by omega) (by omega)
theorem imax_def (a b : Int) : imax a b = max a b := by unfold imax; omega
theorem Good.inv {t : Tr} (hg : Good t) (hs : t.sz ≤ BIG) : t = zT ∨ ∃ a x b, t = nodeF a x b ∧ Good a ∧ Good b ∧ a.h ≤ b.h + 1 ∧ b.h ≤ a.h + 1 ∧ t.sz = 1 + a.sz + b.sz ∧ t.h = 1 + max a.h b.h ∧ 0 ≤ a.h ∧ 0 ≤ b.h := by
  cases hg with
  | leaf => exact .inl rfl
  | node x ha hb h1 h2 =>
    rw [sz_nodeF] at hs
    exact .inr ⟨_, x, _, rfl, ha, hb, h1, h2, sz_nodeF _ _ _, by rw [h_node ha hb hs, imax_def], (ha.h_le (by omega)).1, (hb.h_le (by omega)).1⟩
theorem Good.inv' {t : Tr} (hg : Good t) (hs : t.sz ≤ BIG) (h0 : t.h ≠ 0) : ∃ a x b, t = nodeF a x b ∧ Good a ∧ Good b ∧ a.h ≤ b.h + 1 ∧ b.h ≤ a.h + 1 ∧ t.sz = 1 + a.sz + b.sz ∧ t.h = 1 + max a.h b.h ∧ 0 ≤ a.h ∧ 0 ≤ b.h := by
  rcases hg.inv hs with rfl | h
  · exact absurd rfl h0
  · exact h
/-! ### join -/
theorem dT {p : Prop} [Decidable p] (h : p) : decide p = true := decide_eq_true h
theorem dF {p : Prop} [Decidable p] (h : ¬ p) : decide p = false := decide_eq_false h
theorem w_h {t : Tr} (hg : Good t) (hs : t.sz ≤ BIG) : w64 (t.h + 1) = t.h + 1 := by
  have := hg.h_le hs
  unfold BIG at hs
  exact wrap_id (by omega) (by omega)
structure JoinR (l : Tr) (x : Rg) (r : Tr) : Prop where
  ok : JoinOK l r
  good : Good (joinF l x r)
  sz : (joinF l x r).sz = 1 + l.sz + r.sz
  lo : max l.h r.h ≤ (joinF l x r).h
  hi : (joinF l x r).h ≤ 1 + max l.h r.h
  eq : l.h ≤ r.h + 1 → r.h ≤ l.h + 1 → (joinF l x r).h = 1 + max l.h r.h
theorem joinR_of {l r : Tr} (hl : Good l) (hr : Good r) (x : Rg) (hs : 1 + l.sz + r.sz ≤ BIG) (h1 : l.h ≤ r.h + 2) (h2 : r.h ≤ l.h + 2) : JoinR l x r := by
  have wl := w_h hl (by omega)
  have wr := w_h hr (by omega)
  have bl := hl.h_le (by omega)
  have br := hr.h_le (by omega)
  by_cases c1 : l.h > r.h + 1
  · -- the left one is higher
    obtain ⟨a, y, b, rfl, ha, hb, hab, hba, hsz, hh, h0a, h0b⟩ := hl.inv' (by omega) (by omega)
    have d1 : decide ((nodeF a y b).h > w64 (r.h + 1)) = true := by rw [wr]; exact dT c1
    by_cases c2 : a.h ≥ b.h
    · have d2 : decide ((k0 (nodeF a y b)).h ≥ (k1 (nodeF a y b)).h) = true := dT c2
      have e : joinF (nodeF a y b) x r = nodeF a y (nodeF b x r) := by unfold joinF; rw [d1, cond_true, d2]; rfl
      have hi := h_node hb hr (by omega) x
      rw [imax_def] at hi
      have gi : Good (nodeF b x r) := .node x hb hr (by omega) (by omega)
      have ho := h_node ha gi (by rw [sz_nodeF]; omega) y
      rw [imax_def] at ho
      refine ⟨⟨fun _ => ⟨Two_nodeF _ _ _, (fun h => by rw [d2] at h; cases h)⟩, (fun h => by rw [d1] at h; cases h)⟩, ?_, ?_, ?_, ?_, fun h => by omega⟩
      · rw [e]; exact .node y ha gi (by omega) (by omega)
      · rw [e, sz_nodeF, sz_nodeF]; omega
      · rw [e]; omega
      · rw [e]; omega
    · have d2 : decide ((k0 (nodeF a y b)).h ≥ (k1 (nodeF a y b)).h) = false := dF c2
      obtain ⟨c, z, d, rfl, hc, hd, hcd, hdc, hsz2, hh2, h0c, h0d⟩ := hb.inv' (by omega) (by omega)
      have e : joinF (nodeF a y (nodeF c z d)) x r = nodeF (nodeF a y c) z (nodeF d x r) := by unfold joinF; rw [d1, cond_true, d2]; rfl
      have hi := h_node ha hc (by omega) y
      have hj := h_node hd hr (by omega) x
      rw [imax_def] at hi hj
      have gi : Good (nodeF a y c) := .node y ha hc (by omega) (by omega)
      have gj : Good (nodeF d x r) := .node x hd hr (by omega) (by omega)
      have ho := h_node gi gj (by rw [sz_nodeF, sz_nodeF]; omega) z
      rw [imax_def] at ho
      refine ⟨⟨fun _ => ⟨Two_nodeF _ _ _, fun h => Two_nodeF _ _ _⟩, (fun h => by rw [d1] at h; cases h)⟩, ?_, ?_, ?_, ?_, fun h => by omega⟩
      · rw [e]; exact .node z gi gj (by omega) (by omega)
      · rw [e, sz_nodeF, sz_nodeF, sz_nodeF]; omega
      · rw [e]; omega
      · rw [e]; omega
  · have d1 : decide (l.h > w64 (r.h + 1)) = false := by rw [wr]; exact dF c1
    by_cases c2 : r.h > l.h + 1
    · obtain ⟨a, y, b, rfl, ha, hb, hab, hba, hsz, hh, h0a, h0b⟩ := hr.inv' (by omega) (by omega)
      have d2 : decide ((nodeF a y b).h > w64 (l.h + 1)) = true := by rw [wl]; exact dT c2
      by_cases c3 : b.h ≥ a.h
      · have d3 : decide ((k1 (nodeF a y b)).h ≥ (k0 (nodeF a y b)).h) = true := dT c3
        have e : joinF l x (nodeF a y b) = nodeF (nodeF l x a) y b := by unfold joinF; rw [d1, cond_false, d2, cond_true, d3]; rfl
        have hi := h_node hl ha (by omega) x
        rw [imax_def] at hi
        have gi : Good (nodeF l x a) := .node x hl ha (by omega) (by omega)
        have ho := h_node gi hb (by rw [sz_nodeF]; omega) y
        rw [imax_def] at ho
        refine ⟨⟨(fun h => by rw [d1] at h; cases h), fun _ _ => ⟨Two_nodeF _ _ _, (fun h => by rw [d3] at h; cases h)⟩⟩, ?_, ?_, ?_, ?_, fun h => by omega⟩
        · rw [e]; exact .node y gi hb (by omega) (by omega)
        · rw [e, sz_nodeF, sz_nodeF]; omega
        · rw [e]; omega
        · rw [e]; omega
      · have d3 : decide ((k1 (nodeF a y b)).h ≥ (k0 (nodeF a y b)).h) = false := dF c3
        obtain ⟨c, z, d, rfl, hc, hd, hcd, hdc, hsz2, hh2, h0c, h0d⟩ := ha.inv' (by omega) (by omega)
        have e : joinF l x (nodeF (nodeF c z d) y b) = nodeF (nodeF l x c) z (nodeF d y b) := by unfold joinF; rw [d1, cond_false, d2, cond_true, d3]; rfl
        have hi := h_node hl hc (by omega) x
        have hj := h_node hd hb (by omega) y
        rw [imax_def] at hi hj
        have gi : Good (nodeF l x c) := .node x hl hc (by omega) (by omega)
        have gj : Good (nodeF d y b) := .node y hd hb (by omega) (by omega)
        have ho := h_node gi gj (by rw [sz_nodeF, sz_nodeF]; omega) z
        rw [imax_def] at ho
        refine ⟨⟨(fun h => by rw [d1] at h; cases h), fun _ _ => ⟨Two_nodeF _ _ _, fun h => Two_nodeF _ _ _⟩⟩, ?_, ?_, ?_, ?_, fun h => by omega⟩
        · rw [e]; exact .node z gi gj (by omega) (by omega)
        · rw [e, sz_nodeF, sz_nodeF, sz_nodeF]; omega
        · rw [e]; omega
        · rw [e]; omega
    · have d2 : decide (r.h > w64 (l.h + 1)) = false := by rw [wl]; exact dF c2
      have e : joinF l x r = nodeF l x r := by unfold joinF; rw [d1, cond_false, d2, cond_false]
      have ho := h_node hl hr hs x
      rw [imax_def] at ho
      refine ⟨⟨(fun h => by rw [d1] at h; cases h), (fun _ h => by rw [d2] at h; cases h)⟩, ?_, ?_, ?_, ?_, fun _ _ => ?_⟩
      · rw [e]; exact .node x hl hr (by omega) (by omega)
      · rw [e, sz_nodeF]
      · rw [e]; omega
      · rw [e]; omega
      · rw [e]; omega
/-- The two texts' nodes are the same. -/
theorem node_eq {a b : Tr} (ha : 0 ≤ a.h) (hb : 0 ≤ b.h) (x : Rg) : rnodeF a x b = nodeF a x b := by
  have e1 : (a.h != 0) = decide (a.h > 0) := by rw [Bool.eq_iff_iff]; simp; omega
  have e2 : (b.h != 0) = decide (b.h > 0) := by rw [Bool.eq_iff_iff]; simp; omega
  unfold rnodeF nodeF
  rw [e1, e2]
  simp only [Bool.cond_decide]
theorem joinF_eq {l r : Tr} (hl : Good l) (hr : Good r) (x : Rg) (hs : 1 + l.sz + r.sz ≤ BIG) (h1 : l.h ≤ r.h + 2) (h2 : r.h ≤ l.h + 2) : rbalF l x r = joinF l x r := by
  have wl := w_h hl (by omega)
  have wr := w_h hr (by omega)
  have bl := hl.h_le (by omega)
  have br := hr.h_le (by omega)
  unfold rbalF joinF
  by_cases c1 : l.h > r.h + 1
  · have d1 : decide (l.h > w64 (r.h + 1)) = true := by rw [wr]; exact dT c1
    obtain ⟨a, y, b, rfl, ha, hb, hab, hba, hsz, hh, h0a, h0b⟩ := hl.inv' (by omega) (by omega)
    rw [d1, cond_true, cond_true]
    by_cases c2 : a.h ≥ b.h
    · have d2 : decide ((k0 (nodeF a y b)).h ≥ (k1 (nodeF a y b)).h) = true := dT c2
      rw [d2, cond_true, cond_true, k0_nodeF, k1_nodeF, r_nodeF]
      have hi := h_node hb hr (by omega) x
      rw [imax_def] at hi
      rw [node_eq h0b br.1, node_eq h0a (by omega)]
    · have d2 : decide ((k0 (nodeF a y b)).h ≥ (k1 (nodeF a y b)).h) = false := dF c2
      obtain ⟨c, z, d, rfl, hc, hd, hcd, hdc, hsz2, hh2, h0c, h0d⟩ := hb.inv' (by omega) (by omega)
      have hi := h_node ha hc (by omega) y
      have hj := h_node hd hr (by omega) x
      rw [imax_def] at hi hj
      rw [d2, cond_false, cond_false, k0_nodeF, k1_nodeF, r_nodeF, k0_nodeF, k1_nodeF, r_nodeF, node_eq h0a h0c, node_eq h0d br.1, node_eq (by omega) (by omega)]
  · have d1 : decide (l.h > w64 (r.h + 1)) = false := by rw [wr]; exact dF c1
    rw [d1, cond_false, cond_false]
    by_cases c2 : r.h > l.h + 1
    · have d2 : decide (r.h > w64 (l.h + 1)) = true := by rw [wl]; exact dT c2
      obtain ⟨a, y, b, rfl, ha, hb, hab, hba, hsz, hh, h0a, h0b⟩ := hr.inv' (by omega) (by omega)
      rw [d2, cond_true, cond_true]
      by_cases c3 : b.h ≥ a.h
      · have d3 : decide ((k1 (nodeF a y b)).h ≥ (k0 (nodeF a y b)).h) = true := dT c3
        have hi := h_node hl ha (by omega) x
        rw [imax_def] at hi
        rw [d3, cond_true, cond_true, k0_nodeF, k1_nodeF, r_nodeF, node_eq bl.1 h0a, node_eq (by omega) h0b]
      · have d3 : decide ((k1 (nodeF a y b)).h ≥ (k0 (nodeF a y b)).h) = false := dF c3
        obtain ⟨c, z, d, rfl, hc, hd, hcd, hdc, hsz2, hh2, h0c, h0d⟩ := ha.inv' (by omega) (by omega)
        have hi := h_node hl hc (by omega) x
        have hj := h_node hd hb (by omega) y
        rw [imax_def] at hi hj
        rw [d3, cond_false, cond_false, k0_nodeF, k1_nodeF, r_nodeF, k0_nodeF, k1_nodeF, r_nodeF, node_eq bl.1 h0c, node_eq h0d h0b, node_eq (by omega) (by omega)]
    · have d2 : decide (r.h > w64 (l.h + 1)) = false := by rw [wl]; exact dF c2
      rw [d2, cond_false, cond_false, node_eq bl.1 br.1]
end Go.Proofs.Ytalcipbagidbpaa
end

section
set_option linter.unusedVariables false
namespace Go.Proofs.Ytalcipbagidbpaa
open Go.Proofs
theorem insF_node {a b : Tr} {x r : Rg} (h0 : (nodeF a x b).h ≠ 0) : insF (nodeF a x b) r = bif decide (r.start < x.start) then joinF (insF a r) x b else joinF a x (insF b r) := by
  have h : ((nodeF a x b).h == 0) = false := by simpa using h0
  rw [h_nodeF] at h
  unfold nodeF
  rw [insF_two]
  show (bif (w64 (1 + imax a.h b.h) == 0) then _ else _) = _
  rw [h]; rfl
theorem rinsF_node {a b : Tr} {x r : Rg} (h0 : (nodeF a x b).h ≠ 0) : rinsF (nodeF a x b) r = bif decide (r.start < x.start) then rbalF (rinsF a r) x b else rbalF a x (rinsF b r) := by
  have h : ((nodeF a x b).h == 0) = false := by simpa using h0
  rw [h_nodeF] at h
  unfold nodeF
  rw [rinsF_two]
  show (bif (w64 (1 + imax a.h b.h) == 0) then _ else _) = _
  rw [h]; rfl
structure InsR (r : Rg) (t : Tr) : Prop where
  ok : InsOK r t
  rok : RInsOK r t
  good : Good (insF t r)
  sz : (insF t r).sz = t.sz + 1
  lo : t.h ≤ (insF t r).h
  hi : (insF t r).h ≤ t.h + 1
  eq : rinsF t r = insF t r
theorem good_one (r : Rg) : Good (nodeF zT r zT) := .node r .leaf .leaf (by decide) (by decide)
theorem insR_of (r : Rg) {t : Tr} (hg : Good t) : t.sz + 1 ≤ BIG → InsR r t := by
  induction hg with
  | leaf =>
    intro hs
    have e : insF zT r = nodeF zT r zT := insF_zero zT r rfl
    have e2 : rinsF zT r = rnodeF zT r zT := rinsF_zero zT r rfl
    have hh := h_node .leaf .leaf (by rw [sz_zT]; decide) r
    rw [imax_def, h_zT] at hh
    refine ⟨.zero rfl, .zero rfl, e ▸ good_one r, ?_, ?_, ?_, ?_⟩
    · rw [e, sz_nodeF, sz_zT]
    · rw [e, hh, h_zT]; decide
    · rw [e, hh, h_zT]; decide
    · rw [e, e2, node_eq (Int.le_refl _) (Int.le_refl _)]
  | @node a b x ha hb h1 h2 iha ihb =>
    intro hs
    rw [sz_nodeF] at hs
    have hh := h_node ha hb (by omega) x
    rw [imax_def] at hh
    have la := ha.h_le (by omega)
    have lb := hb.h_le (by omega)
    have h0 : (nodeF a x b).h ≠ 0 := by omega
    have h0' : ((nodeF a x b).h == 0) = false := by simpa using h0
    by_cases c : r.start < x.start
    · have ia := iha (by omega)
      have hj := joinR_of ia.good hb x (by rw [ia.sz]; omega) (by have := ia.hi; omega) (by have := ia.lo; omega)
      have e : insF (nodeF a x b) r = joinF (insF a r) x b := by rw [insF_node h0, dT c, cond_true]
      have e2 : rinsF (nodeF a x b) r = joinF (insF a r) x b := by
        rw [rinsF_node h0, dT c, cond_true, ia.eq]
        exact joinF_eq ia.good hb x (by rw [ia.sz]; omega) (by have := ia.hi; omega) (by have := ia.lo; omega)
      refine ⟨.lt h0' (dT c) ia.ok hj.ok, .lt h0' (dT c) ia.rok (by rw [ia.eq]; exact hj.ok), e ▸ hj.good, ?_, ?_, ?_, by rw [e, e2]⟩
      · rw [e, hj.sz, ia.sz, sz_nodeF]; omega
      · have := ia.lo; have := ia.hi; have := hj.lo; have := hj.hi; have := hj.eq; rw [e]; omega
      · have := ia.lo; have := ia.hi; have := hj.lo; have := hj.hi; have := hj.eq; rw [e]; omega
    · have ib := ihb (by omega)
      have hj := joinR_of ha ib.good x (by rw [ib.sz]; omega) (by have := ib.lo; omega) (by have := ib.hi; omega)
      have e : insF (nodeF a x b) r = joinF a x (insF b r) := by rw [insF_node h0, dF c, cond_false]
      have e2 : rinsF (nodeF a x b) r = joinF a x (insF b r) := by
        rw [rinsF_node h0, dF c, cond_false, ib.eq]
        exact joinF_eq ha ib.good x (by rw [ib.sz]; omega) (by have := ib.lo; omega) (by have := ib.hi; omega)
      refine ⟨.ge h0' (dF c) ib.ok hj.ok, .ge h0' (dF c) ib.rok (by rw [ib.eq]; exact hj.ok), e ▸ hj.good, ?_, ?_, ?_, by rw [e, e2]⟩
      · rw [e, hj.sz, ib.sz, sz_nodeF]; omega
      · have := ib.lo; have := ib.hi; have := hj.lo; have := hj.hi; have := hj.eq; rw [e]; omega
      · have := ib.lo; have := ib.hi; have := hj.lo; have := hj.hi; have := hj.eq; rw [e]; omega
/-! ### The regions of a tree -/
def lst (t : Tr) : List Rg := (nodesF t).map Tr.r
theorem lst_zT : lst zT = [] := by unfold lst; rw [nodesF_zero rfl]; rfl
theorem lst_node {a b : Tr} {x : Rg} (h0 : (nodeF a x b).h ≠ 0) : lst (nodeF a x b) = lst a ++ x :: lst b := by
  have h : ((nodeF a x b).h == 0) = false := by simpa using h0
  rw [h_nodeF] at h
  unfold lst nodeF
  rw [nodesF_two]
  show List.map Tr.r (bif (w64 (1 + imax a.h b.h) == 0) then _ else _) = _
  rw [h]
  simp [Tr.r]
theorem lst_nodeG {a b : Tr} (ha : Good a) (hb : Good b) (hs : 1 + a.sz + b.sz ≤ BIG) (x : Rg) : lst (nodeF a x b) = lst a ++ x :: lst b := by
  have hh := h_node ha hb hs x
  rw [imax_def] at hh
  have la := ha.h_le (by omega)
  exact lst_node (by omega)
end Go.Proofs.Ytalcipbagidbpaa
end

section
set_option linter.unusedVariables false
namespace Go.Proofs.Ytalcipbagidbpaa
open Go.Proofs
/-! ### Building -/
structure BldR (l : List Rg) (t : Tr) : Prop where
  rok : RBOK l t
  ok : ∀ last, BldOK l last t
  good : Good (l.foldl insF t)
  sz : (l.foldl insF t).sz = t.sz + l.length
  eq : l.foldl rinsF t = l.foldl insF t
theorem bldR_of : ∀ (l : List Rg) {t : Tr}, Good t → t.sz + l.length ≤ BIG → BldR l t
  | [], t, hg, hs => ⟨trivial, fun _ => trivial, hg, rfl, rfl⟩
  | r :: rs, t, hg, hs => by
    simp only [List.length_cons] at hs
    have hi := insR_of r hg (by omega)
    have ih := bldR_of rs hi.good (by rw [hi.sz]; omega)
    refine ⟨⟨hi.rok, by rw [hi.eq]; exact ih.rok⟩, fun last _ => ⟨hi.ok, ih.ok _⟩, ih.good, ?_, ?_⟩
    · rw [List.foldl_cons, ih.sz, hi.sz, List.length_cons]; omega
    · rw [List.foldl_cons, List.foldl_cons, hi.eq, ih.eq]
theorem bld0 {l : List Rg} (hs : l.length ≤ BIG) : BldR l zT := bldR_of l .leaf (by rw [sz_zT]; omega)
/-- A region within the address space. -/
def Vd (r : Rg) : Prop := 0 ≤ r.start ∧ 1 ≤ r.pages ∧ r.start + r.pages ≤ 512
theorem validF_iff {r : Rg} : validF r = true ↔ Vd r := by
  unfold validF Vd
  simp only [Bool.and_eq_true, decide_eq_true_eq]
  constructor
  · rintro ⟨h1, h2, h3, h4⟩
    rw [wrap_id (by omega) (by omega)] at h4
    omega
  · rintro ⟨h1, h2, h3⟩
    rw [wrap_id (by omega) (by omega)]
    omega
theorem Vd.end {r : Rg} (h : Vd r) : r.end = r.start + r.pages := by unfold Rg.end Vd at *; exact wrap_id (by omega) (by omega)
/-- One lies before the other. -/
def Bef (a b : Rg) : Prop := a.start + a.pages ≤ b.start
def Ord (l : List Rg) : Prop := (∀ r ∈ l, Vd r) ∧ l.Pairwise Bef
theorem Ord.tail {a : Rg} {l : List Rg} (h : Ord (a :: l)) : Ord l := ⟨fun r hr => h.1 r (by simp [hr]), (List.pairwise_cons.1 h.2).2⟩
theorem Ord.head {a : Rg} {l : List Rg} (h : Ord (a :: l)) : Vd a ∧ ∀ b ∈ l, Bef a b := ⟨h.1 a (by simp), (List.pairwise_cons.1 h.2).1⟩
theorem rl1_iff : ∀ {l : List Rg}, rl1 l = true ↔ ∀ r ∈ l, Vd r
  | [] => by simp [rl1]
  | a :: l => by
    rw [rl1]
    cases h : validF a with
    | true =>
      rw [cond_true, rl1_iff]
      have := validF_iff.1 h
      simp [this]
    | false =>
      simp only [cond_false, Bool.false_eq_true, List.mem_cons, forall_eq_or_imp, false_iff]
      rintro ⟨h1, _⟩
      rw [validF_iff.2 h1] at h
      cases h
theorem rl2_iff : ∀ {l : List Rg}, (∀ r ∈ l, Vd r) → (rl2 l = true ↔ l.Pairwise Bef)
  | [], _ => by simp [rl2]
  | [a], _ => by simp [rl2]
  | a :: b :: l, hv => by
    have ha := hv a (by simp)
    have hb := hv b (by simp)
    have ih := rl2_iff (l := b :: l) (fun r hr => hv r (by simp [hr]))
    rw [rl2, ha.end]
    by_cases c : b.start < a.start + a.pages
    · rw [dT c, cond_true]
      simp only [Bool.false_eq_true, List.pairwise_cons, List.mem_cons, forall_eq_or_imp, false_iff]
      rintro ⟨⟨h1, _⟩, _⟩
      unfold Bef at h1
      omega
    · rw [dF c, cond_false, ih, List.pairwise_cons (a := a) (l := b :: l)]
      constructor
      · intro h
        refine ⟨fun y hy => ?_, h⟩
        rcases List.mem_cons.1 hy with rfl | hy
        · unfold Bef; omega
        · have := (List.pairwise_cons.1 h).1 y hy
          unfold Bef Vd at *
          omega
      · exact fun h => h.2
theorem listed_iff {l : List Rg} : listedF l = 0 ↔ Ord l := by
  unfold listedF Ord
  cases h1 : rl1 l with
  | false =>
    simp only [cond_false]
    constructor
    · intro h; cases h
    · rintro ⟨h, _⟩; rw [rl1_iff.2 h] at h1; cases h1
  | true =>
    have hv := rl1_iff.1 h1
    rw [cond_true]
    cases h2 : rl2 l with
    | true => simp only [cond_true, true_iff]; exact ⟨hv, (rl2_iff hv).1 h2⟩
    | false =>
      simp only [cond_false]
      constructor
      · intro h; cases h
      · rintro ⟨_, h⟩; rw [(rl2_iff hv).2 h] at h2; cases h2
/-- What the program builds out of a list in order. -/
theorem bldF_eq : ∀ (l : List Rg) (last : Int) (t : Tr), Ord l → (∀ r ∈ l, last ≤ r.start) → bldF l last t = (l.foldl insF t, 0)
  | [], _, _, _, _ => rfl
  | r :: rs, last, t, ho, hl => by
    have h1 := hl r (by simp)
    have hh := ho.head
    rw [bldF, dF (show ¬ r.start < last by omega), cond_false, bldF_eq rs _ _ ho.tail (fun y hy => by rw [hh.1.end]; exact hh.2 y hy), List.foldl_cons]
theorem buildF_eq {l : List Rg} (ho : Ord l) : buildF l = (l.foldl insF zT, 0) := by
  have hv : l.all validF = true := List.all_eq_true.2 fun r hr => validF_iff.2 (ho.1 r hr)
  unfold buildF
  rw [hv, bldF_eq l 0 zT ho fun r hr => (ho.1 r hr).1]
  rfl
theorem rbuildF_eq {l : List Rg} (hs : l.length ≤ BIG) (ho : Ord l) : rbuildF l = (l.foldl insF zT, 0) := by
  unfold rbuildF
  rw [listed_iff.2 ho, (bld0 hs).eq]
  rfl
/-! ### Check -/
theorem foldl_and {α : Type} (f : α → Bool) : ∀ (l : List α) (b : Bool), l.foldl (fun b t => b && f t) b = (b && l.all f)
  | [], b => by simp
  | x :: xs, b => by rw [List.foldl_cons, foldl_and f xs, List.all_cons, Bool.and_assoc]
theorem noneF_iff {t : Tr} : noneF t = true ↔ t = zT := by
  cases t with
  | mk h f l g r k =>
    cases r with
    | mk a b c d e i =>
      simp only [noneF, Tr.h, Tr.f, Tr.l, Tr.g, Tr.r, Tr.kids, zT, zR, Bool.and_eq_true, beq_iff_eq, decide_eq_true_eq, Tr.mk.injEq, Rg.mk.injEq, List.cons.injEq, and_true]
      constructor
      · rintro ⟨h1, h2, h3, h4, h5, h6⟩
        exact ⟨h1, h2, h3, h4, h5, List.length_eq_zero_iff.1 (by omega)⟩
      · rintro ⟨h1, h2, h3, h4, h5, rfl⟩
        exact ⟨h1, h2, h3, h4, h5, rfl⟩
theorem formed_zero {t : Tr} (hf : formedF t = true) (h0 : t.h = 0) : t = zT := by
  refine noneF_iff.1 ?_
  cases t with
  | mk h f l g x k =>
    by_cases hk : ∃ a b, k = [a, b]
    · obtain ⟨a, b, rfl⟩ := hk
      have hh : (h == 0) = true := by simpa [Tr.h] using h0
      rw [formedF_two, hh, cond_true] at hf
      exact hf
    · have hh : ((Tr.mk h f l g x k).h == 0) = true := by simpa [Tr.h] using h0
      rw [formedF_else (.mk h f l g x k) (fun a b e => hk ⟨a, b, e⟩), hh, cond_true] at hf
      exact hf
theorem formed_mk {h f l g : Int} {x : Rg} {a b : Tr} (h0 : h ≠ 0) (ha : formedF a = true) (hb : formedF b = true) : formedF (.mk h f l g x [a, b]) = true := by
  rw [formedF_two, show (h == 0) = false by simpa using h0, cond_false, ha, hb]; rfl
theorem nodeF_is (a b : Tr) (x : Rg) : nodeF a x b = .mk (nodeF a x b).h (nodeF a x b).f (nodeF a x b).l (nodeF a x b).g x [a, b] := rfl
theorem Good.formed {t : Tr} (hg : Good t) : t.sz ≤ BIG → formedF t = true := by
  induction hg with
  | leaf => intro _; exact (formedF_else zT (by simp [zT, Tr.kids])).trans (noneF_iff.2 rfl)
  | @node a b x ha hb h1 h2 iha ihb =>
    intro hs
    rw [sz_nodeF] at hs
    have hh := h_node ha hb hs x
    rw [imax_def] at hh
    have la := ha.h_le (by omega)
    rw [nodeF_is]
    exact formed_mk (by omega) (iha (by omega)) (ihb (by omega))
theorem numberedF_mk {h f l g : Int} {x : Rg} {a b : Tr} (h0 : h ≠ 0) : numberedF (.mk h f l g x [a, b]) = (numberedF a && (numF (.mk h f l g x [a, b]) && numberedF b)) := by
  unfold numberedF
  rw [foldl_and, foldl_and, foldl_and, nodesF_two, show (h == 0) = false by simpa using h0]
  simp
theorem numberedF_zT : numberedF zT = true := by unfold numberedF; rw [nodesF_zero rfl]; rfl
theorem sz_mk {h f l g : Int} {x : Rg} {a b : Tr} : (Tr.mk h f l g x [a, b]).sz = 1 + a.sz + b.sz := Tr.sz_two _ _ _ _ _ _ _
theorem w_sub {a b : Tr} (ha : Good a) (hb : Good b) (hs : 1 + a.sz + b.sz ≤ BIG) : w64 (a.h - b.h) = a.h - b.h := by
  have := ha.h_le (by omega)
  have := hb.h_le (by omega)
  unfold BIG at hs
  exact wrap_id (by omega) (by omega)
theorem r_mk (h f l g : Int) (x : Rg) (k : List Tr) : (Tr.mk h f l g x k).r = x := rfl
theorem num_iff {h f l g : Int} {x : Rg} {a b : Tr} (ha : Good a) (hb : Good b) (hs : 1 + a.sz + b.sz ≤ BIG) :
    numF (.mk h f l g x [a, b]) = true ↔ Tr.mk h f l g x [a, b] = nodeF a x b ∧ a.h ≤ b.h + 1 ∧ b.h ≤ a.h + 1 := by
  have e0 : k0 (.mk h f l g x [a, b]) = a := rfl
  have e1 : k1 (.mk h f l g x [a, b]) = b := rfl
  unfold numF
  simp only [e0, e1, w_sub ha hb hs, h_mk, f_mk, l_mk, g_mk, r_mk, Bool.not_eq_true', Bool.or_eq_false_iff, bne_eq_false_iff_eq, decide_eq_false_iff_not]
  rw [nodeF_is]
  simp only [Tr.mk.injEq, and_true, true_and]
  constructor
  · rintro ⟨⟨⟨⟨⟨h1, h2⟩, h3⟩, h4⟩, h5⟩, h6⟩
    exact ⟨⟨h1.symm, h2.symm, h3.symm, h4.symm⟩, by omega, by omega⟩
  · rintro ⟨⟨h1, h2, h3, h4⟩, h5, h6⟩
    exact ⟨⟨⟨⟨⟨h1.symm, h2.symm⟩, h3.symm⟩, h4.symm⟩, by omega⟩, by omega⟩
theorem rnum_iff {h f l g : Int} {x : Rg} {a b : Tr} (ha : Good a) (hb : Good b) (hs : 1 + a.sz + b.sz ≤ BIG) :
    rnumN (.mk h f l g x [a, b]) x a b = true ↔ Tr.mk h f l g x [a, b] = nodeF a x b ∧ a.h ≤ b.h + 1 ∧ b.h ≤ a.h + 1 := by
  unfold rnumN
  simp only [node_eq (ha.h_le (by omega)).1 (hb.h_le (by omega)).1, w_h ha (by omega), w_h hb (by omega), h_mk, f_mk, l_mk, g_mk, Bool.and_eq_true, beq_iff_eq, decide_eq_true_eq]
  rw [nodeF_is]
  simp only [Tr.mk.injEq, and_true, true_and]
  constructor
  · rintro ⟨h1, h2, h3, h4, h5, h6⟩
    exact ⟨⟨h1, h2, h3, h4⟩, h5, h6⟩
  · rintro ⟨⟨h1, h2, h3, h4⟩, h5, h6⟩
    exact ⟨h1, h2, h3, h4, h5, h6⟩
/-- Both texts number alike. -/
theorem num_good (t : Tr) : formedF t = true → t.sz ≤ BIG → (numberedF t = true ↔ Good t) ∧ (rnumF t = true ↔ Good t) := by
  induction t using Tr.ind with
  | h t ih =>
    intro hf hs
    by_cases h0 : t.h = 0
    · rw [formed_zero hf h0]
      exact ⟨⟨fun _ => .leaf, fun _ => numberedF_zT⟩, ⟨fun _ => .leaf, fun _ => rnumF_zero rfl⟩⟩
    · obtain ⟨a, b, hk, ha, hb⟩ := formedF_inv hf h0
      cases t with
      | mk h f l g x k =>
        cases (hk : k = [a, b])
        rw [sz_mk] at hs
        obtain ⟨a1, a2⟩ := ih a (by simp [Tr.kids]) ha (by omega)
        obtain ⟨b1, b2⟩ := ih b (by simp [Tr.kids]) hb (by omega)
        have h0 : h ≠ 0 := h0
        have key : Good (.mk h f l g x [a, b]) ↔ Good a ∧ Good b ∧ Tr.mk h f l g x [a, b] = nodeF a x b ∧ a.h ≤ b.h + 1 ∧ b.h ≤ a.h + 1 := by
          constructor
          · intro hg
            obtain ⟨a', x', b', e, ga, gb, g1, g2, _⟩ := hg.inv' (by rw [sz_mk]; omega) h0
            have e' := e
            rw [nodeF_is] at e'
            simp only [Tr.mk.injEq, List.cons.injEq, and_true] at e'
            obtain ⟨_, _, _, _, rfl, rfl, rfl⟩ := e'
            exact ⟨ga, gb, e, g1, g2⟩
          · rintro ⟨ga, gb, e, g1, g2⟩
            rw [e]; exact .node x ga gb g1 g2
        constructor
        · rw [numberedF_mk h0, Bool.and_eq_true, Bool.and_eq_true, a1, b1, key]
          constructor
          · rintro ⟨ga, hn, gb⟩
            exact ⟨ga, gb, (num_iff ga gb hs).1 hn⟩
          · rintro ⟨ga, gb, hn⟩
            exact ⟨ga, (num_iff ga gb hs).2 hn, gb⟩
        · rw [rnumF_two, show (h == 0) = false by simpa using h0, cond_false, key]
          cases ra : rnumF a with
          | false =>
            simp only [Bool.not_false, Bool.true_or, cond_true, Bool.false_eq_true, false_iff]
            rintro ⟨ga, _⟩
            rw [a2.2 ga] at ra; cases ra
          | true =>
            cases rb : rnumF b with
            | false =>
              simp only [Bool.not_false, Bool.or_true, cond_true, Bool.false_eq_true, false_iff]
              rintro ⟨_, gb, _⟩
              rw [b2.2 gb] at rb; cases rb
            | true =>
              have ga := a2.1 ra
              have gb := b2.1 rb
              simp only [Bool.not_true, Bool.or_self, cond_false]
              rw [rnum_iff ga gb hs]
              exact ⟨fun h => ⟨ga, gb, h⟩, fun h => h.2.2⟩
theorem ord_foldl : ∀ (l : List Tr) (s : Bool × Int), (∀ t ∈ l, Vd t.r) → (∀ t ∈ l.head?, s.2 ≤ t.r.start) → ((l.foldl ordS s).1 = true ↔ s.1 = true ∧ rl2 (l.map Tr.r) = true)
  | [], s, _, _ => by simp [rl2]
  | [a], s, hv, hh => by
    have := hh a (by simp)
    simp [rl2, ordS, this]
  | a :: b :: l, s, hv, hh => by
    have h1 := hh a (by simp)
    rw [List.foldl_cons]
    have e : (ordS s a).1 = s.1 := by simp [ordS, h1]
    by_cases c : b.r.start < a.r.end
    · have key : ∀ (l : List Tr) (s : Bool × Int), s.1 = false → (l.foldl ordS s).1 = false := by
        intro l
        induction l with
        | nil => intro s h; exact h
        | cons x xs ih => intro s h; rw [List.foldl_cons]; exact ih _ (by simp [ordS, h])
      have : ((b :: l).foldl ordS (ordS s a)).1 = false := by
        rw [List.foldl_cons]
        exact key _ _ (by simp [ordS]; intro _ _; omega)
      rw [this, List.map_cons, List.map_cons, rl2, dT c]
      simp
    · have ih := ord_foldl (b :: l) (ordS s a) (fun t ht => hv t (by simp [ht])) (by simp [ordS]; omega)
      have e3 : rl2 (a.r :: b.r :: l.map Tr.r) = rl2 (b.r :: l.map Tr.r) := by rw [rl2, dF c, cond_false]
      rw [ih, e, List.map_cons, List.map_cons, List.map_cons, e3]
theorem rangesF_iff {t : Tr} : rangesF t = rl1 (lst t) := by
  unfold rangesF
  rw [foldl_and, Bool.true_and, Bool.eq_iff_iff, rl1_iff, List.all_eq_true]
  simp only [validF_iff, lst, List.mem_map, forall_exists_index, and_imp, forall_apply_eq_imp_iff₂]
theorem checkF_eq {t : Tr} (hs : t.sz ≤ BIG) : checkF t = rcheckF t := by
  unfold checkF rcheckF
  cases hf : formedF t with
  | false => rfl
  | true =>
    have hn := num_good t hf hs
    have hn' : numberedF t = rnumF t := by rw [Bool.eq_iff_iff, hn.1, hn.2]
    simp only [Bool.not_true, cond_false]
    rw [rangesF_iff, hn']
    unfold listedF
    have e : rregF t = lst t := rfl
    rw [e]
    cases h1 : rl1 (lst t) with
    | false => rfl
    | true =>
      have hv := rl1_iff.1 h1
      have ho : (orderF t).1 = rl2 (lst t) := by
        have := ord_foldl (nodesF t) (true, 0) (fun x hx => hv x.r (List.mem_map_of_mem hx)) (fun x hx => (hv x.r (List.mem_map_of_mem (List.mem_of_mem_head? hx))).1)
        rw [Bool.eq_iff_iff]
        unfold orderF
        rw [this]
        simp [lst]
      rw [ho]
      cases h2 : rl2 (lst t) <;> cases h3 : rnumF t <;> rfl
theorem checkF_iff {t : Tr} (hs : t.sz ≤ BIG) : checkF t = 0 ↔ Good t ∧ Ord (lst t) := by
  rw [checkF_eq hs]
  unfold rcheckF
  cases hf : formedF t with
  | false =>
    simp only [Bool.not_false, cond_true]
    constructor
    · intro h; cases h
    · rintro ⟨hg, _⟩; rw [hg.formed hs] at hf; cases hf
  | true =>
    have hn := (num_good t hf hs).2
    rw [← hn, ← listed_iff]
    show (bif !true then (3 : Int) else bif listedF (lst t) != 0 then listedF (lst t) else bif !rnumF t then 11 else 0) = 0 ↔ _
    simp only [Bool.not_true, cond_false]
    by_cases h1 : listedF (lst t) = 0
    · rw [h1]
      cases h2 : rnumF t <;> simp
    · have : (listedF (lst t) != 0) = true := by simpa using h1
      rw [this, cond_true]
      simp [h1]
theorem listF_eq {t : Tr} (hs : t.sz ≤ BIG) : listF t = rlistF t := by
  unfold listF rlistF
  rw [checkF_eq hs]; rfl
end Go.Proofs.Ytalcipbagidbpaa
end

section
set_option linter.unusedVariables false
namespace Go.Proofs.Ytalcipbagidbpaa
open Go.Proofs
/-! ### Flags -/
theorem hasF_fl {r : Rg} (h0 : 0 ≤ r.flags) (h1 : r.flags ≤ 15) (f : Int) : hasF r f = hasF ⟨0, 0, 0, r.flags.toNat, 0, 0⟩ f := by
  unfold hasF
  rw [show ((r.flags.toNat : Nat) : Int) = r.flags by omega]
theorem flagR_fl {r : Rg} (h0 : 0 ≤ r.flags) (h1 : r.flags ≤ 15) (f : Int) : flagR r f = flagR ⟨0, 0, 0, r.flags.toNat, 0, 0⟩ f := by
  unfold flagR
  rw [show ((r.flags.toNat : Nat) : Int) = r.flags by omega]
theorem fl_tab : ∀ n : Nat, n < 16 → hasF ⟨0, 0, 0, (n : Int), 0, 0⟩ 1 = flagR ⟨0, 0, 0, (n : Int), 0, 0⟩ 1 ∧ hasF ⟨0, 0, 0, (n : Int), 0, 0⟩ 2 = flagR ⟨0, 0, 0, (n : Int), 0, 0⟩ 2 ∧ hasF ⟨0, 0, 0, (n : Int), 0, 0⟩ 4 = flagR ⟨0, 0, 0, (n : Int), 0, 0⟩ 4 ∧
    hasF ⟨0, 0, 0, (n : Int), 0, 0⟩ 10 = (flagR ⟨0, 0, 0, (n : Int), 0, 0⟩ 2 || flagR ⟨0, 0, 0, (n : Int), 0, 0⟩ 8) := by decide +kernel
theorem fl_tab2 : ∀ n : Nat, n < 16 → w64 (BitVec.ofInt IntKind.i64.bits (n : Int) &&& ~~~ BitVec.ofInt IntKind.i64.bits 2).toNat = (bif flagR ⟨0, 0, 0, (n : Int), 0, 0⟩ 2 then w64 ((n : Int) - 2) else (n : Int)) ∧
    w64 (BitVec.ofInt IntKind.i64.bits (n : Int) ^^^ BitVec.ofInt IntKind.i64.bits 4).toNat = (bif flagR ⟨0, 0, 0, (n : Int), 0, 0⟩ 4 then w64 ((n : Int) - 4) else w64 ((n : Int) + 4)) := by decide +kernel
theorem fl_ok {r : Rg} (h0 : 0 ≤ r.flags) (h1 : r.flags ≤ 15) : hasF r 1 = flagR r 1 ∧ hasF r 2 = flagR r 2 ∧ hasF r 4 = flagR r 4 ∧ hasF r 10 = (flagR r 2 || flagR r 8) := by
  have := fl_tab r.flags.toNat (by omega)
  rw [hasF_fl h0 h1, hasF_fl h0 h1 2, hasF_fl h0 h1 4, hasF_fl h0 h1 10, flagR_fl h0 h1 1, flagR_fl h0 h1 2, flagR_fl h0 h1 4, flagR_fl h0 h1 8]
  exact this
theorem fl_ok2 {r : Rg} (h0 : 0 ≤ r.flags) (h1 : r.flags ≤ 15) : w64 (BitVec.ofInt IntKind.i64.bits r.flags &&& ~~~ BitVec.ofInt IntKind.i64.bits 2).toNat = (bif flagR r 2 then w64 (r.flags - 2) else r.flags) ∧
    w64 (BitVec.ofInt IntKind.i64.bits r.flags ^^^ BitVec.ofInt IntKind.i64.bits 4).toNat = (bif flagR r 4 then w64 (r.flags - 4) else w64 (r.flags + 4)) := by
  have := fl_tab2 r.flags.toNat (by omega)
  rw [show ((r.flags.toNat : Nat) : Int) = r.flags by omega] at this
  exact this
/-! ### Check -/
theorem chk_args (r : Rg) : chkA r = (rchkA r || (rchkB r || rchkC r)) := by
  by_cases hf : 0 ≤ r.flags ∧ r.flags ≤ 15 ∧ -1 ≤ r.file ∧ r.file < 4
  · obtain ⟨h0, h1, h2, h3⟩ := hf
    obtain ⟨f1, f2, f4, f10⟩ := fl_ok h0 h1
    unfold chkA rchkA rchkB rchkC
    rw [f1, f10]
    have e1 : (r.file == -1) = decide (r.file < 0) := by rw [Bool.eq_iff_iff]; simp; omega
    have e2 : (r.file != -1) = decide (r.file ≥ 0) := by rw [Bool.eq_iff_iff]; simp; omega
    rw [e1, e2]
    cases decide (r.pages < 1) <;> cases (r.prot != 1) <;> cases (r.prot != 3) <;> cases decide (r.flags < 0) <;> cases decide (r.flags > 15) <;> cases decide (r.file < -1) <;> cases decide (r.file ≥ 4) <;> cases flagR r 1 <;> cases flagR r 2 <;> cases flagR r 8 <;> cases decide (r.file < 0) <;> cases decide (r.file ≥ 0) <;> rfl
  · have e : (decide (r.flags < 0) || decide (r.flags > 15)) || (decide (r.file < -1) || decide (r.file ≥ 4)) = true := by
      simp only [Bool.or_eq_true, decide_eq_true_eq]; omega
    have h1 : rchkB r = true := by
      unfold rchkB
      simp only [Bool.or_eq_true, decide_eq_true_eq] at *; omega
    have h2 : chkA r = true := by
      unfold chkA
      simp only [Bool.or_eq_true, decide_eq_true_eq] at *
      rcases e with e | e
      · exact .inl (.inl (.inl (.inr e)))
      · exact .inl (.inl (.inr e))
    rw [h1, h2]; simp
theorem chk_range (r : Rg) (h : chkA r = false) : chkB r = (rchkD r || rchkE r) := by
  have hp : 1 ≤ r.pages ∧ -1 ≤ r.file := by
    unfold chkA at h
    simp only [Bool.or_eq_false_iff, decide_eq_false_iff_not] at h
    omega
  have w1 : ∀ n : Int, 0 ≤ n → n ≤ 512 → w64 (512 - n) = 512 - n := fun n h1 h2 => wrap_id (by omega) (by omega)
  have w2 : ∀ n : Int, 0 ≤ n → n ≤ 16 → w64 (16 - n) = 16 - n := fun n h1 h2 => wrap_id (by omega) (by omega)
  rw [Bool.eq_iff_iff]
  unfold chkB rchkD rchkE
  simp only [Bool.or_eq_true, Bool.and_eq_true, decide_eq_true_eq, bne_iff_ne, ne_eq, beq_iff_eq]
  have a1 : (((r.start < 0 ∨ r.start > 512) ∨ r.pages > w64 (512 - r.start)) ↔ (r.start < 0 ∨ r.start + r.pages > 512)) := by
    by_cases h1 : 0 ≤ r.start ∧ r.start ≤ 512
    · rw [w1 _ h1.1 h1.2]; omega
    · constructor
      · intro _; omega
      · intro _; omega
  have a2 : ((r.start < 0 ∨ (r.pages > 512 ∨ (r.start > w64 (512 - r.pages) ∨ r.index < 0))) ↔ (r.start < 0 ∨ r.start + r.pages > 512) ∨ r.index < 0) := by
    by_cases h1 : r.pages ≤ 512
    · rw [w1 _ (by omega) h1]; omega
    · constructor
      · intro _; omega
      · intro _; omega
  have a3 : ¬ r.index < 0 → ((r.index > 16 ∨ r.pages > w64 (16 - r.index)) ↔ r.pages + r.index > 16) := by
    intro h0
    by_cases h1 : r.index ≤ 16
    · rw [w2 _ (by omega) h1]; omega
    · constructor
      · intro _; omega
      · intro _; omega
  have a4 : (r.pages > 16 ∨ r.index > w64 (16 - r.pages)) ∨ r.index < 0 ↔ r.pages + r.index > 16 ∨ r.index < 0 := by
    by_cases h1 : r.pages ≤ 16
    · rw [w2 _ (by omega) h1]; omega
    · constructor
      · intro _; omega
      · intro _; omega
  by_cases h0 : r.index < 0
  · simp [h0]
  · have a3 := a3 h0
    constructor
    · rintro (((h1 | h1) | h1) | ⟨h1, h2⟩)
      · exact .inl (a2.2 (.inl (a1.1 h1)))
      · exact absurd h1 h0
      · exact .inr (.inl ⟨by omega, by omega⟩)
      · rcases a4.2 (.inl (a3.1 h2)) with h3 | h3
        · exact .inr (.inr ⟨by omega, h3⟩)
        · exact absurd h3 h0
    · rintro (h1 | ⟨h1, h2⟩ | ⟨h1, h2⟩)
      · rcases a2.1 h1 with h3 | h3
        · exact .inl (.inl (.inl (a1.2 h3)))
        · exact absurd h3 h0
      · exact .inl (.inr ⟨by omega, by omega⟩)
      · rcases a4.1 (.inl h2) with h3 | h3
        · exact .inr ⟨by omega, a3.2 h3⟩
        · exact absurd h3 h0
theorem chk_eq (r : Rg) : chkR r = rchk r := by
  unfold chkR rchk
  rw [chk_args]
  cases h1 : rchkA r with
  | true => rfl
  | false =>
    cases h2 : rchkB r with
    | true => rfl
    | false =>
      cases h3 : rchkC r with
      | true => rfl
      | false =>
        simp only [Bool.or_self, cond_false]
        rw [chk_range r (by rw [chk_args, h1, h2, h3]; rfl)]
        cases rchkD r <;> cases rchkE r <;> rfl
/-- A region that is as it should be. -/
structure Rok (r : Rg) : Prop where
  vd : Vd r
  prot : r.prot = 1 ∨ r.prot = 3
  fl0 : 0 ≤ r.flags
  fl1 : r.flags ≤ 15
  fi0 : -1 ≤ r.file
  fi1 : r.file < 4
  anon : r.file = -1 → flagR r 1 = false ∧ r.index = 0
  filed : r.file ≠ -1 → flagR r 2 = false ∧ flagR r 8 = false ∧ 0 ≤ r.index ∧ r.index + r.pages ≤ 16
theorem rok_iff {r : Rg} : rchk r = 0 ↔ Rok r := by
  have w1 : ∀ n : Int, 1 ≤ n → n ≤ 512 → w64 (512 - n) = 512 - n := fun n h1 h2 => wrap_id (by omega) (by omega)
  have w2 : ∀ n : Int, 1 ≤ n → n ≤ 16 → w64 (16 - n) = 16 - n := fun n h1 h2 => wrap_id (by omega) (by omega)
  have e : rchk r = 0 ↔ rchkA r = false ∧ rchkB r = false ∧ rchkC r = false ∧ rchkD r = false ∧ rchkE r = false := by
    unfold rchk
    cases rchkA r <;> cases rchkB r <;> cases rchkC r <;> cases rchkD r <;> cases rchkE r <;> simp
  rw [e]
  unfold rchkA rchkB rchkC rchkD rchkE
  simp only [Bool.or_eq_false_iff, Bool.and_eq_false_iff, decide_eq_false_iff_not, bne_eq_false_iff_eq]
  constructor
  · rintro ⟨⟨a1, a2⟩, ⟨b1, b2, b3, b4⟩, ⟨c1, c2⟩, ⟨d1, d2, d3, d4⟩, e1, e2⟩
    rw [w1 _ (by omega) (by omega)] at d3
    refine ⟨⟨by omega, by omega, by omega⟩, by omega, by omega, by omega, by omega, by omega, fun h => ?_, fun h => ?_⟩
    · rcases c1 with c1 | c1
      · omega
      · exact ⟨c1, by omega⟩
    · rcases c2 with c2 | c2
      · omega
      · refine ⟨c2.1, c2.2, by omega, ?_⟩
        rcases e2 with e2 | ⟨e2, e3⟩
        · omega
        · rw [w2 _ (by omega) (by omega)] at e3; omega
  · intro h
    have hv := h.vd
    unfold Vd at hv
    have := h.prot; have := h.fl0; have := h.fl1; have := h.fi0; have := h.fi1
    rw [w1 _ (by omega) (by omega)]
    refine ⟨⟨by omega, by omega⟩, ⟨by omega, by omega, by omega, by omega⟩, ?_, ⟨by omega, by omega, by omega, ?_⟩, ?_⟩
    · by_cases hf : r.file = -1
      · exact ⟨.inr (h.anon hf).1, .inl (by omega)⟩
      · exact ⟨.inl (by omega), .inr ⟨(h.filed hf).1, (h.filed hf).2.1⟩⟩
    · by_cases hf : r.file = -1
      · have := (h.anon hf).2; omega
      · have := (h.filed hf).2.2.1; omega
    · by_cases hf : r.file = -1
      · have := (h.anon hf).2; exact ⟨.inr (by omega), .inl (by omega)⟩
      · have := (h.filed hf).2.2
        refine ⟨.inl (by omega), .inr ⟨by omega, ?_⟩⟩
        rw [w2 _ (by omega) (by omega)]; omega
theorem chk0 {r : Rg} (h : Rok r) : chkR r = 0 := by rw [chk_eq]; exact rok_iff.2 h
theorem rchk0 {r : Rg} (h : Rok r) : rchk r = 0 := rok_iff.2 h
theorem endR_is {r : Rg} (h : Rok r) : endR r = r.start + r.pages := by
  have := h.vd
  unfold Vd at this
  unfold endR
  rw [chk0 h]
  exact wrap_id (by omega) (by omega)
theorem w_end {r : Rg} (h : Rok r) : w64 (r.start + r.pages) = r.start + r.pages := by
  have := h.vd
  unfold Vd at this
  exact wrap_id (by omega) (by omega)
end Go.Proofs.Ytalcipbagidbpaa
end

section
set_option linter.unusedVariables false
namespace Go.Proofs.Ytalcipbagidbpaa
open Go.Proofs
/-- b continues a. -/
structure Mg (a b : Rg) : Prop where
  oka : Rok a
  okb : Rok b
  at_ : a.start + a.pages = b.start
  noG : flagR a 2 = false
  prot : a.prot = b.prot
  flags : a.flags = b.flags
  file : a.file = b.file
  index : a.file = -1 ∨ b.index = a.index + a.pages
theorem Rok.idx {r : Rg} (h : Rok r) : 0 ≤ r.index ∧ r.index ≤ 16 := by
  by_cases hf : r.file = -1
  · have := (h.anon hf).2; omega
  · have := (h.filed hf).2.2; have := h.vd; unfold Vd at this; omega
theorem w_idx {a b : Rg} (h : Rok a) (hb : Rok b) : w64 (a.index + b.pages) = a.index + b.pages := by
  have h1 := h.idx
  have h2 := hb.vd
  unfold Vd at h2
  exact wrap_id (by omega) (by omega)
theorem flag_of {a b : Rg} (h : a.flags = b.flags) (f : Int) : flagR a f = flagR b f := by unfold flagR; rw [h]
theorem bne0 {n : Int} : (n != 0) = true ↔ n ≠ 0 := by simp
theorem bne0f {n : Int} : (n != 0) = false ↔ n = 0 := by simp
theorem rmrg_iff {a b : Rg} : rmrg a b = true ↔ Mg a b := by
  unfold rmrg
  by_cases ha : Rok a
  · by_cases hb : Rok b
    · rw [rchk0 ha, rchk0 hb, w_end ha, w_idx ha ha]
      simp only [bne_self_eq_false, Bool.false_or]
      by_cases h1 : a.start + a.pages = b.start
      · rw [show (a.start + a.pages != b.start) = false by simpa using h1, cond_false]
        by_cases h2 : flagR a 2 = false ∧ a.prot = b.prot ∧ a.flags = b.flags ∧ a.file = b.file
        · obtain ⟨h2, h3, h4, h5⟩ := h2
          rw [h2, h3, h4, h5]
          simp only [bne_self_eq_false, Bool.or_self, cond_false, Bool.or_eq_true, decide_eq_true_eq, beq_iff_eq]
          constructor
          · intro h
            exact ⟨ha, hb, h1, h2, h3, h4, h5, by have := hb.fi0; rcases h with h | h <;> omega⟩
          · intro h
            have := hb.fi0
            rcases h.index with h6 | h6 <;> omega
        · have : (flagR a 2 || (a.prot != b.prot || (a.flags != b.flags || a.file != b.file))) = true := by
            cases h6 : flagR a 2
            · simp only [Bool.false_or, Bool.or_eq_true, bne_iff_ne]
              have := fun x y z => h2 ⟨h6, x, y, z⟩
              by_cases h7 : a.prot = b.prot
              · by_cases h8 : a.flags = b.flags
                · exact .inr (.inr (this h7 h8))
                · exact .inr (.inl h8)
              · exact .inl h7
            · rfl
          rw [this]
          simp only [cond_true, Bool.false_eq_true, false_iff]
          exact fun h => h2 ⟨h.noG, h.prot, h.flags, h.file⟩
      · rw [show (a.start + a.pages != b.start) = true by simpa using h1, cond_true]
        simp only [Bool.false_eq_true, false_iff]
        exact fun h => h1 h.at_
    · have : (rchk b != 0) = true := bne0.2 fun h => hb (rok_iff.1 h)
      rw [this]
      simp only [Bool.true_or, Bool.or_true, cond_true, Bool.false_eq_true, false_iff]
      exact fun h => hb h.okb
  · have : (rchk a != 0) = true := bne0.2 fun h => ha (rok_iff.1 h)
    rw [this]
    simp only [Bool.true_or, cond_true, Bool.false_eq_true, false_iff]
    exact fun h => ha h.oka
theorem mrg_iff {a b : Rg} : mrg a b = true ↔ Mg a b := by
  unfold mrg
  by_cases ha : Rok a
  · by_cases hb : Rok b
    · rw [chk0 ha, chk0 hb, w_end ha, w_idx ha ha, (fl_ok ha.fl0 ha.fl1).2.1, (fl_ok hb.fl0 hb.fl1).2.1]
      simp only [bne_self_eq_false, Bool.false_or, Bool.and_eq_true, Bool.not_eq_true', Bool.or_eq_false_iff]
      constructor
      · rintro ⟨⟨h1, h2⟩, h3⟩
        cases hf : a.file != -1 with
        | true =>
          rw [hf, cond_true, decide_eq_true_eq] at h3
          simp only [Rg.ints, List.cons.injEq, and_true] at h3
          exact ⟨ha, hb, h3.1, h1, h3.2.2.1, h3.2.2.2.1, h3.2.2.2.2.1, .inr h3.2.2.2.2.2.symm⟩
        | false =>
          rw [hf, cond_false, decide_eq_true_eq] at h3
          simp only [Rg.ints, List.cons.injEq, and_true] at h3
          exact ⟨ha, hb, h3.1, h1, h3.2.2.1, h3.2.2.2.1, h3.2.2.2.2.1, .inl (by simpa using hf)⟩
      · intro h
        refine ⟨⟨h.noG, by rw [← flag_of h.flags]; exact h.noG⟩, ?_⟩
        cases hf : a.file != -1 with
        | true =>
          rw [cond_true, decide_eq_true_eq, Rg.ints, h.at_, h.prot, h.flags, h.file]
          rcases h.index with h6 | h6
          · rw [h6] at hf; cases hf
          · rw [h6]
        | false =>
          have hf : a.file = -1 := by simpa using hf
          rw [cond_false, decide_eq_true_eq, Rg.ints, h.at_, h.prot, h.flags, h.file, (ha.anon hf).2, (hb.anon (h.file ▸ hf)).2]
    · have : (chkR b != 0) = true := by rw [chk_eq]; exact bne0.2 fun h => hb (rok_iff.1 h)
      rw [this]
      simp only [Bool.true_or, Bool.or_true, Bool.not_true, Bool.false_and, Bool.false_eq_true, false_iff]
      exact fun h => hb h.okb
  · have : (chkR a != 0) = true := by rw [chk_eq]; exact bne0.2 fun h => ha (rok_iff.1 h)
    rw [this]
    simp only [Bool.true_or, Bool.not_true, Bool.false_and, Bool.false_eq_true, false_iff]
    exact fun h => ha h.oka
theorem mrg_eq (a b : Rg) : mrg a b = rmrg a b := by rw [Bool.eq_iff_iff, mrg_iff, rmrg_iff]
theorem mergeR_eq (a b : Rg) : mergeR a b = rmerge a b := by unfold mergeR rmerge; rw [chk_eq, chk_eq, mrg_eq]
/-- What the merging makes. -/
def mgR (a b : Rg) : Rg := { a with pages := a.pages + b.pages }
theorem rmerge_yes {a b : Rg} (h : Mg a b) : rmerge a b = (mgR a b, 0) := by
  unfold rmerge
  rw [rchk0 h.oka, rchk0 h.okb, rmrg_iff.2 h]
  have h1 := h.oka.vd
  have h2 := h.okb.vd
  unfold Vd at h1 h2
  simp only [bne_self_eq_false, cond_false, Bool.not_true, mgR]
  rw [show w64 (a.pages + b.pages) = a.pages + b.pages from wrap_id (by omega) (by omega)]
theorem rmerge_zero {a b : Rg} : ((rmerge a b).2 == 0) = rmrg a b := by
  cases h : rmrg a b with
  | true => rw [rmerge_yes (rmrg_iff.1 h)]; rfl
  | false =>
    unfold rmerge
    rw [h]
    cases h1 : rchk a != 0 with
    | true => have := bne0.1 h1; simpa using this
    | false =>
      cases h2 : rchk b != 0 with
      | true => have := bne0.1 h2; simpa using this
      | false => rfl
theorem nrmS_eq (out : List Rg) (x : Rg) : nrmS out x = rnS out x := by
  unfold nrmS rnS
  rw [mergeR_eq, rmerge_zero]
  cases decide ((out.length : Int) > 0) <;> rfl
theorem nrmL_eq (l : List Rg) : nrmL l = rnrm l := by
  unfold nrmL rnrm
  rw [show nrmS = rnS from funext fun a => funext fun b => nrmS_eq a b]
theorem ac1_eq : ∀ l : List Rg, ac1 l = rc1 l
  | [] => rfl
  | r :: rs => by rw [ac1, rc1, chk_eq, ac1_eq rs]
theorem ac2_eq : ∀ l : List Rg, ac2 l = rc2 l
  | [] => rfl
  | [a] => rfl
  | a :: b :: rs => by rw [ac2, rc2, mrg_eq, ac2_eq (b :: rs)]
theorem acF_eq {t : Tr} (hs : t.sz ≤ BIG) : acF t = rcF t := by
  unfold acF rcF
  rw [checkF_eq hs, listF_eq hs, ac1_eq, ac2_eq]
/-! ### Lists that are as they should be -/
def LOK (l : List Rg) : Prop := (∀ r ∈ l, Rok r) ∧ l.Pairwise Bef
theorem LOK.ord {l : List Rg} (h : LOK l) : Ord l := ⟨fun r hr => (h.1 r hr).vd, h.2⟩
/-- No neighbours that can be merged. -/
def NM (l : List Rg) : Prop := rc2 l = false
theorem rc1_iff : ∀ {l : List Rg}, rc1 l = 0 ↔ ∀ r ∈ l, Rok r
  | [] => by simp [rc1]
  | r :: rs => by
    rw [rc1]
    by_cases h : rchk r = 0
    · rw [h]
      simp only [bne_self_eq_false, cond_false, rc1_iff, List.mem_cons, forall_eq_or_imp]
      exact ⟨fun h2 => ⟨rok_iff.1 h, h2⟩, fun h2 => h2.2⟩
    · rw [bne0.2 h, cond_true]
      simp only [h, List.mem_cons, forall_eq_or_imp, false_iff]
      exact fun h2 => h (rok_iff.2 h2.1)
/-- What a valid address space is. -/
structure Sok (t : Tr) : Prop where
  good : Good t
  lok : LOK (lst t)
  nm : NM (lst t)
  few : (lst t).length ≤ 12
theorem rcF_iff {t : Tr} (hs : t.sz ≤ BIG) : rcF t = 0 ↔ Sok t := by
  unfold rcF
  by_cases h : rcheckF t = 0
  · have hc := (checkF_iff hs).1 (by rw [checkF_eq hs]; exact h)
    have e : rlistF t = lst t := by unfold rlistF; rw [h]; rfl
    rw [h, e]
    simp only [bne_self_eq_false, cond_false]
    by_cases h1 : rc1 (lst t) = 0
    · rw [h1]
      simp only [bne_self_eq_false, cond_false]
      cases h2 : rc2 (lst t) with
      | true =>
        simp only [cond_true]
        exact ⟨(fun h => by cases h), fun h => by have := h.nm; unfold NM at this; rw [h2] at this; cases this⟩
      | false =>
        rw [cond_false]
        by_cases h3 : ((lst t).length : Int) > 12
        · rw [dT h3]
          exact ⟨(fun h => by cases h), fun h => by have := h.few; omega⟩
        · rw [dF h3]
          exact ⟨fun _ => ⟨hc.1, ⟨rc1_iff.1 h1, hc.2.2⟩, h2, by omega⟩, fun _ => rfl⟩
    · rw [bne0.2 h1, cond_true]
      exact ⟨fun h => absurd h h1, fun h => absurd (rc1_iff.2 h.lok.1) h1⟩
  · rw [bne0.2 h, cond_true]
    exact ⟨fun h2 => absurd h2 h, fun h2 => absurd ((checkF_eq hs).symm.trans ((checkF_iff hs).2 ⟨h2.good, h2.lok.ord⟩)) h⟩
theorem rls_sok {t : Tr} (hs : t.sz ≤ BIG) (h : Sok t) : rlsF t = lst t := by
  have h1 := (rcF_iff hs).2 h
  have h2 : rcheckF t = 0 := (checkF_eq hs).symm.trans ((checkF_iff hs).2 ⟨h.good, h.lok.ord⟩)
  unfold rlsF rlistF
  rw [h1, h2]; rfl
theorem list_sok {t : Tr} (hs : t.sz ≤ BIG) (h : Sok t) : listF t = lst t := by
  have h2 : checkF t = 0 := (checkF_iff hs).2 ⟨h.good, h.lok.ord⟩
  unfold listF
  rw [h2]; rfl
/-! ### Merging a list -/
theorem mg_ok {a b : Rg} (h : Mg a b) : Rok (mgR a b) := by
  have h1 := h.oka.vd
  have h2 := h.okb.vd
  unfold Vd at h1 h2
  have := h.at_
  refine ⟨⟨h1.1, ?_, ?_⟩, h.oka.prot, h.oka.fl0, h.oka.fl1, h.oka.fi0, h.oka.fi1, fun hf => h.oka.anon hf, fun hf => ?_⟩
  · show 1 ≤ a.pages + b.pages; omega
  · show a.start + (a.pages + b.pages) ≤ 512; omega
  · obtain ⟨f1, f2, f3, f4⟩ := h.oka.filed hf
    refine ⟨f1, f2, f3, ?_⟩
    have := (h.okb.filed (h.file ▸ hf)).2.2.2
    show a.index + (a.pages + b.pages) ≤ 16
    rcases h.index with h6 | h6
    · exact absurd h6 hf
    · omega
/-- One step, by the last region. -/
theorem rnS_nil (x : Rg) : rnS [] x = [x] := rfl
theorem atR_last (out : List Rg) (y : Rg) : atR (out ++ [y]) ((out ++ [y]).length - 1) = y := by
  simp [atR, List.getD_eq_getElem?_getD]
theorem rnS_snoc (out : List Rg) (y x : Rg) : rnS (out ++ [y]) x = bif rmrg y x then out ++ [(rmerge y x).1] else out ++ [y, x] := by
  unfold rnS
  rw [atR_last, dT (show (((out ++ [y]).length : Int)) > 0 by simp), Bool.true_and]
  cases rmrg y x with
  | true => simp [List.set_append_right]
  | false => simp
theorem snoc_cases {α : Type} (l : List α) : l = [] ∨ ∃ a x, l = a ++ [x] := by
  rcases List.eq_nil_or_concat l with h | ⟨a, x, h⟩
  · exact .inl h
  · exact .inr ⟨a, x, by rw [h]; simp⟩
theorem LOK.step {out xs : List Rg} {x : Rg} (h : LOK (out ++ x :: xs)) : LOK (rnS out x ++ xs) := by
  rcases snoc_cases out with rfl | ⟨a, y, rfl⟩
  · rw [rnS_nil]; simpa using h
  · rw [rnS_snoc]
    cases hm : rmrg y x with
    | false => simpa using h
    | true =>
      have hg := rmrg_iff.1 hm
      rw [cond_true, rmerge_yes hg]
      obtain ⟨h1, h2⟩ := h
      have h2' := h2
      simp only [List.append_assoc, List.cons_append, List.nil_append] at h1 h2
      rw [List.pairwise_append] at h2
      obtain ⟨p1, p2, p3⟩ := h2
      rw [List.pairwise_cons, List.pairwise_cons] at p2
      obtain ⟨q1, q2, q3⟩ := p2
      refine ⟨fun r hr => ?_, ?_⟩
      · simp only [List.append_assoc, List.cons_append, List.nil_append, List.mem_append, List.mem_cons] at hr
        rcases hr with hr | rfl | hr
        · exact h1 r (by simp [hr])
        · exact mg_ok hg
        · exact h1 r (by simp [hr])
      · simp only [List.append_assoc, List.cons_append, List.nil_append]
        rw [List.pairwise_append, List.pairwise_cons]
        refine ⟨p1, ⟨fun z hz => ?_, q3⟩, fun z hz w hw => ?_⟩
        · have := q2 z hz
          have := hg.at_
          unfold Bef at *
          show y.start + (y.pages + x.pages) ≤ z.start
          omega
        · rcases List.mem_cons.1 hw with rfl | hw
          · have := p3 z hz y (by simp)
            exact this
          · exact p3 z hz w (by simp [hw])
theorem LOK.nrm_aux : ∀ (l out : List Rg), LOK (out ++ l) → LOK (l.foldl rnS out)
  | [], out, h => by simpa using h
  | x :: xs, out, h => by rw [List.foldl_cons]; exact nrm_aux xs _ h.step
theorem LOK.nrm {l : List Rg} (h : LOK l) : LOK (rnrm l) := LOK.nrm_aux l [] h
theorem rc2_snoc : ∀ (out : List Rg) (y x : Rg), rc2 (out ++ [y, x]) = (rc2 (out ++ [y]) || rmrg y x)
  | [], y, x => by simp [rc2]
  | [a], y, x => by
    simp only [List.cons_append, List.nil_append, rc2]
    cases rmrg a y <;> cases rmrg y x <;> rfl
  | a :: b :: out, y, x => by
    have ih := rc2_snoc (b :: out) y x
    simp only [List.cons_append] at ih ⊢
    rw [rc2, rc2, ih]
    cases rmrg a b <;> rfl
theorem Mg.lft {p a b : Rg} (hg : Mg a b) (h : Mg p (mgR a b)) : Mg p a :=
  ⟨h.oka, hg.oka, h.at_, h.noG, h.prot, h.flags, h.file, h.index⟩
theorem NM.step {out : List Rg} {x : Rg} (h : NM out) : NM (rnS out x) := by
  rcases snoc_cases out with rfl | ⟨a, y, rfl⟩
  · rfl
  · rw [rnS_snoc]
    unfold NM at *
    cases hm : rmrg y x with
    | false => rw [cond_false, rc2_snoc, h, hm]; rfl
    | true =>
      have hg := rmrg_iff.1 hm
      rw [cond_true, rmerge_yes hg]
      rcases snoc_cases a with rfl | ⟨b, z, rfl⟩
      · rfl
      · rw [List.append_assoc] at h ⊢
        show rc2 (b ++ [z, mgR y x]) = false
        have h : rc2 (b ++ [z, y]) = false := h
        rw [rc2_snoc] at h ⊢
        simp only [Bool.or_eq_false_iff] at h ⊢
        refine ⟨h.1, ?_⟩
        cases hz : rmrg z (mgR y x) with
        | false => rfl
        | true => rw [rmrg_iff.2 (hg.lft (rmrg_iff.1 hz))] at h; cases h.2
theorem NM.nrm_aux : ∀ (l out : List Rg), NM out → NM (l.foldl rnS out)
  | [], out, h => h
  | x :: xs, out, h => by rw [List.foldl_cons]; exact nrm_aux xs _ h.step
theorem NM.nrm (l : List Rg) : NM (rnrm l) := NM.nrm_aux l [] rfl
/-- A merged list that is in order already. -/
theorem nrm_id_aux : ∀ (l out : List Rg), NM (out ++ l) → l.foldl rnS out = out ++ l
  | [], out, _ => by simp
  | x :: xs, out, h => by
    rw [List.foldl_cons]
    have e : rnS out x = out ++ [x] := by
      rcases snoc_cases out with rfl | ⟨a, y, rfl⟩
      · rfl
      · rw [rnS_snoc]
        have : rmrg y x = false := by
          have key : ∀ (a : List Rg), rc2 (a ++ y :: x :: xs) = false → rmrg y x = false := by
            intro a
            induction a with
            | nil => intro h; rw [List.nil_append, rc2] at h; cases hm : rmrg y x <;> rw [hm] at h <;> first | rfl | cases h
            | cons b a ih =>
              intro h
              refine ih ?_
              cases a with
              | nil => simp only [List.cons_append, List.nil_append] at h ⊢; rw [rc2] at h; cases hm : rmrg b y <;> rw [hm] at h <;> first | exact h | cases h
              | cons c a => simp only [List.cons_append] at h ⊢; rw [rc2] at h; cases hm : rmrg b c <;> rw [hm] at h <;> first | exact h | cases h
          exact key a (by have := h; unfold NM at this; simpa using this)
        rw [this]; simp
    rw [e, nrm_id_aux xs _ (by simpa using h)]
    simp
theorem nrm_id {l : List Rg} (h : NM l) : rnrm l = l := nrm_id_aux l [] h
/-! ### Building an address space -/
theorem abuild_eq {l : List Rg} (hs : l.length ≤ BIG) (h : LOK l) : abuildF (rnrm l) = rtreeF l := by
  have ho := h.nrm.ord
  have hl : (rnrm l).length ≤ BIG := Nat.le_trans (rnrm_len l) hs
  unfold abuildF rtreeF
  rw [buildF_eq ho, rbuildF_eq hl ho]
end Go.Proofs.Ytalcipbagidbpaa
end

section
set_option linter.unusedVariables false
namespace Go.Proofs.Ytalcipbagidbpaa
open Go.Proofs
/-! ### Split -/
def clr (r : Rg) : Int := bif flagR r 2 then r.flags - 2 else r.flags
def loR (r : Rg) (q : Int) : Rg := { r with pages := q - r.start }
def hiR (r : Rg) (q : Int) : Rg := { r with start := q, pages := r.start + r.pages - q, flags := clr r, index := bif decide (r.file ≥ 0) then r.index + (q - r.start) else r.index }
theorem clr_tab : ∀ n : Nat, n < 16 → (let r : Rg := ⟨0, 0, 0, (n : Int), 0, 0⟩; 0 ≤ clr r ∧ clr r ≤ 15 ∧ w64 (r.flags - 2) = r.flags - 2 ∧
    flagR { r with flags := clr r } 1 = flagR r 1 ∧ flagR { r with flags := clr r } 4 = flagR r 4 ∧ flagR { r with flags := clr r } 8 = flagR r 8 ∧ flagR { r with flags := clr r } 2 = false) := by decide +kernel
theorem clr_ok {r : Rg} (h0 : 0 ≤ r.flags) (h1 : r.flags ≤ 15) : 0 ≤ clr r ∧ clr r ≤ 15 ∧ w64 (r.flags - 2) = r.flags - 2 ∧
    flagR { r with flags := clr r } 1 = flagR r 1 ∧ flagR { r with flags := clr r } 4 = flagR r 4 ∧ flagR { r with flags := clr r } 8 = flagR r 8 ∧ flagR { r with flags := clr r } 2 = false := by
  have := clr_tab r.flags.toNat (by omega)
  rw [show ((r.flags.toNat : Nat) : Int) = r.flags by omega] at this
  exact this
theorem w_small {n : Int} (h1 : -100000 ≤ n) (h2 : n ≤ 100000) : w64 n = n := wrap_id (by omega) (by omega)
theorem splitH_is {r : Rg} (h : Rok r) {q : Int} (h1 : r.start < q) (h2 : q < r.start + r.pages) : splitH r q = hiR r q := by
  have hv := h.vd
  unfold Vd at hv
  have hi := h.idx
  have hf := h.fi0
  have e : (r.file != -1) = decide (r.file ≥ 0) := by rw [Bool.eq_iff_iff]; simp; omega
  unfold splitH hiR
  rw [(fl_ok2 h.fl0 h.fl1).1, e, w_small (n := q - r.start) (by omega) (by omega), w_small (n := r.pages - (q - r.start)) (by omega) (by omega), w_small (n := r.index + (q - r.start)) (by omega) (by omega), (clr_ok h.fl0 h.fl1).2.2.1]
  simp only [Rg.mk.injEq, true_and, clr, and_self, and_true]
  omega
theorem rsplH_is {r : Rg} (h : Rok r) {q : Int} (h1 : r.start < q) (h2 : q < r.start + r.pages) : rsplH r q = hiR r q := by
  have hv := h.vd
  unfold Vd at hv
  have hi := h.idx
  unfold rsplH hiR
  rw [w_small (n := q - r.start) (by omega) (by omega), w_small (n := r.pages - (q - r.start)) (by omega) (by omega), w_small (n := r.index + (q - r.start)) (by omega) (by omega), (clr_ok h.fl0 h.fl1).2.2.1]
  simp only [Rg.mk.injEq, true_and, clr, and_self, and_true]
  omega
structure SplR (r : Rg) (q : Int) : Prop where
  e : splitE r q = 0
  l : split1 r q = loR r q
  h : split2 r q = hiR r q
  re : rsplE r q = 0
  rl : rspl1 r q = loR r q
  rh : rspl2 r q = hiR r q
theorem spl_in {r : Rg} (h : Rok r) {q : Int} (h1 : r.start < q) (h2 : q < r.start + r.pages) : SplR r q := by
  have hv := h.vd
  unfold Vd at hv
  have hk : splitOK r q = true := by
    unfold splitOK
    rw [endR_is h, dF (by omega), dF (by omega)]; rfl
  have hN : rsplN r q = false := by
    unfold rsplN
    rw [w_end h, dF (by omega), dF (by omega)]; rfl
  have hK : splitK r q = true := by unfold splitK; rw [chk0 h, hk]; rfl
  have hw : w64 (q - r.start) = q - r.start := w_small (by omega) (by omega)
  refine ⟨?_, ?_, ?_, ?_, ?_, ?_⟩
  · unfold splitE; rw [chk0 h, hk]; rfl
  · unfold split1 splitL; rw [hK, hw]; rfl
  · unfold split2; rw [hK, splitH_is h h1 h2]; rfl
  · unfold rsplE; rw [rchk0 h, hN]; rfl
  · unfold rspl1 rsplL; rw [rchk0 h, hN, hw]; rfl
  · unfold rspl2; rw [rchk0 h, hN, rsplH_is h h1 h2]; rfl
theorem spl_out {r : Rg} (h : Rok r) {q : Int} (h1 : ¬ (r.start < q ∧ q < r.start + r.pages)) : splitE r q = 2 := by
  have hk : splitOK r q = false := by
    unfold splitOK
    rw [endR_is h]
    by_cases h2 : q ≤ r.start
    · rw [dT h2]; rfl
    · rw [dT (show q ≥ r.start + r.pages by omega), Bool.or_true]; rfl
  unfold splitE
  rw [chk0 h, hk]; rfl
theorem lo_ok {r : Rg} (h : Rok r) {q : Int} (h1 : r.start < q) (h2 : q < r.start + r.pages) : Rok (loR r q) := by
  have hv := h.vd
  unfold Vd at hv
  refine ⟨⟨hv.1, by show 1 ≤ q - r.start; omega, by show r.start + (q - r.start) ≤ 512; omega⟩, h.prot, h.fl0, h.fl1, h.fi0, h.fi1, h.anon, fun hf => ?_⟩
  obtain ⟨a, b, c, d⟩ := h.filed hf
  exact ⟨a, b, c, by show r.index + (q - r.start) ≤ 16; omega⟩
theorem hi_ok {r : Rg} (h : Rok r) {q : Int} (h1 : r.start < q) (h2 : q < r.start + r.pages) : Rok (hiR r q) := by
  have hv := h.vd
  unfold Vd at hv
  obtain ⟨c0, c1, _, d1, d4, d8, d2⟩ := clr_ok h.fl0 h.fl1
  have hf0 := h.fi0
  refine ⟨⟨by show 0 ≤ q; omega, by show 1 ≤ r.start + r.pages - q; omega, by show q + (r.start + r.pages - q) ≤ 512; omega⟩, h.prot, c0, c1, h.fi0, h.fi1, fun hf => ?_, fun hf => ?_⟩
  · have hf : r.file = -1 := hf
    obtain ⟨a, b⟩ := h.anon hf
    refine ⟨d1.trans a, ?_⟩
    show (bif decide (r.file ≥ 0) then r.index + (q - r.start) else r.index) = 0
    rw [dF (by omega)]; exact b
  · have hf : r.file ≠ -1 := hf
    obtain ⟨a, b, c, d⟩ := h.filed hf
    have e : (hiR r q).index = r.index + (q - r.start) := by
      show (bif decide (r.file ≥ 0) then r.index + (q - r.start) else r.index) = _
      rw [dT (show r.file ≥ 0 by omega)]; rfl
    refine ⟨d2, d8.trans b, ?_, ?_⟩
    · rw [e]; omega
    · rw [e]; show r.index + (q - r.start) + (r.start + r.pages - q) ≤ 16; omega
/-! ### Parts of a region -/
/-- Parts of r, in order. -/
structure Prt (r : Rg) (xs : List Rg) : Prop where
  ok : ∀ x ∈ xs, Rok x
  lo : ∀ x ∈ xs, r.start ≤ x.start
  hi : ∀ x ∈ xs, x.start + x.pages ≤ r.start + r.pages
  pw : xs.Pairwise Bef
theorem LOK.flat {f : Rg → List Rg} : ∀ {l : List Rg}, LOK l → (∀ r ∈ l, Prt r (f r)) → LOK (l.flatMap f)
  | [], _, _ => ⟨fun r hr => by simp at hr, by simp⟩
  | a :: l, h, hf => by
    have ha := hf a (by simp)
    have ih := LOK.flat (l := l) ⟨fun r hr => h.1 r (by simp [hr]), (List.pairwise_cons.1 h.2).2⟩ fun r hr => hf r (by simp [hr])
    refine ⟨fun x hx => ?_, ?_⟩
    · rw [List.flatMap_cons, List.mem_append] at hx
      rcases hx with hx | hx
      · exact ha.ok x hx
      · exact ih.1 x hx
    · rw [List.flatMap_cons, List.pairwise_append]
      refine ⟨ha.pw, ih.2, fun x hx y hy => ?_⟩
      obtain ⟨b, hb, hy⟩ := List.mem_flatMap.1 hy
      have h1 := ha.hi x hx
      have h2 := (hf b (by simp [hb])).lo y hy
      have h3 := (List.pairwise_cons.1 h.2).1 b hb
      unfold Bef at *
      omega
theorem Prt.one {r : Rg} (h : Rok r) : Prt r [r] := ⟨by simp [h], by simp, by simp, by simp⟩
/-! ### Cut -/
/-- Within the address space. -/
def Rin (p c : Int) : Prop := 0 ≤ p ∧ 1 ≤ c ∧ p + c ≤ 512
def cutS (r : Rg) (p c : Int) : List Rg :=
  bif decide (p ≥ r.start + r.pages) || decide (p + c ≤ r.start) then [r] else (bif decide (p > r.start) then [loR r p] else []) ++ (bif decide (p + c < r.start + r.pages) then [hiR r (p + c)] else [])
theorem cutL_is {r : Rg} (h : Rok r) {p c : Int} (hr : Rin p c) : cutL r p c = cutS r p c := by
  have hv := h.vd
  unfold Vd at hv
  unfold Rin at hr
  have wp : w64 (p + c) = p + c := w_small (by omega) (by omega)
  have hA : cutA p c = false := by
    unfold cutA
    rw [w_small (n := 512 - p) (by omega) (by omega), dF (by omega), dF (by omega), dF (by omega)]; rfl
  unfold cutL cutS cutO
  rw [chk0 h, hA, dF (show ¬ c < 1 by omega), endR_is h, wp]
  simp only [bne_self_eq_false, cond_false]
  cases ho : decide (p ≥ r.start + r.pages) || decide (p + c ≤ r.start) with
  | true => rfl
  | false =>
    simp only [Bool.or_eq_false_iff, decide_eq_false_iff_not] at ho
    rw [cond_false, cond_false]
    congr 1
    · by_cases c1 : r.start < p
      · have s := spl_in h c1 (by omega)
        rw [s.e, s.l, dT (show p > r.start by omega)]; rfl
      · rw [spl_out h (by omega), dF (show ¬ p > r.start by omega)]; rfl
    · by_cases c1 : p + c < r.start + r.pages
      · have s := spl_in h (q := p + c) (by omega) c1
        rw [s.e, s.h, dT c1]; rfl
      · rw [spl_out h (by omega), dF c1]; rfl
theorem rcutL_is {r : Rg} (h : Rok r) {p c : Int} (hr : Rin p c) : rcutL r p c = cutS r p c := by
  have hv := h.vd
  unfold Vd at hv
  unfold Rin at hr
  have wp : w64 (p + c) = p + c := w_small (by omega) (by omega)
  have hA : rcutA p c = false := by
    unfold rcutA
    rw [w_small (n := 512 - c) (by omega) (by omega), dF (by omega), dF (by omega), dF (by omega)]; rfl
  unfold rcutL cutS rcutO
  rw [rchk0 h, hA, dF (show ¬ c < 1 by omega), w_end h, wp]
  simp only [bne_self_eq_false, cond_false]
  cases ho : decide (p ≥ r.start + r.pages) || decide (p + c ≤ r.start) with
  | true => rfl
  | false =>
    simp only [Bool.or_eq_false_iff, decide_eq_false_iff_not] at ho
    rw [cond_false, cond_false]
    congr 1
    · by_cases c1 : r.start < p
      · have s := spl_in h c1 (by omega)
        rw [s.rl, dT (show p > r.start by omega)]
      · rw [dF (show ¬ p > r.start by omega)]; rfl
    · by_cases c1 : p + c < r.start + r.pages
      · have s := spl_in h (q := p + c) (by omega) c1
        rw [s.rh, dT c1]
      · rw [dF c1]; rfl
theorem cutS_prt {r : Rg} (h : Rok r) {p c : Int} (hr : Rin p c) : Prt r (cutS r p c) := by
  have hv := h.vd
  unfold Vd at hv
  unfold Rin at hr
  unfold cutS
  cases ho : decide (p ≥ r.start + r.pages) || decide (p + c ≤ r.start) with
  | true => exact .one h
  | false =>
    simp only [Bool.or_eq_false_iff, decide_eq_false_iff_not] at ho
    rw [cond_false]
    have key : ∀ x, x ∈ (bif decide (p > r.start) then [loR r p] else []) → x = loR r p ∧ r.start < p := by
      intro x hx
      by_cases c1 : p > r.start
      · rw [dT c1] at hx; exact ⟨by simpa using hx, by omega⟩
      · rw [dF c1] at hx; simp at hx
    have key2 : ∀ x, x ∈ (bif decide (p + c < r.start + r.pages) then [hiR r (p + c)] else []) → x = hiR r (p + c) ∧ p + c < r.start + r.pages := by
      intro x hx
      by_cases c1 : p + c < r.start + r.pages
      · rw [dT c1] at hx; exact ⟨by simpa using hx, by omega⟩
      · rw [dF c1] at hx; simp at hx
    refine ⟨fun x hx => ?_, fun x hx => ?_, fun x hx => ?_, ?_⟩
    · rcases List.mem_append.1 hx with hx | hx
      · obtain ⟨rfl, c1⟩ := key x hx; exact lo_ok h c1 (by omega)
      · obtain ⟨rfl, c1⟩ := key2 x hx; exact hi_ok h (by omega) c1
    · rcases List.mem_append.1 hx with hx | hx
      · obtain ⟨rfl, c1⟩ := key x hx; exact Int.le_refl _
      · obtain ⟨rfl, c1⟩ := key2 x hx; show r.start ≤ p + c; omega
    · rcases List.mem_append.1 hx with hx | hx
      · obtain ⟨rfl, c1⟩ := key x hx; show r.start + (p - r.start) ≤ _; omega
      · obtain ⟨rfl, c1⟩ := key2 x hx; show p + c + (r.start + r.pages - (p + c)) ≤ _; omega
    · rw [List.pairwise_append]
      refine ⟨by cases decide (p > r.start) <;> simp, by cases decide (p + c < r.start + r.pages) <;> simp, fun x hx y hy => ?_⟩
      obtain ⟨rfl, c1⟩ := key x hx
      obtain ⟨rfl, c2⟩ := key2 y hy
      show r.start + (p - r.start) ≤ p + c
      omega
/-! ### Overlap -/
theorem rhas_iff {b : Rg} {q : Int} : rhas b q = true ↔ Rok b ∧ b.start ≤ q ∧ q < b.start + b.pages := by
  unfold rhas
  by_cases h : Rok b
  · rw [rchk0 h, w_end h]
    simp [h]
  · have : (rchk b == 0) = false := by simpa using fun e => h (rok_iff.1 e)
    rw [this]
    simp [h]
theorem rovN_iff {b : Rg} : ∀ (n : Nat) (p : Int), rovN b n p = true ↔ ∃ i : Nat, i < n ∧ rhas b (p + i) = true
  | 0, p => by simp [rovN]
  | n + 1, p => by
    rw [rovN]
    cases h : rhas b p with
    | true => simp only [cond_true, true_iff]; exact ⟨0, by omega, by simpa using h⟩
    | false =>
      rw [cond_false, rovN_iff n (p + 1)]
      constructor
      · rintro ⟨i, h1, h2⟩
        exact ⟨i + 1, by omega, by rw [show p + ((i + 1 : Nat) : Int) = p + 1 + i by omega]; exact h2⟩
      · rintro ⟨i, h1, h2⟩
        rcases i with _ | i
        · rw [show p + ((0 : Nat) : Int) = p by omega, h] at h2; cases h2
        · exact ⟨i, by omega, by rw [show p + 1 + (i : Int) = p + ((i + 1 : Nat) : Int) by omega]; exact h2⟩
/-- They have a page in common. -/
def Ov (a b : Rg) : Prop := a.start < b.start + b.pages ∧ b.start < a.start + a.pages
theorem rovF_iff {a b : Rg} : rovF a b = true ↔ Rok a ∧ Rok b ∧ Ov a b := by
  unfold rovF
  by_cases ha : Rok a
  · by_cases hb : Rok b
    · rw [rchk0 ha, rchk0 hb]
      simp only [bne_self_eq_false, cond_false]
      rw [rovN_iff]
      have h1 := ha.vd
      have h2 := hb.vd
      unfold Vd at h1 h2
      unfold Ov
      constructor
      · rintro ⟨i, hi, hh⟩
        have := (rhas_iff.1 hh).2
        exact ⟨ha, hb, by omega, by omega⟩
      · rintro ⟨_, _, h3, h4⟩
        by_cases c : a.start ≤ b.start
        · exact ⟨(b.start - a.start).toNat, by omega, rhas_iff.2 ⟨hb, by omega, by omega⟩⟩
        · exact ⟨0, by omega, rhas_iff.2 ⟨hb, by omega, by omega⟩⟩
    · rw [rchk0 ha, bne0.2 fun e => hb (rok_iff.1 e)]
      simp [hb]
  · rw [bne0.2 fun e => ha (rok_iff.1 e)]
    simp [ha]
theorem ovl_iff {a b : Rg} : ovl a b = true ↔ Rok a ∧ Rok b ∧ Ov a b := by
  unfold ovl
  by_cases ha : Rok a
  · by_cases hb : Rok b
    · rw [chk0 ha, chk0 hb, endR_is ha, endR_is hb]
      simp [ha, hb, Ov]
    · have : (chkR b == 0) = false := by rw [chk_eq]; simpa using fun e => hb (rok_iff.1 e)
      rw [this]; simp [hb]
  · have : (chkR a == 0) = false := by rw [chk_eq]; simpa using fun e => ha (rok_iff.1 e)
    rw [this]; simp [ha]
theorem ovl_eq (a b : Rg) : ovl a b = rovF a b := by rw [Bool.eq_iff_iff, ovl_iff, rovF_iff]
theorem mpO_eq (r : Rg) : ∀ l : List Rg, mpO r l = rmO r l
  | [] => rfl
  | x :: xs => by rw [mpO, rmO, ovl_eq, mpO_eq r xs]
theorem rmO_iff {r : Rg} (hr : Rok r) : ∀ {l : List Rg}, LOK l → (rmO r l = true ↔ ∃ x ∈ l, Ov x r)
  | [], _ => by simp [rmO]
  | x :: xs, h => by
    rw [rmO]
    have hx := h.1 x (by simp)
    have ih := rmO_iff hr (l := xs) ⟨fun y hy => h.1 y (by simp [hy]), (List.pairwise_cons.1 h.2).2⟩
    cases ho : rovF x r with
    | true => simp only [cond_true, List.mem_cons, exists_eq_or_imp, true_iff]; exact .inl (rovF_iff.1 ho).2.2
    | false =>
      rw [cond_false, ih]
      simp only [List.mem_cons, exists_eq_or_imp]
      constructor
      · exact fun h => .inr h
      · rintro (h1 | h1)
        · rw [rovF_iff.2 ⟨hx, hr, h1⟩] at ho; cases ho
        · exact h1
/-! ### Insertion into a list -/
def ins (r : Rg) : List Rg → List Rg
  | [] => [r]
  | x :: xs => bif decide (r.start < x.start) then r :: x :: xs else x :: ins r xs
theorem rmL_true (r : Rg) : ∀ (l out : List Rg), rmL r l true out = out ++ l
  | [], out => by simp [rmL]
  | x :: xs, out => by
    rw [rmL, show rmD r true x = true from rfl, rmL_true r xs]
    show (out ++ [x]) ++ xs = _
    simp
theorem rmL_false (r : Rg) : ∀ (l out : List Rg), rmL r l false out = out ++ ins r l
  | [], out => rfl
  | x :: xs, out => by
    rw [rmL, ins]
    by_cases c : r.start < x.start
    · have e1 : rmD r false x = true := by unfold rmD; rw [dT c]; rfl
      have e2 : rmI r false x out = (out ++ [r]) ++ [x] := by unfold rmI; rw [dT c]; rfl
      rw [e1, e2, rmL_true, dT c]; simp
    · have e1 : rmD r false x = false := by unfold rmD; rw [dF c]; rfl
      have e2 : rmI r false x out = out ++ [x] := by unfold rmI; rw [dF c]; rfl
      rw [e1, e2, rmL_false r xs, dF c]; simp
theorem mpA_none (r : Rg) : ∀ (l : List Rg) (i a : Nat), (∀ x ∈ l, ¬ x.start < r.start) → mpA r l i a = a
  | [], i, a, _ => rfl
  | x :: xs, i, a, h => by
    rw [mpA, dF (h x (by simp)), cond_false]
    exact mpA_none r xs (i + 1) a fun y hy => h y (by simp [hy])
theorem mpA_add (r : Rg) : ∀ (l : List Rg) (i : Nat), mpA r l (i + 1) (i + 1) = mpA r l i i + 1
  | [], i => rfl
  | x :: xs, i => by
    rw [mpA, mpA]
    by_cases c : x.start < r.start
    · rw [dT c, cond_true, cond_true]; exact mpA_add r xs (i + 1)
    · rw [dF c, cond_false, cond_false]
      have key : ∀ (l : List Rg) (i a : Nat), mpA r l (i + 1) (a + 1) = mpA r l i a + 1 := by
        intro l
        induction l with
        | nil => intro i a; rfl
        | cons y ys ih =>
          intro i a
          rw [mpA, mpA]
          cases decide (y.start < r.start)
          · exact ih (i + 1) a
          · exact ih (i + 1) (i + 1)
      exact key xs (i + 1) i
theorem insL_is {r : Rg} : ∀ {l : List Rg}, LOK l → (∀ x ∈ l, ¬ Ov x r) → Rok r → insL l r = ins r l
  | [], _, _, _ => rfl
  | x :: xs, h, ho, hr => by
    have hx := h.1 x (by simp)
    have ih := insL_is (l := xs) ⟨fun y hy => h.1 y (by simp [hy]), (List.pairwise_cons.1 h.2).2⟩ (fun y hy => ho y (by simp [hy])) hr
    have hno := ho x (by simp)
    have h1 := hx.vd
    have h2 := hr.vd
    unfold Vd at h1 h2
    unfold Ov at hno
    unfold insL mapAt at ih ⊢
    rw [ins, mpA]
    by_cases c : r.start < x.start
    · rw [dT c, dF (show ¬ x.start < r.start by omega), cond_true, cond_false, mpA_none r xs 1 0 fun y hy => by
        have := (List.pairwise_cons.1 h.2).1 y hy
        unfold Bef at this; omega]
      rfl
    · rw [dF c, dT (show x.start < r.start by omega), cond_true, cond_false, mpA_add]
      rw [← ih]
      rfl
theorem LOK.ins {r : Rg} (hr : Rok r) : ∀ {l : List Rg}, LOK l → (∀ x ∈ l, ¬ Ov x r) → LOK (ins r l) ∧ ∀ y, y ∈ ins r l ↔ y = r ∨ y ∈ l
  | [], _, _ => ⟨⟨by simp [Go.Proofs.Ytalcipbagidbpaa.ins, hr], by simp [Go.Proofs.Ytalcipbagidbpaa.ins]⟩, by simp [Go.Proofs.Ytalcipbagidbpaa.ins]⟩
  | x :: xs, h, ho => by
    have hx := h.1 x (by simp)
    have htl : LOK xs := ⟨fun y hy => h.1 y (by simp [hy]), (List.pairwise_cons.1 h.2).2⟩
    have hhd := (List.pairwise_cons.1 h.2).1
    obtain ⟨ih, im⟩ := LOK.ins hr (l := xs) htl fun y hy => ho y (by simp [hy])
    have hno := ho x (by simp)
    have h1 := hx.vd
    have h2 := hr.vd
    unfold Vd at h1 h2
    unfold Ov at hno
    rw [Go.Proofs.Ytalcipbagidbpaa.ins]
    by_cases c : r.start < x.start
    · rw [dT c, cond_true]
      refine ⟨⟨fun y hy => ?_, ?_⟩, fun y => by simp⟩
      · rcases List.mem_cons.1 hy with rfl | hy
        · exact hr
        · exact h.1 y hy
      · rw [List.pairwise_cons]
        refine ⟨fun y hy => ?_, h.2⟩
        rcases List.mem_cons.1 hy with rfl | hy
        · unfold Bef; omega
        · have := hhd y hy; unfold Bef at *; omega
    · rw [dF c, cond_false]
      refine ⟨⟨fun y hy => ?_, ?_⟩, fun y => by rw [List.mem_cons, im, List.mem_cons]; constructor <;> (intro h; rcases h with h | h | h <;> simp [h])⟩
      · rcases List.mem_cons.1 hy with rfl | hy
        · exact hx
        · exact ih.1 y hy
      · rw [List.pairwise_cons]
        refine ⟨fun y hy => ?_, ih.2⟩
        rcases (im y).1 hy with rfl | hy
        · unfold Bef; omega
        · exact hhd y hy
theorem ins_len (r : Rg) : ∀ l : List Rg, (ins r l).length = l.length + 1
  | [] => rfl
  | x :: xs => by
    rw [ins]
    cases decide (r.start < x.start)
    · simp [ins_len r xs]
    · simp
end Go.Proofs.Ytalcipbagidbpaa
end

section
set_option linter.unusedVariables false
namespace Go.Proofs.Ytalcipbagidbpaa
open Go.Proofs
theorem amap_eq {t : Tr} (hs : t.sz ≤ 1000000) (r : Rg) : amapF t r = rmapF t r := by
  have hs' : t.sz ≤ BIG := Nat.le_trans hs (by decide)
  unfold amapF rmapF
  rw [acF_eq hs', chk_eq, mpO_eq]
  by_cases h : rcF t = 0
  · have hk := (rcF_iff hs').1 h
    rw [h, list_sok hs' hk, rls_sok hs' hk]
    simp only [bne_self_eq_false, cond_false]
    by_cases hr : rchk r = 0
    · have hr' := rok_iff.1 hr
      rw [hr]
      simp only [bne_self_eq_false, cond_false]
      cases ho : rmO r (lst t) with
      | true => rfl
      | false =>
        rw [cond_false, cond_false]
        have hno : ∀ x ∈ lst t, ¬ Ov x r := fun x hx hov => by rw [(rmO_iff hr' hk.lok).2 ⟨x, hx, hov⟩] at ho; cases ho
        have e : rinL t r = ins r (lst t) := by unfold rinL; rw [rls_sok hs' hk, rmL_false]; rfl
        rw [e, insL_is hk.lok hno hr', nrmL_eq]
        exact abuild_eq (by rw [ins_len]; have := hk.few; unfold BIG; omega) (LOK.ins hr' hk.lok hno).1
    · rw [bne0.2 hr]; rfl
  · rw [bne0.2 h]; rfl
theorem acheck_eq {t : Tr} (hs : t.sz ≤ BIG) (p c : Int) : acheckF t p c = bif rcF t != 0 then rcF t else rwiF p c := by
  unfold acheckF rwiF
  rw [acF_eq hs]
  congr 1
  by_cases h : c < 1
  · rw [dT h]; rfl
  · rw [dF h, cond_false, cond_false]
    congr 1
    rw [Bool.eq_iff_iff]
    simp only [Bool.or_eq_true, decide_eq_true_eq]
    by_cases h1 : 0 ≤ p ∧ p ≤ 512
    · rw [w_small (n := 512 - p) (by omega) (by omega)]
      by_cases h2 : c ≤ 512
      · rw [w_small (n := 512 - c) (by omega) (by omega)]; omega
      · omega
    · constructor
      · intro _
        by_cases h2 : c ≤ 512
        · rw [w_small (n := 512 - c) (by omega) (by omega)]; omega
        · omega
      · intro _; omega
theorem rwi_in {p c : Int} (h : rwiF p c = 0) : Rin p c := by
  have h0 := rwi_range (p := p) (c := c) (by rw [h]; rfl)
  refine ⟨h0.1, ?_, h0.2.1⟩
  unfold rwiF at h
  by_cases h2 : c < 1
  · rw [dT h2] at h; cases h
  · omega
theorem flatMap_congr {l : List Rg} {f g : Rg → List Rg} (h : ∀ r ∈ l, f r = g r) : l.flatMap f = l.flatMap g := by
  induction l with
  | nil => rfl
  | cons a l ih => rw [List.flatMap_cons, List.flatMap_cons, h a (by simp), ih fun r hr => h r (by simp [hr])]
theorem unmap_eq {t : Tr} (hs : t.sz ≤ 1000000) (p c : Int) : unmapF t p c = rumF t p c := by
  have hs' : t.sz ≤ BIG := Nat.le_trans hs (by decide)
  unfold unmapF rumF
  rw [acheck_eq hs']
  by_cases h : rcF t = 0
  · have hk := (rcF_iff hs').1 h
    rw [h]
    simp only [bne_self_eq_false, cond_false]
    by_cases hw : rwiF p c = 0
    · have hr := rwi_in hw
      rw [hw]
      simp only [bne_self_eq_false, cond_false]
      have e1 : unL t p c = (lst t).flatMap fun r => cutS r p c := by
        unfold unL; rw [list_sok hs' hk]; exact flatMap_congr fun r h => cutL_is (hk.lok.1 r h) hr
      have e2 : rumL t p c = (lst t).flatMap fun r => cutS r p c := by
        unfold rumL; rw [rls_sok hs' hk]; exact flatMap_congr fun r h => rcutL_is (hk.lok.1 r h) hr
      have hl : (unL t p c).length ≤ BIG := by
        have h1 := flatMap_len (f := fun r => cutL r p c) (fun r => cutL_len r p c) (listF t)
        rw [list_sok hs' hk] at h1
        have h2 := hk.few
        have h3 : (unL t p c).length = ((lst t).flatMap fun r => cutL r p c).length := by unfold unL; rw [list_sok hs' hk]
        unfold BIG; omega
      rw [e2, ← e1, nrmL_eq]
      exact abuild_eq hl (by rw [e1]; exact hk.lok.flat fun r h => cutS_prt (hk.lok.1 r h) hr)
    · rw [bne0.2 hw]; rfl
  · rw [bne0.2 h]
    show (bif rcF t != 0 then (zT, rcF t) else _) = _
    rw [bne0.2 h]; rfl
/-! ### The parts of change -/
/-- What begins in the range. -/
def upR (r : Rg) (p : Int) : Rg := bif decide (p > r.start) then hiR r p else r
def midR (r : Rg) (p c : Int) : Rg := bif decide (p + c < r.start + r.pages) then loR (upR r p) (p + c) else upR r p
def chS (tF : Rg → Rg) (r : Rg) (p c : Int) : List Rg := (bif decide (p > r.start) then [loR r p] else []) ++ (tF (midR r p c) :: (bif decide (p + c < r.start + r.pages) then [hiR (upR r p) (p + c)] else []))
structure UpR (r : Rg) (p : Int) : Prop where
  ok : Rok (upR r p)
  end_ : (upR r p).start + (upR r p).pages = r.start + r.pages
  st : (upR r p).start = max r.start p
  prot : (upR r p).prot = r.prot
  fl : flagR (upR r p) 4 = flagR r 4
theorem up_is {r : Rg} (h : Rok r) {p : Int} (hp : p < r.start + r.pages) : UpR r p := by
  by_cases c : p > r.start
  · have e : upR r p = hiR r p := by unfold upR; rw [dT c]; rfl
    refine ⟨e ▸ hi_ok h c hp, ?_, ?_, by rw [e]; rfl, by rw [e]; exact (clr_ok h.fl0 h.fl1).2.2.2.2.1⟩
    · rw [e]; show p + (r.start + r.pages - p) = _; omega
    · rw [e]; show p = _; omega
  · have e : upR r p = r := by unfold upR; rw [dF c]; rfl
    exact ⟨e.symm ▸ h, by rw [e], by rw [e]; omega, by rw [e], by rw [e]⟩
structure MidR (r : Rg) (p c : Int) : Prop where
  ok : Rok (midR r p c)
  end_ : (midR r p c).start + (midR r p c).pages = min (r.start + r.pages) (p + c)
  st : (midR r p c).start = max r.start p
  prot : (midR r p c).prot = r.prot
  fl : flagR (midR r p c) 4 = flagR r 4
theorem mid_is {r : Rg} (h : Rok r) {p c : Int} (hr : Rin p c) (h1 : p < r.start + r.pages) (h2 : r.start < p + c) : MidR r p c := by
  have hu := up_is h h1
  unfold Rin at hr
  by_cases q : p + c < r.start + r.pages
  · have e : midR r p c = loR (upR r p) (p + c) := by unfold midR; rw [dT q]; rfl
    have := hu.st
    refine ⟨e ▸ lo_ok hu.ok (by omega) (by rw [hu.end_]; exact q), ?_, by rw [e]; exact hu.st, by rw [e]; exact hu.prot, by rw [e]; exact hu.fl⟩
    rw [e]; show (upR r p).start + (p + c - (upR r p).start) = _; omega
  · have e : midR r p c = upR r p := by unfold midR; rw [dF q]; rfl
    exact ⟨e ▸ hu.ok, by rw [e, hu.end_]; omega, by rw [e]; exact hu.st, by rw [e]; exact hu.prot, by rw [e]; exact hu.fl⟩
theorem chS_prt {tF : Rg → Rg} {r : Rg} (h : Rok r) {p c : Int} (hr : Rin p c) (h1 : p < r.start + r.pages) (h2 : r.start < p + c) (ht : Rok (tF (midR r p c))) (hst : (tF (midR r p c)).start = (midR r p c).start) (hpg : (tF (midR r p c)).pages = (midR r p c).pages) : Prt r (chS tF r p c) := by
  have hu := up_is h h1
  have hm := mid_is h hr h1 h2
  have hus := hu.st
  have hue := hu.end_
  have hms := hm.st
  have hme := hm.end_
  unfold Rin at hr
  have key : ∀ x, x ∈ (bif decide (p > r.start) then [loR r p] else []) → x = loR r p ∧ r.start < p := by
    intro x hx
    by_cases c1 : p > r.start
    · rw [dT c1] at hx; exact ⟨by simpa using hx, by omega⟩
    · rw [dF c1] at hx; simp at hx
  have key2 : ∀ x, x ∈ (bif decide (p + c < r.start + r.pages) then [hiR (upR r p) (p + c)] else []) → x = hiR (upR r p) (p + c) ∧ p + c < r.start + r.pages := by
    intro x hx
    by_cases c1 : p + c < r.start + r.pages
    · rw [dT c1] at hx; exact ⟨by simpa using hx, by omega⟩
    · rw [dF c1] at hx; simp at hx
  have fin : ∀ x, x ∈ chS tF r p c → Rok x ∧ r.start ≤ x.start ∧ x.start + x.pages ≤ r.start + r.pages := by
    intro x hx
    rcases List.mem_append.1 hx with hx | hx
    · obtain ⟨rfl, c1⟩ := key x hx
      exact ⟨lo_ok h c1 h1, Int.le_refl _, by show r.start + (p - r.start) ≤ _; omega⟩
    · rcases List.mem_cons.1 hx with rfl | hx
      · rw [hst, hpg]; exact ⟨ht, by omega, by omega⟩
      · obtain ⟨rfl, c1⟩ := key2 x hx
        exact ⟨hi_ok hu.ok (by omega) (by omega), by show r.start ≤ p + c; omega, by show p + c + ((upR r p).start + (upR r p).pages - (p + c)) ≤ _; omega⟩
  refine ⟨fun x hx => (fin x hx).1, fun x hx => (fin x hx).2.1, fun x hx => (fin x hx).2.2, ?_⟩
  unfold chS
  rw [List.pairwise_append, List.pairwise_cons]
  refine ⟨by cases decide (p > r.start) <;> simp, ⟨fun y hy => ?_, by cases decide (p + c < r.start + r.pages) <;> simp⟩, fun x hx y hy => ?_⟩
  · obtain ⟨rfl, c1⟩ := key2 y hy
    unfold Bef
    rw [hst, hpg]
    show _ ≤ p + c
    omega
  · obtain ⟨rfl, c1⟩ := key x hx
    rcases List.mem_cons.1 hy with rfl | hy
    · unfold Bef
      rw [hst]
      show r.start + (p - r.start) ≤ _
      omega
    · obtain ⟨rfl, c2⟩ := key2 y hy
      show r.start + (p - r.start) ≤ p + c
      omega
theorem divL_is {r : Rg} (h : Rok r) {p c : Int} (hr : Rin p c) (h1 : p < r.start + r.pages) (h2 : r.start < p + c) (tF : Rg → Rg) : (divL r p c).map (selF tF) = chS tF r p c := by
  have hu := up_is h h1
  have hus := hu.st
  have hue := hu.end_
  have hr' := hr
  unfold Rin at hr
  have wp : w64 (p + c) = p + c := w_small (by omega) (by omega)
  have hv := h.vd
  unfold Vd at hv
  have e1 : divR r p = upR r p := by
    unfold divR upR
    by_cases c1 : p > r.start
    · have s := spl_in h c1 h1; rw [s.e, s.h, dT c1]; rfl
    · rw [spl_out h (by omega), dF c1]; rfl
  unfold divL chS midR
  rw [e1, wp]
  by_cases c1 : p > r.start
  · have s := spl_in h c1 h1
    rw [s.e, s.l, dT c1]
    by_cases c2 : p + c < r.start + r.pages
    · have s2 := spl_in hu.ok (q := p + c) (by omega) (by omega)
      rw [s2.e, s2.l, s2.h, dT c2]; rfl
    · rw [spl_out hu.ok (q := p + c) (by omega), dF c2]; rfl
  · rw [spl_out h (q := p) (by omega), dF c1]
    by_cases c2 : p + c < r.start + r.pages
    · have s2 := spl_in hu.ok (q := p + c) (by omega) (by omega)
      rw [s2.e, s2.l, s2.h, dT c2]; rfl
    · rw [spl_out hu.ok (q := p + c) (by omega), dF c2]; rfl
theorem rmd_is {r : Rg} (h : Rok r) {p c : Int} (hr : Rin p c) (h1 : p < r.start + r.pages) (h2 : r.start < p + c) (pr : Int) (on : Bool) : rmd pr on r p c = chS (md pr on) r p c := by
  have hu := up_is h h1
  have hus := hu.st
  have hue := hu.end_
  unfold Rin at hr
  have wp : w64 (p + c) = p + c := w_small (by omega) (by omega)
  have hv := h.vd
  unfold Vd at hv
  have e1 : pcR r p = upR r p := by
    unfold pcR upR
    by_cases c1 : p > r.start
    · have s := spl_in h c1 h1; rw [s.rh]
    · rw [dF c1]; rfl
  unfold rmd chS midR
  unfold pcL pcN
  rw [e1, wp, w_end hu.ok, hue]
  by_cases c1 : p > r.start
  · have s := spl_in h c1 h1
    rw [s.rl, dT c1]
    by_cases c2 : p + c < r.start + r.pages
    · have s2 := spl_in hu.ok (q := p + c) (by omega) (by omega)
      rw [s2.rl, s2.rh, dT c2]; rfl
    · rw [dF c2]; rfl
  · rw [dF c1]
    by_cases c2 : p + c < r.start + r.pages
    · have s2 := spl_in hu.ok (q := p + c) (by omega) (by omega)
      rw [s2.rl, s2.rh, dT c2]; rfl
    · rw [dF c2]; rfl
theorem chS_congr {f g : Rg → Rg} {r : Rg} {p c : Int} (h : f (midR r p c) = g (midR r p c)) : chS f r p c = chS g r p c := by unfold chS; rw [h]
/-- Is a region left as it is? -/
def skS (oF : Rg → Bool) (p c : Int) (r : Rg) : Bool := decide (r.start + r.pages ≤ p) || (decide (p + c ≤ r.start) || !oF r)
theorem chgE_is {oF : Rg → Bool} {tF : Rg → Rg} {r : Rg} (h : Rok r) {p c : Int} (hr : Rin p c) : chgE oF tF p c r = bif skS oF p c r then [r] else chS tF r p c := by
  have wp : w64 (p + c) = p + c := by unfold Rin at hr; exact w_small (by omega) (by omega)
  have e : skipF oF p c r = skS oF p c r := by unfold skipF skS; rw [endR_is h, wp]
  unfold chgE
  rw [e]
  cases hs : skS oF p c r with
  | true => rfl
  | false =>
    unfold skS at hs
    simp only [Bool.or_eq_false_iff, decide_eq_false_iff_not] at hs
    exact divL_is h hr (by omega) (by omega) tF
theorem rcgE_is {pr : Int} {on : Bool} {oF : Rg → Bool} {r : Rg} (h : Rok r) {p c : Int} (hr : Rin p c) (ho : ((decide (pr > 0) && (r.prot == pr)) || ((pr == 0) && (flagR r 4 == on))) = !oF r) : rcgE pr on p c r = bif skS oF p c r then [r] else chS (md pr on) r p c := by
  have wp : w64 (p + c) = p + c := by unfold Rin at hr; exact w_small (by omega) (by omega)
  have e : rskA pr on p c r = skS oF p c r := by unfold rskA skS; rw [w_end h, wp, ← ho]; rfl
  unfold rcgE
  rw [e]
  cases hs : skS oF p c r with
  | true => rfl
  | false =>
    unfold skS at hs
    simp only [Bool.or_eq_false_iff, decide_eq_false_iff_not] at hs
    exact rmd_is h hr (by omega) (by omega) pr on
theorem chg_prt {oF : Rg → Bool} {tF : Rg → Rg} {r : Rg} (h : Rok r) {p c : Int} (hr : Rin p c) (ht : oF r = true → Rok (midR r p c) → flagR (midR r p c) 4 = flagR r 4 → Rok (tF (midR r p c))) (hst : ∀ x, (tF x).start = x.start) (hpg : ∀ x, (tF x).pages = x.pages) : Prt r (bif skS oF p c r then [r] else chS tF r p c) := by
  cases hs : skS oF p c r with
  | true => exact .one h
  | false =>
    unfold skS at hs
    simp only [Bool.or_eq_false_iff, decide_eq_false_iff_not, Bool.not_eq_false'] at hs
    have hm := mid_is h hr (by omega) (by omega)
    exact chS_prt h hr (by omega) (by omega) (ht hs.2.2 hm.ok hm.fl) (hst _) (hpg _)
theorem proT_rok {pr : Int} (hpr : pr = 1 ∨ pr = 3) {x : Rg} (h : Rok x) : Rok (proT pr x) := ⟨h.vd, hpr, h.fl0, h.fl1, h.fi0, h.fi1, h.anon, h.filed⟩
theorem proT_md {pr : Int} (hpr : pr = 1 ∨ pr = 3) (on : Bool) (x : Rg) : proT pr x = md pr on x := by
  unfold md; rw [dT (show pr > 0 by omega)]; rfl
theorem chgP_list {l : List Rg} (hl : LOK l) {p c : Int} (hr : Rin p c) {pr : Int} (hpr : pr = 1 ∨ pr = 3) : l.flatMap (chgE (proO pr) (proT pr) p c) = rcgL pr false l p c ∧ LOK (rcgL pr false l p c) := by
  have e : ∀ r ∈ l, chgE (proO pr) (proT pr) p c r = rcgE pr false p c r := fun r h => by
    have hk := hl.1 r h
    rw [chgE_is hk hr, rcgE_is (oF := proO pr) hk hr]
    · cases skS (proO pr) p c r
      · exact chS_congr (proT_md hpr false _)
      · rfl
    · unfold proO
      rw [dT (show pr > 0 by omega), show (pr == 0) = false by simp; omega]
      simp [bne]
  have e2 := flatMap_congr e
  refine ⟨e2, ?_⟩
  unfold rcgL
  rw [← e2]
  refine hl.flat fun r h => ?_
  rw [chgE_is (hl.1 r h) hr]
  exact chg_prt (hl.1 r h) hr (fun _ hm _ => proT_rok hpr hm) (fun _ => rfl) fun _ => rfl
end Go.Proofs.Ytalcipbagidbpaa
end

section
set_option linter.unusedVariables false
namespace Go.Proofs.Ytalcipbagidbpaa
open Go.Proofs
/-! ### The first region that ends behind a page -/
def fa (p : Int) : List Rg → Rg → Bool → Rg × Bool
  | [], r, fd => (r, fd)
  | x :: xs, r, fd => bif decide (x.start + x.pages > p) then (x, true) else fa p xs r fd
theorem fa_yes {p : Int} {x : Rg} (h : x.start + x.pages > p) : ∀ (a b : List Rg) (r : Rg) (fd : Bool), fa p (a ++ x :: b) r fd = fa p a x true
  | [], b, r, fd => by rw [List.nil_append]; show (bif decide (x.start + x.pages > p) then (x, true) else fa p b r fd) = _; rw [dT h]; rfl
  | y :: a, b, r, fd => by
    rw [List.cons_append, fa, fa, fa_yes h a b r fd]
theorem fa_no {p : Int} : ∀ {a : List Rg} (b : List Rg) (r : Rg) (fd : Bool), (∀ y ∈ a, y.start + y.pages ≤ p) → fa p (a ++ b) r fd = fa p b r fd
  | [], b, r, fd, _ => rfl
  | y :: a, b, r, fd, h => by
    rw [List.cons_append, fa, dF (by have := h y (by simp); omega), cond_false, fa_no b r fd fun z hz => h z (by simp [hz])]
theorem afterF_node {p : Int} {a b : Tr} {x r : Rg} {fd : Bool} (h : (nodeF a x b).h > 0) : afterF p (nodeF a x b) r fd = bif decide (x.end > p) then afterF p a x true else afterF p b r fd :=
  afterF_go p (nodeF a x b) a b r fd rfl (dT h)
theorem after_is {t : Tr} (hg : Good t) (p : Int) : t.sz ≤ BIG → Ord (lst t) → ∀ (r : Rg) (fd : Bool), afterF p t r fd = fa p (lst t) r fd := by
  induction hg with
  | leaf => intro _ _ r fd; rw [afterF_stop p zT r fd rfl, lst_zT]; rfl
  | @node a b x ha hb h1 h2 iha ihb =>
    intro hs ho r fd
    rw [sz_nodeF] at hs
    have hh := h_node ha hb (by omega) x
    rw [imax_def] at hh
    have la := ha.h_le (by omega)
    rw [lst_nodeG ha hb hs] at ho ⊢
    rw [afterF_node (by omega)]
    have hv := ho.1 x (by simp)
    have hp := List.pairwise_append.1 ho.2
    have oa : Ord (lst a) := ⟨fun y hy => ho.1 y (by simp [hy]), hp.1⟩
    have ob : Ord (lst b) := ⟨fun y hy => ho.1 y (by simp [hy]), (List.pairwise_cons.1 hp.2.1).2⟩
    rw [hv.end]
    by_cases c : x.start + x.pages > p
    · rw [dT c, cond_true, iha (by omega) oa, fa_yes c]
    · rw [dF c, cond_false, ihb (by omega) ob, fa_no, fa, dF c, cond_false]
      intro y hy
      have := hp.2.2 y hy x (by simp)
      unfold Bef at this
      unfold Vd at hv
      omega
theorem next_is {t : Tr} (hs : t.sz ≤ BIG) (h : Sok t) (p : Int) : nextF t p = fa p (lst t) zR false := by
  have h2 : checkF t = 0 := (checkF_iff hs).2 ⟨h.good, h.lok.ord⟩
  unfold nextF
  rw [h2]
  exact after_is h.good p hs h.lok.ord zR false
theorem rhas_is {x : Rg} (h : Rok x) (p : Int) : rhas x p = decide (x.start ≤ p ∧ p < x.start + x.pages) := by
  rw [Bool.eq_iff_iff, rhas_iff, decide_eq_true_eq]; simp [h]
theorem rfnL_none {p : Int} : ∀ {l : List Rg}, LOK l → (∀ x ∈ l, ¬ (x.start ≤ p ∧ p < x.start + x.pages)) → rfnL p l = (zR, false)
  | [], _, _ => rfl
  | x :: xs, h, hn => by
    rw [rfnL, rhas_is (h.1 x (by simp)), dF (hn x (by simp)), cond_false]
    exact rfnL_none ⟨fun y hy => h.1 y (by simp [hy]), (List.pairwise_cons.1 h.2).2⟩ fun y hy => hn y (by simp [hy])
theorem LOK.tl {x : Rg} {xs : List Rg} (h : LOK (x :: xs)) : LOK xs := ⟨fun y hy => h.1 y (by simp [hy]), (List.pairwise_cons.1 h.2).2⟩
theorem fa_find {p : Int} : ∀ {l : List Rg}, LOK l → (bif !(fa p l zR false).2 then (zR, false) else bif decide ((fa p l zR false).1.start > p) then (zR, false) else ((fa p l zR false).1, true)) = rfnL p l
  | [], _ => rfl
  | x :: xs, h => by
    have hx := h.1 x (by simp)
    rw [fa, rfnL, rhas_is hx]
    by_cases c : x.start + x.pages > p
    · rw [dT c]
      simp only [cond_true, Bool.not_true, cond_false]
      by_cases c2 : x.start ≤ p
      · rw [dF (show ¬ x.start > p by omega), dT (show x.start ≤ p ∧ p < x.start + x.pages from ⟨c2, by omega⟩)]; rfl
      · rw [dT (show x.start > p by omega), dF (show ¬ (x.start ≤ p ∧ p < x.start + x.pages) by omega), cond_true, cond_false, rfnL_none h.tl]
        intro y hy
        have := (List.pairwise_cons.1 h.2).1 y hy
        have := hx.vd
        unfold Bef at *
        unfold Vd at *
        omega
    · rw [dF c, cond_false, dF (show ¬ (x.start ≤ p ∧ p < x.start + x.pages) by omega), cond_false]
      exact fa_find h.tl
theorem find_is {t : Tr} (hs : t.sz ≤ BIG) (h : Sok t) (p : Int) : findF t p = rfnL p (lst t) := by
  unfold findF
  rw [next_is hs h, fa_find h.lok]
theorem rfind_is {t : Tr} (hs : t.sz ≤ BIG) (h : Sok t) (p : Int) : rfindF t p = rfnL p (lst t) := by
  unfold rfindF; rw [rls_sok hs h]
theorem afind_eq {t : Tr} (hs : t.sz ≤ BIG) (p : Int) : afindF t p = rfindF t p := by
  unfold afindF
  rw [acF_eq hs]
  by_cases h : rcF t = 0
  · have hk := (rcF_iff hs).1 h
    rw [h, rfind_is hs hk, ← find_is hs hk]; rfl
  · unfold rfindF rlsF
    rw [bne0.2 h]; rfl
theorem acount_eq {t : Tr} (hs : t.sz ≤ BIG) : acountF t = (rlsF t).length := by
  unfold acountF
  rw [acF_eq hs]
  by_cases h : rcF t = 0
  · have hk := (rcF_iff hs).1 h
    rw [h, list_sok hs hk, rls_sok hs hk]; rfl
  · unfold rlsF
    rw [bne0.2 h]; rfl
theorem rfnL_some {p : Int} : ∀ {l : List Rg}, LOK l → (rfnL p l).2 = true → (rfnL p l).1 ∈ l ∧ (rfnL p l).1.start ≤ p ∧ p < (rfnL p l).1.start + (rfnL p l).1.pages
  | [], _, h => by cases h
  | x :: xs, h, hf => by
    have hx := h.1 x (by simp)
    by_cases c : x.start ≤ p ∧ p < x.start + x.pages
    · have e : rfnL p (x :: xs) = (x, true) := by rw [rfnL, rhas_is hx, dT c]; rfl
      rw [e]; exact ⟨by simp, c⟩
    · have e : rfnL p (x :: xs) = rfnL p xs := by rw [rfnL, rhas_is hx, dF c]; rfl
      rw [e] at hf ⊢
      obtain ⟨a, b⟩ := rfnL_some h.tl hf
      exact ⟨by simp [a], b⟩
theorem rfnL_at {p : Int} : ∀ {l : List Rg}, LOK l → ∀ {x : Rg}, x ∈ l → x.start ≤ p → p < x.start + x.pages → rfnL p l = (x, true)
  | [], _, x, h, _, _ => by simp at h
  | y :: ys, h, x, hx, h1, h2 => by
    have hy := h.1 y (by simp)
    rw [rfnL, rhas_is hy]
    rcases List.mem_cons.1 hx with rfl | hx
    · rw [dT ⟨h1, h2⟩]; rfl
    · have := (List.pairwise_cons.1 h.2).1 x hx
      unfold Bef at this
      rw [dF (by omega), cond_false]
      exact rfnL_at h.tl hx h1 h2
theorem rfnL_iff {p : Int} {l : List Rg} (h : LOK l) : (rfnL p l).2 = true ↔ ∃ x ∈ l, x.start ≤ p ∧ p < x.start + x.pages := by
  constructor
  · intro hf
    obtain ⟨a, b, c⟩ := rfnL_some h hf
    exact ⟨_, a, b, c⟩
  · rintro ⟨x, hx, h1, h2⟩
    rw [rfnL_at h hx h1 h2]
/-! ### covered -/
theorem cov_ok {t : Tr} (hs : t.sz ≤ BIG) (h : Sok t) : CovOK t := by
  intro p h0 h1 hf
  rw [find_is hs h] at hf ⊢
  obtain ⟨a, b, c⟩ := rfnL_some h.lok hf
  have hr := h.lok.1 _ a
  have hv := hr.vd
  unfold Vd at hv
  rw [endR_is hr]
  refine ⟨c, hv.2.2, fun q h2 h3 => ?_⟩
  rw [find_is hs h]
  exact (rfnL_iff h.lok).2 ⟨_, a, by omega, h3⟩
theorem rcvN_iff {t : Tr} : ∀ (n : Nat) (p : Int), rcvN t n p = true ↔ ∀ i : Nat, i < n → (rfindF t (p + i)).2 = true
  | 0, p => by simp [rcvN]
  | n + 1, p => by
    rw [rcvN]
    cases h : (rfindF t p).2 with
    | false =>
      simp only [Bool.not_false, cond_true, Bool.false_eq_true, false_iff]
      intro hh
      have := hh 0 (by omega)
      rw [show p + ((0 : Nat) : Int) = p by omega, h] at this; cases this
    | true =>
      rw [Bool.not_true, cond_false, rcvN_iff n (p + 1)]
      constructor
      · intro hh i hi
        rcases i with _ | i
        · rw [show p + ((0 : Nat) : Int) = p by omega]; exact h
        · have := hh i (by omega)
          rwa [show p + 1 + (i : Int) = p + ((i + 1 : Nat) : Int) by omega] at this
      · intro hh i hi
        have := hh (i + 1) (by omega)
        rwa [show p + 1 + (i : Int) = p + ((i + 1 : Nat) : Int) by omega]
theorem cov_eq {t : Tr} (hs : t.sz ≤ BIG) (h : Sok t) (p c : Int) : covB t p c = rcvN t c.toNat p := by
  rw [Bool.eq_iff_iff, rcvN_iff]
  unfold covB
  rw [List.all_eq_true]
  constructor
  · intro hh i hi
    have := hh i (List.mem_range.2 hi)
    rwa [find_is hs h, ← rfind_is hs h] at this
  · intro hh i hi
    rw [find_is hs h, ← rfind_is hs h]
    exact hh i (List.mem_range.1 hi)
/-! ### Protect, Lock -/
theorem chgL_len' {l : List Rg} {n : Nat} (hl : l.length ≤ n) (oF : Rg → Bool) (tF : Rg → Rg) (p c : Int) : (l.flatMap (chgE oF tF p c)).length ≤ n * 3 := by
  have := flatMap_len3 (chgE_len oF tF p c) l
  omega
theorem protect_eq {t : Tr} (hs : t.sz ≤ BIG) (p c pr : Int) : protectF t p c pr = rproF t p c pr := by
  unfold protectF rproF
  rw [acheck_eq hs]
  by_cases h : rcF t = 0
  · have hk := (rcF_iff hs).1 h
    rw [h]
    simp only [bne_self_eq_false, cond_false]
    by_cases hw : rwiF p c = 0
    · have hr := rwi_in hw
      rw [hw]
      simp only [bne_self_eq_false, cond_false]
      by_cases hpr : pr = 1 ∨ pr = 3
      · have e : ((pr != 1) && (pr != 3)) = false := by rcases hpr with rfl | rfl <;> rfl
        rw [e, cond_false, cond_false]
        unfold changeF
        rw [cov_eq hs hk]
        cases rcvN t c.toNat p with
        | false => rfl
        | true =>
          simp only [Bool.not_true, cond_false]
          obtain ⟨e1, e2⟩ := chgP_list hk.lok hr hpr
          unfold chgL
          rw [list_sok hs hk, rls_sok hs hk, e1, nrmL_eq]
          exact abuild_eq (by rw [← e1]; have := chgL_len' hk.few (proO pr) (proT pr) p c; unfold BIG; omega) e2
      · have e : ((pr != 1) && (pr != 3)) = true := by simp only [Bool.and_eq_true, bne_iff_ne]; omega
        rw [e]; rfl
    · rw [bne0.2 hw]; rfl
  · rw [bne0.2 h]
    show (bif rcF t != 0 then (zT, rcF t) else _) = _
    rw [bne0.2 h]; rfl
/-! ### Grow -/
theorem fa_split {p : Int} : ∀ {l : List Rg}, (fa p l zR false).2 = true → ∃ a x b, l = a ++ x :: b ∧ fa p l zR false = (x, true) ∧ x.start + x.pages > p ∧ ∀ y ∈ a, y.start + y.pages ≤ p
  | [], h => by cases h
  | x :: xs, h => by
    by_cases c : x.start + x.pages > p
    · exact ⟨[], x, xs, rfl, by rw [fa, dT c]; rfl, c, by simp⟩
    · rw [fa, dF c, cond_false] at h ⊢
      obtain ⟨a, y, b, e, e2, e3, e4⟩ := fa_split h
      refine ⟨x :: a, y, b, by rw [e]; rfl, e2, e3, fun z hz => ?_⟩
      rcases List.mem_cons.1 hz with rfl | hz
      · omega
      · exact e4 z hz
theorem fa_none {p : Int} : ∀ {l : List Rg}, (fa p l zR false).2 = false → ∀ y ∈ l, y.start + y.pages ≤ p
  | [], _, y, hy => by simp at hy
  | x :: xs, h, y, hy => by
    by_cases c : x.start + x.pages > p
    · rw [fa, dT c] at h; cases h
    · rw [fa, dF c, cond_false] at h
      rcases List.mem_cons.1 hy with rfl | hy
      · omega
      · exact fa_none h y hy
theorem idxF_at (x : Rg) (b : List Rg) : ∀ (a : List Rg) (i : Nat), (∀ y ∈ a, y.start ≠ x.start) → idxF x (a ++ x :: b) i = ((i + a.length : Nat) : Int)
  | [], i, _ => by rw [List.nil_append, idxF, dT rfl]; rfl
  | y :: a, i, h => by
    have : ¬ [x.start, x.pages, x.prot, x.flags, x.file, x.index] = [y.start, y.pages, y.prot, y.flags, y.file, y.index] := by
      simp only [List.cons.injEq, not_and]
      intro e; exact absurd e.symm (h y (by simp))
    rw [List.cons_append, idxF, dF this, cond_false, idxF_at x b a (i + 1) fun z hz => h z (by simp [hz])]
    simp only [List.length_cons]
    omega
theorem atR_mid (a b : List Rg) (x : Rg) : atR (a ++ x :: b) a.length = x := by simp [atR, List.getD_eq_getElem?_getD]
theorem set_mid (a b : List Rg) (x y : Rg) : (a ++ x :: b).set a.length y = a ++ y :: b := by simp
theorem rgF_at {p : Int} {l : List Rg} (x : Rg) (b : List Rg) (hx : ¬ x.start < p) : ∀ (a : List Rg) (i : Nat), (∀ y ∈ a, y.start < p) → rgF p l (a ++ x :: b) i = bif ((w64 (x.flags.tdiv 2)).tmod 2 == 0) then (zT, 13) else rtreeF (l.set (i + a.length) (grR x p))
  | [], i, _ => by rw [List.nil_append, rgF, dF hx]; rfl
  | y :: a, i, h => by
    rw [List.cons_append, rgF, dT (h y (by simp)), cond_true, rgF_at x b hx a (i + 1) fun z hz => h z (by simp [hz])]
    simp only [List.length_cons]
    rw [show i + 1 + a.length = i + (a.length + 1) by omega]
theorem rgF_none' {p : Int} {l : List Rg} : ∀ {xs : List Rg} {i : Nat}, (∀ y ∈ xs, y.start < p) → rgF p l xs i = (zT, 13)
  | [], _, _ => rfl
  | y :: ys, i, h => by rw [rgF, dT (h y (by simp)), cond_true]; exact rgF_none' fun z hz => h z (by simp [hz])
theorem gr_tab : ∀ n : Nat, n < 16 → (let x : Rg := ⟨0, 0, 0, (n : Int), 0, 0⟩; ((w64 (BitVec.ofInt IntKind.i64.bits x.flags &&& BitVec.ofInt IntKind.i64.bits 2).toNat == 0)) = !flagR x 2 ∧ ((w64 (x.flags.tdiv 2)).tmod 2 == 0) = !flagR x 2) := by decide +kernel
theorem gr_fl {x : Rg} (h : Rok x) : ((w64 (BitVec.ofInt IntKind.i64.bits x.flags &&& BitVec.ofInt IntKind.i64.bits 2).toNat == 0)) = !flagR x 2 ∧ ((w64 (x.flags.tdiv 2)).tmod 2 == 0) = !flagR x 2 := by
  have h0 := h.fl0
  have h1 := h.fl1
  have := gr_tab x.flags.toNat (by omega)
  rw [show ((x.flags.toNat : Nat) : Int) = x.flags by omega] at this
  exact this
def growR (x : Rg) (p : Int) : Rg := { x with pages := x.pages + (x.start - p), start := p }
theorem grR_is {x : Rg} (h : Rok x) {p : Int} (h0 : 0 ≤ p) (h1 : p ≤ x.start) : grR x p = growR x p := by
  have hv := h.vd
  unfold Vd at hv
  unfold grR growR
  rw [w_small (n := x.start - p) (by omega) (by omega), w_small (n := x.pages + (x.start - p)) (by omega) (by omega)]
theorem growR_ok {x : Rg} (h : Rok x) {p : Int} (h0 : 0 ≤ p) (h1 : p ≤ x.start) (hf : flagR x 2 = true) : Rok (growR x p) := by
  have hv := h.vd
  unfold Vd at hv
  refine ⟨⟨h0, by show 1 ≤ x.pages + (x.start - p); omega, by show p + (x.pages + (x.start - p)) ≤ 512; omega⟩, h.prot, h.fl0, h.fl1, h.fi0, h.fi1, h.anon, fun hh => ?_⟩
  have := (h.filed hh).1
  rw [hf] at this; cases this
theorem nm_mid : ∀ (a b : List Rg) (x y : Rg), rc2 (a ++ x :: b) = false → (∀ z ∈ a, rmrg z y = false) → (∀ z ∈ b, rmrg y z = false) → rc2 (a ++ y :: b) = false
  | [], [], x, y, _, _, _ => rfl
  | [], z :: b, x, y, h, _, h2 => by
    simp only [List.nil_append] at h ⊢
    rw [rc2] at h ⊢
    rw [h2 z (by simp), cond_false]
    cases hm : rmrg x z <;> rw [hm] at h
    · exact h
    · cases h
  | [z], b, x, y, h, h1, h2 => by
    simp only [List.cons_append, List.nil_append] at h ⊢
    rw [rc2] at h ⊢
    rw [h1 z (by simp), cond_false]
    refine nm_mid [] b x y ?_ (by simp) h2
    cases hm : rmrg z x <;> rw [hm] at h
    · exact h
    · cases h
  | z :: w :: a, b, x, y, h, h1, h2 => by
    simp only [List.cons_append] at h ⊢
    rw [rc2] at h ⊢
    cases hm : rmrg z w <;> rw [hm] at h
    · rw [cond_false]; exact nm_mid (w :: a) b x y h (fun v hv => h1 v (by simp [hv])) h2
    · cases h
/-- What Grow comes to. -/
structure GrowR (t : Tr) (p : Int) (k : Nat) : Prop where
  hk : (acF t != 0) = false → (nextF t p).2 = true → idxF (nextF t p).1 (listF t) 0 = k ∧ k < (listF t).length
  eq : agrowK t p k = rgrowF t p
theorem grow_mid {a b : List Rg} {x : Rg} {p : Int} (hl : LOK (a ++ x :: b)) (h0 : 0 ≤ p) (h1 : p ≤ x.start) (ha : ∀ y ∈ a, y.start + y.pages < p) (hf : flagR x 2 = true) : LOK (a ++ growR x p :: b) := by
  have hx := hl.1 x (by simp)
  have hp := List.pairwise_append.1 hl.2
  refine ⟨fun y hy => ?_, ?_⟩
  · rcases List.mem_append.1 hy with hy | hy
    · exact hl.1 y (by simp [hy])
    · rcases List.mem_cons.1 hy with rfl | hy
      · exact growR_ok hx h0 h1 hf
      · exact hl.1 y (by simp [hy])
  · rw [List.pairwise_append, List.pairwise_cons]
    refine ⟨hp.1, ⟨fun y hy => ?_, (List.pairwise_cons.1 hp.2.1).2⟩, fun y hy z hz => ?_⟩
    · have := (List.pairwise_cons.1 hp.2.1).1 y hy
      unfold Bef at *
      show p + (x.pages + (x.start - p)) ≤ y.start
      omega
    · rcases List.mem_cons.1 hz with rfl | hz
      · have := ha y hy
        show y.start + y.pages ≤ p
        omega
      · exact hp.2.2 y hy z (by simp [hz])
theorem grow_is {t : Tr} (hs : t.sz ≤ BIG) (p : Int) : ∃ k, GrowR t p k := by
  by_cases h : rcF t = 0
  case neg =>
    have e : (acF t != 0) = true := by rw [acF_eq hs]; exact bne0.2 h
    refine ⟨0, (fun h2 => by rw [e] at h2; cases h2), ?_⟩
    unfold agrowK rgrowF
    rw [acF_eq hs, bne0.2 h]; rfl
  have hk := (rcF_iff hs).1 h
  by_cases hp : 0 ≤ p ∧ p < 512
  case neg =>
    have e : (decide (p < 0) || decide (p ≥ 512)) = true := by simp only [Bool.or_eq_true, decide_eq_true_eq]; omega
    cases hn : (nextF t p).2 with
    | false =>
      refine ⟨0, (fun _ h2 => by rw [hn] at h2; cases h2), ?_⟩
      unfold agrowK rgrowF
      rw [acF_eq hs, h, e]; rfl
    | true =>
      have hn' := hn
      rw [next_is hs hk] at hn'
      obtain ⟨a, x, b, e1, e2, e3, e4⟩ := fa_split hn'
      refine ⟨a.length, fun _ _ => ?_, ?_⟩
      · rw [next_is hs hk, list_sok hs hk, e2, e1]
        have hpw := List.pairwise_append.1 (e1 ▸ hk.lok).2
        rw [idxF_at x b a 0 fun y hy => by
          have h1 := hpw.2.2 y hy x (by simp)
          have h2 := (hk.lok.1 y (by rw [e1]; simp [hy])).vd
          unfold Bef Vd at *; omega]
        simp
      · unfold agrowK rgrowF
        rw [acF_eq hs, h, e]; rfl
  have e : (decide (p < 0) || decide (p ≥ 512)) = false := by simp only [Bool.or_eq_false_iff, decide_eq_false_iff_not]; omega
  have wp : w64 (p - 1) = p - 1 := w_small (by omega) (by omega)
  have hfi := fa_find (p := p) hk.lok
  cases hn : (nextF t p).2 with
  | false =>
    have hn' := hn
    rw [next_is hs hk] at hn'
    rw [hn'] at hfi
    have hall := fa_none hn'
    refine ⟨0, (fun _ h2 => by rw [hn] at h2; cases h2), ?_⟩
    unfold agrowK rgrowF
    rw [acF_eq hs, h, e, hn, rfind_is hs hk, ← hfi, rls_sok hs hk]
    simp only [Bool.false_and, bne_self_eq_false, cond_false, Bool.not_false, Bool.true_or, cond_true]
    cases (rfindF t (w64 (p - 1))).2 with
    | true => rfl
    | false =>
      rw [cond_false, rgF_none']
      intro y hy
      have h1 := hall y hy
      have h2 := (hk.lok.1 y hy).vd
      unfold Vd at h2; omega
  | true =>
    have hn' := hn
    rw [next_is hs hk] at hn'
    obtain ⟨a, x, b, e1, e2, e3, e4⟩ := fa_split hn'
    have hpw := List.pairwise_append.1 (e1 ▸ hk.lok).2
    have hx := hk.lok.1 x (by rw [e1]; simp)
    have hid : idxF x (a ++ x :: b) 0 = ((0 + a.length : Nat) : Int) := idxF_at x b a 0 fun y hy => by
      have h1 := hpw.2.2 y hy x (by simp)
      have h2 := (hk.lok.1 y (by rw [e1]; simp [hy])).vd
      unfold Bef Vd at *; omega
    refine ⟨a.length, fun _ _ => ?_, ?_⟩
    · rw [next_is hs hk, list_sok hs hk, e2, e1, hid]; simp
    · unfold agrowK rgrowF
      rw [e2] at hfi
      rw [acF_eq hs, h, e, next_is hs hk, e2, rfind_is hs hk, rfind_is hs hk, ← hfi, find_is hs hk, wp, list_sok hs hk, rls_sok hs hk]
      simp only [bne_self_eq_false, cond_false, Bool.true_and, Bool.not_true, Bool.false_or]
      by_cases c : x.start ≤ p
      · rw [dT c, dF (show ¬ x.start > p by omega)]; rfl
      · rw [dF c, dT (show x.start > p by omega)]
        simp only [cond_true, cond_false]
        cases hb : (rfnL (p - 1) (lst t)).2 with
        | true => simp
        | false =>
          have hlow : ∀ y ∈ a, y.start + y.pages < p := fun y hy => by
            have h1 := e4 y hy
            have h2 := (hk.lok.1 y (by rw [e1]; simp [hy])).vd
            unfold Vd at h2
            have h3 : ¬ (y.start ≤ p - 1 ∧ p - 1 < y.start + y.pages) := fun h4 => by
              rw [(rfnL_iff hk.lok).2 ⟨y, by rw [e1]; simp [hy], h4⟩] at hb; cases hb
            omega
          have hr := rgF_at (l := lst t) (p := p) x b (by omega) a 0 fun y hy => by
            have h2 := (hk.lok.1 y (by rw [e1]; simp [hy])).vd
            have h3 := hlow y hy
            unfold Vd at h2; omega
          rw [show rgF p (lst t) (lst t) 0 = rgF p (lst t) (a ++ x :: b) 0 by rw [← e1], hr, (gr_fl hx).1, (gr_fl hx).2]
          cases hfl : flagR x 2 with
          | false => rfl
          | true =>
            simp only [Bool.not_true, Bool.or_false, cond_false, Nat.zero_add]
            rw [e1, atR_mid, set_mid, grR_is hx hp.1 (by omega)]
            have hg := grow_mid (e1 ▸ hk.lok) hp.1 (by omega) hlow hfl
            have hnm : NM (a ++ growR x p :: b) := nm_mid a b x (growR x p) (by have := hk.nm; rw [e1] at this; exact this) (fun z hz => by
              cases hm : rmrg z (growR x p) with
              | false => rfl
              | true =>
                have h1 := (rmrg_iff.1 hm).at_
                have h2 := hlow z hz
                have h3 : z.start + z.pages = p := h1
                omega) fun z hz => by
              cases hm : rmrg (growR x p) z with
              | false => rfl
              | true =>
                have h1 := (rmrg_iff.1 hm).noG
                have h2 : flagR (growR x p) 2 = flagR x 2 := rfl
                rw [h2, hfl] at h1; cases h1
            have hlen : (a ++ growR x p :: b).length ≤ BIG := by
              have := hk.few
              rw [e1] at this
              simp only [List.length_append, List.length_cons] at this ⊢
              unfold BIG; omega
            have := abuild_eq hlen hg
            rwa [nrm_id hnm] at this
end Go.Proofs.Ytalcipbagidbpaa
end

section
set_option linter.unusedVariables false
namespace Go.Proofs.Ytalcipbagidbpaa
open Go.Proofs
def gl (n : Int) : List Rg → Int → Int → Int
  | [], s, to => if to - s ≥ n then s else -1
  | x :: xs, s, to => if x.start - s ≥ n then s else gl n xs (max s (x.start + x.pages)) to
theorem gl_neg {n : Int} : ∀ {l : List Rg} {s to : Int}, to - s < n → (∀ x ∈ l, x.start ≤ to) → gl n l s to = -1
  | [], s, to, h, _ => by rw [gl, if_neg (by omega)]
  | x :: xs, s, to, h, hx => by
    have := hx x (by simp)
    rw [gl, if_neg (by omega)]
    exact gl_neg (by omega) fun y hy => hx y (by simp [hy])
/-- No gap of n pages. -/
def Tight (n : Int) : List Rg → Int → Int → Prop
  | [], fr, to => to - fr < n
  | x :: xs, fr, to => x.start - fr < n ∧ Tight n xs (x.start + x.pages) to
theorem gl_tight {n : Int} : ∀ {l : List Rg} {fr s to : Int}, Tight n l fr to → fr ≤ s → gl n l s to = -1
  | [], fr, s, to, h, hs => by unfold Tight at h; rw [gl, if_neg (by omega)]
  | x :: xs, fr, s, to, h, hs => by
    obtain ⟨h1, h2⟩ := h
    rw [gl, if_neg (by omega)]
    exact gl_tight h2 (by omega)
theorem Tight.app {n : Int} {y : Rg} : ∀ {a b : List Rg} {fr to : Int}, Tight n a fr y.start → Tight n b (y.start + y.pages) to → Tight n (a ++ y :: b) fr to
  | [], b, fr, to, h1, h2 => ⟨h1, h2⟩
  | x :: a, b, fr, to, h1, h2 => ⟨h1.1, Tight.app h1.2 h2⟩
theorem gl_app {n : Int} {y : Rg} : ∀ {a b : List Rg} {s to : Int}, 0 ≤ s → (∀ x ∈ a, x.start + x.pages ≤ y.start ∧ Vd x) → 1 ≤ y.pages → gl n (a ++ y :: b) s to = if gl n a s y.start ≥ 0 then gl n a s y.start else gl n b (max s (y.start + y.pages)) to
  | [], b, s, to, hs, h, hp => by
    have e2 : gl n ([] ++ y :: b) s to = if y.start - s ≥ n then s else gl n b (max s (y.start + y.pages)) to := rfl
    rw [e2]
    by_cases c : y.start - s ≥ n
    · have e : gl n [] s y.start = s := by rw [gl, if_pos c]
      rw [if_pos c, e, if_pos hs]
    · have e : gl n [] s y.start = -1 := by rw [gl, if_neg c]
      rw [if_neg c, e, if_neg (by omega)]
  | x :: a, b, s, to, hs, h, hp => by
    obtain ⟨h1, h2⟩ := h x (by simp)
    unfold Vd at h2
    have e2 : gl n ((x :: a) ++ y :: b) s to = if x.start - s ≥ n then s else gl n (a ++ y :: b) (max s (x.start + x.pages)) to := rfl
    rw [e2]
    by_cases c : x.start - s ≥ n
    · have e : gl n (x :: a) s y.start = s := by rw [gl, if_pos c]
      rw [if_pos c, e, if_pos hs]
    · have e : gl n (x :: a) s y.start = gl n a (max s (x.start + x.pages)) y.start := by rw [gl, if_neg c]
      rw [if_neg c, e, gl_app (by omega) (fun z hz => h z (by simp [hz])) hp,
        show max (max s (x.start + x.pages)) (y.start + y.pages) = max s (y.start + y.pages) by omega]
/-! ### The numbers of a node -/
structure FLG (t : Tr) : Prop where
  f : 0 ≤ t.f ∧ t.f ≤ 512
  l : 0 ≤ t.l ∧ t.l ≤ 512
  tight : ∀ (n fr to : Int), 1 ≤ n → t.f - fr < n → t.g < n → to - t.l < n → Tight n (lst t) fr to
theorem flg_is {t : Tr} (hg : Good t) : t.sz ≤ BIG → Ord (lst t) → t.h ≠ 0 → FLG t := by
  induction hg with
  | leaf => intro _ _ h; exact absurd rfl h
  | @node a b x ha hb h1 h2 iha ihb =>
    intro hs ho _
    rw [sz_nodeF] at hs
    have la := ha.h_le (by omega)
    have lb := hb.h_le (by omega)
    rw [lst_nodeG ha hb hs] at ho
    have hv := ho.1 x (by simp)
    have hp := List.pairwise_append.1 ho.2
    have oa : Ord (lst a) := ⟨fun y hy => ho.1 y (by simp [hy]), hp.1⟩
    have ob : Ord (lst b) := ⟨fun y hy => ho.1 y (by simp [hy]), (List.pairwise_cons.1 hp.2.1).2⟩
    have hve := hv.end
    unfold Vd at hv
    have ea : ¬ a.h > 0 → a = zT := fun h => by
      rcases ha.inv (by omega) with e | ⟨_, _, _, e, _, _, _, _, _, e2, e3, e4⟩
      · exact e
      · omega
    have eb : ¬ b.h > 0 → b = zT := fun h => by
      rcases hb.inv (by omega) with e | ⟨_, _, _, e, _, _, _, _, _, e2, e3, e4⟩
      · exact e
      · omega
    have ef : (nodeF a x b).f = if a.h > 0 then a.f else x.start := rfl
    have el : (nodeF a x b).l = if b.h > 0 then b.l else x.end := rfl
    have eg : (nodeF a x b).g = (if b.h > 0 then imax (if a.h > 0 then imax (imax a.g b.g) (IntKind.i64.wrap (x.start - a.l)) else imax a.g b.g) (IntKind.i64.wrap (b.f - x.end))
      else if a.h > 0 then imax (imax a.g b.g) (IntKind.i64.wrap (x.start - a.l)) else imax a.g b.g) := rfl
    simp only [imax_def, hve] at eg el
    refine ⟨?_, ?_, ?_⟩
    · rw [ef]
      split
      · exact (iha (by omega) oa (by omega)).f
      · omega
    · rw [el]
      split
      · exact (ihb (by omega) ob (by omega)).l
      · omega
    · intro n fr to hn hf hgn hl
      rw [lst_nodeG ha hb hs]
      have wa : a.h > 0 → IntKind.i64.wrap (x.start - a.l) = x.start - a.l := fun h => by
        have := (iha (by omega) oa (by omega)).l
        exact wrap_id (by omega) (by omega)
      have wb : b.h > 0 → IntKind.i64.wrap (b.f - (x.start + x.pages)) = b.f - (x.start + x.pages) := fun h => by
        have := (ihb (by omega) ob (by omega)).f
        exact wrap_id (by omega) (by omega)
      have gz : zT.g = 0 := rfl
      refine Tight.app ?_ ?_
      · by_cases ca : a.h > 0
        · rw [ef, if_pos ca] at hf
          refine (iha (by omega) oa (by omega)).tight n fr x.start hn hf ?_ ?_
          · by_cases cb : b.h > 0
            · simp only [if_pos ca, if_pos cb, wa ca, wb cb] at eg; omega
            · simp only [if_pos ca, if_neg cb, wa ca] at eg; omega
          · by_cases cb : b.h > 0
            · simp only [if_pos ca, if_pos cb, wa ca, wb cb] at eg; omega
            · simp only [if_pos ca, if_neg cb, wa ca] at eg; omega
        · rw [ef, if_neg ca] at hf
          rw [ea ca, lst_zT]
          exact hf
      · by_cases cb : b.h > 0
        · rw [el, if_pos cb] at hl
          refine (ihb (by omega) ob (by omega)).tight n (x.start + x.pages) to hn ?_ ?_ hl
          · by_cases ca : a.h > 0
            · simp only [if_pos ca, if_pos cb, wa ca, wb cb] at eg; omega
            · simp only [if_neg ca, if_pos cb, wb cb] at eg; omega
          · by_cases ca : a.h > 0
            · simp only [if_pos ca, if_pos cb, wa ca, wb cb] at eg; omega
            · simp only [if_neg ca, if_pos cb, wb cb] at eg; omega
        · rw [el, if_neg cb] at hl
          rw [eb cb, lst_zT]
          exact hl
theorem gapS_is {fr to lo n : Int} (h1 : 0 ≤ fr ∧ fr ≤ 512) (h2 : 0 ≤ to ∧ to ≤ 512) (h3 : 0 ≤ lo ∧ lo ≤ 512) : gapS fr to lo n = gl n [] (max fr lo) to := by
  unfold gapS gl
  have e : (if lo > fr then lo else fr) = max fr lo := by omega
  rw [e, show IntKind.i64.wrap (to - max fr lo) = to - max fr lo from wrap_id (by omega) (by omega)]
  by_cases c : to - max fr lo ≥ n
  · rw [dT c, if_pos c]; rfl
  · rw [dF c, if_neg c]; rfl
theorem gap_is {n lo : Int} (hn : 1 ≤ n ∧ n ≤ 512) (hlo : 0 ≤ lo ∧ lo ≤ 512) {t : Tr} (hg : Good t) : t.sz ≤ BIG → Ord (lst t) → ∀ (fr to : Int), 0 ≤ fr → fr ≤ to → to ≤ 512 → (∀ x ∈ lst t, fr ≤ x.start ∧ x.start + x.pages ≤ to) → gapF n lo t fr to = gl n (lst t) (max fr lo) to := by
  induction hg with
  | leaf =>
    intro _ _ fr to h1 h2 h3 _
    rw [gapF_else n lo zT fr to (fun h => by cases h), lst_zT]
    exact gapS_is ⟨h1, by omega⟩ ⟨by omega, h3⟩ hlo
  | @node a b x ha hb h1 h2 iha ihb =>
    intro hs ho fr to h3 h4 h5 hx
    have hs' := hs
    rw [sz_nodeF] at hs
    have hh := h_node ha hb (by omega) x
    rw [imax_def] at hh
    have la := ha.h_le (by omega)
    have lb := hb.h_le (by omega)
    have wt : w64 (to - lo) = to - lo := w_small (by omega) (by omega)
    have h0 : ((nodeF a x b).h == 0) = false := by simp; omega
    by_cases c : to - lo < n
    · rw [gapF_else n lo _ fr to (fun _ => by rw [wt]; exact dT c), gapS_is ⟨h3, by omega⟩ ⟨by omega, h5⟩ hlo, gl_neg (by omega) (by simp), gl_neg (by omega) fun y hy => by
        have h6 := hx y hy
        have h7 := ho.1 y hy
        unfold Vd at h7; omega]
    · rw [nodeF_is] at h0
      have e := gapF_two n lo (nodeF a x b).h (nodeF a x b).f (nodeF a x b).l (nodeF a x b).g x a b fr to h0 (by rw [wt]; exact dF c)
      rw [← nodeF_is] at e
      rw [e]
      rw [lst_nodeG ha hb hs] at ho hx ⊢
      have hv := ho.1 x (by simp)
      have hp := List.pairwise_append.1 ho.2
      have oa : Ord (lst a) := ⟨fun y hy => ho.1 y (by simp [hy]), hp.1⟩
      have ob : Ord (lst b) := ⟨fun y hy => ho.1 y (by simp [hy]), (List.pairwise_cons.1 hp.2.1).2⟩
      have hve := hv.end
      have hxx := hx x (by simp)
      unfold Vd at hv
      have hba : ∀ y ∈ lst a, y.start + y.pages ≤ x.start ∧ Vd y := fun y hy => ⟨hp.2.2 y hy x (by simp), ho.1 y (by simp [hy])⟩
      rw [gl_app (by omega) hba hv.2.1, hve, ihb (by omega) ob (x.start + x.pages) to (by omega) (by omega) h5 (fun y hy => ⟨(List.pairwise_cons.1 hp.2.1).1 y hy, (hx y (by simp [hy])).2⟩),
        show max (max fr lo) (x.start + x.pages) = max (x.start + x.pages) lo by omega]
      rw [iha (by omega) oa fr x.start h3 (by omega) (by omega) (fun y hy => ⟨(hx y (by simp [hy])).1, (hba y hy).1⟩)]
      have wx : w64 (x.start - lo) = x.start - lo := w_small (by omega) (by omega)
      cases hC : gapC a x fr lo n with
      | true =>
        rw [cond_true]
        by_cases c2 : gl n (lst a) (max fr lo) x.start ≥ 0
        · rw [dT c2, if_pos c2]; rfl
        · rw [dF c2, if_neg c2]; rfl
      | false =>
        rw [cond_false, if_neg]
        have key : gl n (lst a) (max fr lo) x.start = -1 := by
          by_cases c2 : x.start - lo ≥ n
          · unfold gapC at hC
            rw [wx, dT c2, Bool.true_and] at hC
            simp only [Bool.or_eq_false_iff, decide_eq_false_iff_not, beq_eq_false_iff_ne] at hC
            obtain ⟨q1, q2, q3, q4⟩ := hC
            have F := flg_is ha (by omega) oa q1
            have f1 := F.f
            have f2 := F.l
            rw [w_small (n := a.f - fr) (by omega) (by omega)] at q3
            rw [w_small (n := x.start - a.l) (by omega) (by omega)] at q4
            exact gl_tight (F.tight n fr x.start hn.1 (by omega) (by omega) (by omega)) (by omega)
          · exact gl_neg (by omega) fun y hy => by
              have h7 := hba y hy
              unfold Vd at h7; omega
        rw [key]; omega
/-! ### What the lowest gap is -/
/-- The pages from q on are free. -/
def Free (l : List Rg) (q n : Int) : Prop := ∀ x ∈ l, ¬ (x.start < q + n ∧ q < x.start + x.pages)
theorem gl_spec {n : Int} (hn : 1 ≤ n) : ∀ {l : List Rg} {s to : Int}, 0 ≤ s → Ord l → (gl n l s to = -1 ∧ (∀ q, s ≤ q → q + n ≤ to → ¬ Free l q n)) ∨ (s ≤ gl n l s to ∧ (Free l (gl n l s to) n) ∧ (∀ q, s ≤ q → q < gl n l s to → ¬ Free l q n) ∧ ((∀ x ∈ l, x.start ≤ to) → gl n l s to + n ≤ to))
  | [], s, to, hs, ho => by
    rw [gl]
    by_cases c : to - s ≥ n
    · rw [if_pos c]; exact .inr ⟨Int.le_refl _, fun x hx => by simp at hx, fun q h1 h2 => by omega, fun _ => by omega⟩
    · rw [if_neg c]; exact .inl ⟨rfl, fun q h1 h2 => by omega⟩
  | x :: xs, s, to, hs, ho => by
    rw [gl]
    have hd := ho.head
    have hv := hd.1
    unfold Vd at hv
    by_cases c : x.start - s ≥ n
    · rw [if_pos c]
      refine .inr ⟨Int.le_refl _, fun y hy => ?_, fun q h1 h2 => by omega, fun h => by have := h x (by simp); omega⟩
      rcases List.mem_cons.1 hy with rfl | hy
      · omega
      · have := hd.2 y hy
        unfold Bef at this
        omega
    · rw [if_neg c]
      rcases gl_spec hn (l := xs) (s := max s (x.start + x.pages)) (to := to) (by omega) ho.tail with ⟨h1, h2⟩ | ⟨h1, h2, h3, h4⟩
      · refine .inl ⟨h1, fun q h5 h6 hf => ?_⟩
        by_cases c2 : q < x.start + x.pages
        · exact hf x (by simp) ⟨by omega, c2⟩
        · exact h2 q (by omega) h6 fun y hy => hf y (by simp [hy])
      · refine .inr ⟨by omega, fun y hy => ?_, fun q h5 h6 hf => ?_, fun h => h4 fun y hy => h y (by simp [hy])⟩
        · rcases List.mem_cons.1 hy with rfl | hy
          · omega
          · exact h2 y hy
        · by_cases c2 : q < x.start + x.pages
          · exact hf x (by simp) ⟨by omega, c2⟩
          · exact h3 q (by omega) h6 fun y hy => hf y (by simp [hy])
theorem gap_top {t : Tr} (hg : Good t) (hs : t.sz ≤ BIG) (ho : Ord (lst t)) {n lo : Int} (hn : 1 ≤ n ∧ n ≤ 512) (hlo : 0 ≤ lo ∧ lo ≤ 512) : gapF n lo t 0 512 = gl n (lst t) lo 512 := by
  rw [gap_is hn hlo hg hs ho 0 512 (by omega) (by omega) (by omega) fun x hx => by
    have := ho.1 x hx
    unfold Vd at this; omega, show max 0 lo = lo by omega]
/-- Gap, by what it finds. -/
theorem gapT_spec {t : Tr} (hs : t.sz ≤ BIG) (hg : Good t) (ho : Ord (lst t)) {lo hi n : Int} (hn : 1 ≤ n ∧ n ≤ 512) (hlo : 0 ≤ lo ∧ lo ≤ hi ∧ hi ≤ 512) :
    (gapT t lo hi n = -1 ∧ ∀ q, lo ≤ q → q + n ≤ hi → ¬ Free (lst t) q n) ∨ (lo ≤ gapT t lo hi n ∧ gapT t lo hi n + n ≤ hi ∧ Free (lst t) (gapT t lo hi n) n ∧ ∀ q, lo ≤ q → q < gapT t lo hi n → ¬ Free (lst t) q n) := by
  have hA : gapA t lo hi n = false := by
    unfold gapA
    rw [(checkF_iff hs).2 ⟨hg, ho⟩, dF (show ¬ lo < 0 by omega), dF (show ¬ lo > hi by omega), dF (show ¬ hi > 512 by omega), dF (show ¬ n < 1 by omega), dF (show ¬ n > 512 by omega)]; rfl
  unfold gapT
  rw [hA, gap_top hg hs ho hn ⟨hlo.1, by omega⟩, w_small (n := hi - n) (by omega) (by omega), cond_false]
  have h5 : ∀ x ∈ lst t, x.start ≤ 512 := fun x hx => by
    have := ho.1 x hx
    unfold Vd at this; omega
  rcases gl_spec hn.1 (l := lst t) (s := lo) (to := 512) hlo.1 ho with ⟨h1, h2⟩ | ⟨h1, h2, h3, h4⟩
  · rw [h1]
    exact .inl ⟨rfl, fun q h6 h7 => h2 q h6 (by omega)⟩
  · have h4 := h4 h5
    by_cases c : gl n (lst t) lo 512 > hi - n
    · rw [dT c, Bool.or_true, cond_true]
      exact .inl ⟨rfl, fun q h6 h7 => h3 q h6 (by omega)⟩
    · rw [dF c, dF (show ¬ gl n (lst t) lo 512 < 0 by omega)]
      exact .inr ⟨h1, by show gl n (lst t) lo 512 + n ≤ hi; omega, h2, h3⟩
/-! ### Place -/
theorem plR_ok {p n : Int} (h0 : 0 ≤ p) (h1 : 1 ≤ n) (h2 : p + n ≤ 512) : Rok (plR p n) :=
  ⟨⟨h0, h1, h2⟩, .inl rfl, (by decide : (0 : Int) ≤ 0), (by decide : (0 : Int) ≤ 15), (by decide : (-1 : Int) ≤ -1), (by decide : (-1 : Int) < 4), fun _ => ⟨(by decide : flagR ⟨0, 0, 0, 0, 0, 0⟩ 1 = false), rfl⟩, fun h => absurd rfl h⟩
theorem rtree_code {l : List Rg} : (rtreeF l).2 = 0 ∨ (rtreeF l).2 = 9 := by
  unfold rtreeF
  cases decide (((rnrm l).length : Int) > 12)
  · exact .inl rfl
  · exact .inr rfl
theorem rmap_code {t : Tr} (hs : t.sz ≤ BIG) (h : Sok t) {p n : Int} (h0 : 0 ≤ p) (h1 : 1 ≤ n) (h2 : p + n ≤ 512) : ((rmapF t (plR p n)).2 != 7) = true ↔ Free (lst t) p n := by
  have hr := plR_ok h0 h1 h2
  unfold rmapF
  rw [(rcF_iff hs).2 h, rchk0 hr, rls_sok hs h]
  simp only [bne_self_eq_false, cond_false]
  cases ho : rmO (plR p n) (lst t) with
  | true =>
    simp only [cond_true]
    obtain ⟨x, hx, h3⟩ := (rmO_iff hr h.lok).1 ho
    constructor
    · intro hh; cases hh
    · intro hf; exact absurd h3 (hf x hx)
  | false =>
    rw [cond_false]
    constructor
    · intro _ x hx h3
      rw [(rmO_iff hr h.lok).2 ⟨x, hx, h3⟩] at ho; cases ho
    · intro _
      rcases rtree_code (l := rinL t (plR p n)) with e | e <;> rw [e] <;> rfl
theorem rplN_spec {t : Tr} (hs : t.sz ≤ BIG) (h : Sok t) {n : Int} (hn : 1 ≤ n) : ∀ (k : Nat) (p : Int), 0 ≤ p → p + (k : Int) + n ≤ 513 → (rplN t n k p = -1 ∧ ∀ q, p ≤ q → q < p + k → ¬ Free (lst t) q n) ∨ (p ≤ rplN t n k p ∧ rplN t n k p < p + k ∧ Free (lst t) (rplN t n k p) n ∧ ∀ q, p ≤ q → q < rplN t n k p → ¬ Free (lst t) q n)
  | 0, p, h0, h1 => .inl ⟨rfl, fun q h2 h3 => by omega⟩
  | k + 1, p, h0, h1 => by
    have hc := rmap_code hs h (p := p) h0 hn (by omega)
    rw [rplN]
    cases hb : (rmapF t (plR p n)).2 != 7 with
    | true => exact .inr ⟨Int.le_refl _, by show p < _; omega, hc.1 hb, fun q h2 h3 => by have h3 : q < p := h3; omega⟩
    | false =>
      have hno : ¬ Free (lst t) p n := fun hf => by rw [hc.2 hf] at hb; cases hb
      rw [cond_false]
      rcases rplN_spec hs h hn k (p + 1) (by omega) (by omega) with ⟨h2, h3⟩ | ⟨h2, h3, h4, h5⟩
      · refine .inl ⟨h2, fun q h6 h7 => ?_⟩
        by_cases c : q = p
        · rw [c]; exact hno
        · exact h3 q (by omega) (by omega)
      · refine .inr ⟨by omega, by omega, h4, fun q h6 h7 => ?_⟩
        by_cases c : q = p
        · rw [c]; exact hno
        · exact h5 q (by omega) h7
theorem place_eq {t : Tr} (hs : t.sz ≤ BIG) (n : Int) : placeF t n = rplaceF t n := by
  unfold placeF rplaceF
  rw [acF_eq hs]
  by_cases h : rcF t = 0
  · have hk := (rcF_iff hs).1 h
    rw [h]
    simp only [bne_self_eq_false, cond_false, Bool.false_or]
    by_cases hn : 1 ≤ n ∧ n ≤ 512
    · rw [dF (show ¬ n < 1 by omega), dF (show ¬ n > 512 by omega)]
      simp only [Bool.or_self, cond_false]
      rcases gapT_spec hs hk.good hk.lok.ord (lo := 0) (hi := 512) hn (by omega) with ⟨a1, a2⟩ | ⟨a1, a2, a3, a4⟩
      · rcases rplN_spec hs hk hn.1 (512 - n + 1).toNat 0 (by omega) (by omega) with ⟨b1, b2⟩ | ⟨b1, b2, b3, b4⟩
        · rw [a1, b1]
        · exact absurd b3 (a2 _ b1 (by omega))
      · rcases rplN_spec hs hk hn.1 (512 - n + 1).toNat 0 (by omega) (by omega) with ⟨b1, b2⟩ | ⟨b1, b2, b3, b4⟩
        · exact absurd a3 (b2 _ a1 (by omega))
        · rcases Int.lt_trichotomy (gapT t 0 512 n) (rplN t n (512 - n + 1).toNat 0) with c | c | c
          · exact absurd a3 (b4 _ a1 c)
          · exact c
          · exact absurd b3 (a4 _ b1 c)
    · have e : (decide (n < 1) || decide (n > 512)) = true := by simp only [Bool.or_eq_true, decide_eq_true_eq]; omega
      rw [e, cond_true]
      unfold gapT
      have hA : gapA t 0 512 n = true := by
        unfold gapA
        rw [e]; simp
      rw [hA]; rfl
  · rw [bne0.2 h]; rfl
end Go.Proofs.Ytalcipbagidbpaa
end

section
set_option linter.unusedVariables false
namespace Go.Proofs.Ytalcipbagidbpaa
open Go.Proofs
/-! ### Few -/
theorem nodes_le (t : Tr) : (nodesF t).length ≤ t.sz := by
  induction t using Tr.ind with
  | h t ih =>
    cases t with
    | mk h f l g x k =>
      by_cases hk : ∃ a b, k = [a, b]
      · obtain ⟨a, b, rfl⟩ := hk
        have ha := ih a (by simp [Tr.kids])
        have hb := ih b (by simp [Tr.kids])
        rw [nodesF_two, sz_mk]
        cases h == 0
        · simp only [cond_false, List.length_append, List.length_cons]; omega
        · simp
      · rw [nodesF_else]
        · simp
        · intro _
          rcases k with _ | ⟨a, _ | ⟨b, _ | ⟨c, k⟩⟩⟩
          · rfl
          · rfl
          · exact absurd ⟨a, b, rfl⟩ hk
          · simp only [Tr.kids, List.length_cons, bne_iff_ne]; omega
theorem nd_bd (t : Tr) : ∀ lim : Int, 0 ≤ lim → lim ≤ 200 → 1 ≤ ndF t lim ∧ (ndF t lim ≤ lim → (t.sz : Int) + 1 ≤ ndF t lim) ∧ ndF t lim ≤ max 1 (lim + 1) := by
  induction t using Tr.ind with
  | h t ih =>
    intro lim h0 h1
    rw [ndF_eq]
    have key : ∀ (k : List Tr), (∀ x ∈ k, ∀ lim : Int, 0 ≤ lim → lim ≤ 200 → 1 ≤ ndF x lim ∧ (ndF x lim ≤ lim → (x.sz : Int) + 1 ≤ ndF x lim) ∧ ndF x lim ≤ max 1 (lim + 1)) → ∀ n : Int, 1 ≤ n → n ≤ max 1 (lim + 1) →
        n ≤ ndL k n lim ∧ (ndL k n lim ≤ lim → n + (k.map fun x => (x.sz : Int) + 1).sum ≤ ndL k n lim) ∧ ndL k n lim ≤ max 1 (lim + 1) := by
      intro k
      induction k with
      | nil => intro _ n hn hm; rw [ndL]; simp; omega
      | cons x xs ihk =>
        intro hk n hn hm
        rw [ndL]
        by_cases c : n ≤ lim
        · obtain ⟨a1, a2, a3⟩ := hk x (by simp) (lim - n) (by omega) (by omega)
          rw [dT c, cond_true, w_small (n := lim - n) (by omega) (by omega), w_small (n := n + ndF x (lim - n)) (by omega) (by omega)]
          obtain ⟨b1, b2, b3⟩ := ihk (fun y hy => hk y (by simp [hy])) (n + ndF x (lim - n)) (by omega) (by omega)
          refine ⟨by omega, fun h => ?_, b3⟩
          have b2 := b2 h
          have a2 := a2 (by omega)
          simp only [List.map_cons, List.sum_cons]
          omega
        · rw [dF c, cond_false]
          exact ⟨Int.le_refl _, fun h => absurd h c, hm⟩
    obtain ⟨a, b, c⟩ := key t.kids (fun x hx lim => ih x hx lim) 1 (Int.le_refl _) (by omega)
    refine ⟨a, fun h => ?_, c⟩
    have b := b h
    have e : (t.sz : Int) ≤ (t.kids.map fun x => (x.sz : Int) + 1).sum := by
      cases t with
      | mk hh f l g x k =>
        by_cases hk : ∃ a b, k = [a, b]
        · obtain ⟨a, b, rfl⟩ := hk
          rw [sz_mk]
          simp [Tr.kids]; omega
        · have : (Tr.mk hh f l g x k).sz = 0 := by
            unfold Tr.sz
            split
            · rename_i e; simp only [Tr.mk.injEq] at e; exact absurd ⟨_, _, e.2.2.2.2.2⟩ hk
            · rfl
          rw [this]
          have pos : ∀ k : List Tr, 0 ≤ (k.map fun x => (x.sz : Int) + 1).sum := by
            intro k
            induction k with
            | nil => simp
            | cons y ys ihy => simp only [List.map_cons, List.sum_cons]; omega
          exact pos _
    omega
theorem few_sz {t : Tr} (h : fewF t = true) : t.sz ≤ 200 := by
  unfold fewF at h
  rw [decide_eq_true_eq] at h
  have := (nd_bd t 200 (by decide) (by decide)).2.1 h
  omega
/-! ### Same -/
/-! ### The calls -/
theorem sz_big {t : Tr} (hs : t.sz ≤ 1000000) : t.sz ≤ BIG := Nat.le_trans hs (by decide)
theorem nodes_n {t : Tr} (hs : t.sz ≤ 1000000) : (nodesF t).length ≤ 1000000 := Nat.le_trans (nodes_le t) hs
theorem bl0 {l : List Rg} (hl : l.length ≤ BIG) : (nrmL l).all validF = true → BldOK (nrmL l) 0 zT := fun _ => (bld0 (Nat.le_trans (nrmL_len l) hl)).ok 0
theorem insL_len (l : List Rg) (r : Rg) : (insL l r).length = l.length + 1 := by
  have := mapAt_le l r
  unfold insL; simp; omega
theorem listF_le {t : Tr} {n : Nat} (h : (nodesF t).length ≤ n) : (listF t).length ≤ n := by
  unfold listF
  cases checkF t != 0 <;> simp [h]
section
variable {t : Tr} (hs : t.sz ≤ 1000000)
include hs
theorem map1 (r : Rg) : PS Try.prog 17 [t.v, r.v] (.tup [(rmapF t r).1.v, .int .i64 (rmapF t r).2]) := by
  have hn := nodes_n hs
  rw [← amap_eq hs r]
  exact amap_ps t r (Nat.le_trans hn (by decide)) (bl0 (by rw [insL_len]; have := listF_le hn; unfold BIG; omega))
theorem unmap1 (p c : Int) : PS Try.prog 22 [t.v, .int .i64 p, .int .i64 c] (.tup [(rumF t p c).1.v, .int .i64 (rumF t p c).2]) := by
  have hn := nodes_n hs
  rw [← unmap_eq hs p c]
  exact unmap_ps t p c (Nat.le_trans hn (by decide)) (bl0 (by unfold unL; have := flatMap_len (f := fun r => cutL r p c) (fun r => cutL_len r p c) (listF t); have := listF_le hn; unfold BIG; omega))
theorem prot1 (p c pr : Int) : PS Try.prog 32 [t.v, .int .i64 p, .int .i64 c, .int .i64 pr] (.tup [(rproF t p c pr).1.v, .int .i64 (rproF t p c pr).2]) := by
  have hn := nodes_n hs
  rw [← protect_eq (sz_big hs) p c pr]
  exact protect_ps t p c pr (Nat.le_trans hn (by decide)) (fun h => cov_ok (sz_big hs) ((rcF_iff (sz_big hs)).1 (by rw [acF_eq (sz_big hs)] at h; exact bne0f.1 h))) (bl0 (by unfold chgL; have := chgL_len' (listF_le hn) (proO pr) (proT pr) p c; unfold BIG; omega))
theorem grow1 (p : Int) : PS Try.prog 24 [t.v, .int .i64 p] (.tup [(rgrowF t p).1.v, .int .i64 (rgrowF t p).2]) := by
  have hn := nodes_n hs
  obtain ⟨k, hk⟩ := grow_is (sz_big hs) p
  rw [← hk.eq]
  exact agrow_ps t p k (Nat.le_trans hn (by decide)) hk.hk (fun _ => (bld0 (by rw [List.length_set]; exact Nat.le_trans (listF_le hn) (by decide))).ok 0)
theorem find1 (p : Int) : PS Try.prog 26 [t.v, .int .i64 p] (.tup [(rfindF t p).1.v, .bool (rfindF t p).2]) := by
  rw [← afind_eq (sz_big hs) p]
  exact afind_ps t p (Nat.le_trans (nodes_n hs) (by decide))
theorem check2 : PS Try.prog 29 [t.v] (.int .i64 (rcF t)) := rc_ps t (Nat.le_trans (nodes_n hs) (by decide))
theorem count1 : PS Try.prog 30 [t.v] (.int .i64 (rlsF t).length) := by
  rw [← acount_eq (sz_big hs)]
  exact acount_ps t (Nat.le_trans (nodes_n hs) (by decide))
theorem place1 (n : Int) : PS Try.prog 20 [t.v, .int .i64 n] (.int .i64 (rplaceF t n)) := by
  rw [← place_eq (sz_big hs) n]
  exact place_ps t n (Nat.le_trans (nodes_n hs) (by decide))
end
/-! ### The results are small -/
end Go.Proofs.Ytalcipbagidbpaa
end

section
set_option linter.unusedVariables false
set_option maxHeartbeats 4000000
namespace Go.Proofs.Ytalcipbagidbpaa
open Go.Proofs
def anR (a b c d : Int) : Rg := ⟨a, b, c, d, -1, 0⟩
theorem anon_ok : FnOK Try.prog 49 Try.f49 (bodyOf Try.f49) := ⟨Try.func49, rfl, rfl⟩
theorem anon_vc (a b c d : Int) : vc Try.prog TA none [] [] (bodyOf Try.f49) ⟨startT Try.f49 [.int .i64 a, .int .i64 b, .int .i64 c, .int .i64 d], []⟩ (Fin TA Try.f49 ((anR a b c d).v)) = (6 = 6 ∧ true = true ∧ 6 ≤ 6 ∧ a = a ∧ b = b ∧ c = c ∧ d = d ∧ (-1 : Int) = (-1 : Int) ∧ (0 : Int) = (0 : Int) ∧ True) := by kernel_rfl
theorem anon_ps (a b c d : Int) : PS Try.prog 49 [.int .i64 a, .int .i64 b, .int .i64 c, .int .i64 d] ((anR a b c d).v) := by
  refine .of_vcN mixedA tabA anon_ok (by repeat' (first | exact trivial | exact Pur.int | refine And.intro ?_ ?_)) (anon_vc a b c d) ?_
  repeat' (first | refine And.intro ?_ ?_)
  all_goals (first | exact trivial | with_reducible rfl | exact Nat.le_refl _)
theorem is_ok : FnOK Try.prog 50 Try.f50 (bodyOf Try.f50) := ⟨Try.func50, rfl, rfl⟩
open Go.IntKind GV Ent in
theorem is_vc (t : Tr) (l : List Rg) : vc Try.prog TA none [] [(6, tl (Lv (rlistF t))), (8, tl (.bool (lsameF (rlistF t) l)))] (bodyOf Try.f50) ⟨startT Try.f50 [t.v, Lv l], []⟩ (Fin TA Try.f50 (.bool (lsameF (rlistF t) l))) = (CallSem Try.prog 41 [t.v] [] 1 (im (rlistF t).length (RL (rlistF t))) [] [] ∧ CallSem Try.prog 93 [im (rlistF t).length (RL (rlistF t)), im l.length (RL l)] [] 1 (bool (lsameF (rlistF t) l)) [] [] ∧ lsameF (rlistF t) l = lsameF (rlistF t) l ∧ True) := by kernel_rfl
theorem is_ps (t : Tr) (l : List Rg) (hn : (nodesF t).length ≤ 1073741824) : PS Try.prog 50 [t.v, Lv l] (.bool (lsameF (rlistF t) l)) := by
  refine .of_vcN mixedA tabA is_ok (by repeat' (first | exact trivial | exact Tr.pur _ | exact Pur.im (RL_pur _) | refine And.intro ?_ ?_)) (is_vc t l) ?_
  repeat' (first | exact rlist_ps t hn _ | exact lsame_ps (rlistF t) l (rlistF_len hn) _ | refine And.intro ?_ ?_)
  all_goals (first | exact trivial | with_reducible rfl)
theorem is_f9 (t : Tr) (l : List Rg) : allP (all2 (vw (fun q => look q [(9, .blk (RL l) 23)]) [] 8) [t.v, .sl 9 0 l.length 6] [t.v, Lv l]) = (t.h = t.h ∧ t.f = t.f ∧ t.l = t.l ∧ t.g = t.g ∧ t.r.start = t.r.start ∧ t.r.pages = t.r.pages ∧ t.r.prot = t.r.prot ∧ t.r.flags = t.r.flags ∧ t.r.file = t.r.file ∧ t.r.index = t.r.index ∧ t.kids.length = t.kids.length ∧ t.K = t.K ∧ PurL t.K ∧ l.length = l.length ∧ (0 : Nat) + l.length * 6 ≤ (RL l).length ∧ List.take (l.length * 6) (List.drop 0 (RL l)) = RL l ∧ ∀ (c : GV), List.Mem c (RL l) → ∀ (W : World) (E : Env) (v : Value), R W E c v → R W { I := E.I, ok := fun x => False, bk := E.bk, tot := E.tot } c v) := by kernel_rfl
theorem is_f10 (t : Tr) (l : List Rg) : allP (all2 (vw (fun q => look q [(10, .blk (RL l) 23)]) [] 8) [t.v, .sl 10 0 l.length 6] [t.v, Lv l]) = (t.h = t.h ∧ t.f = t.f ∧ t.l = t.l ∧ t.g = t.g ∧ t.r.start = t.r.start ∧ t.r.pages = t.r.pages ∧ t.r.prot = t.r.prot ∧ t.r.flags = t.r.flags ∧ t.r.file = t.r.file ∧ t.r.index = t.r.index ∧ t.kids.length = t.kids.length ∧ t.K = t.K ∧ PurL t.K ∧ l.length = l.length ∧ (0 : Nat) + l.length * 6 ≤ (RL l).length ∧ List.take (l.length * 6) (List.drop 0 (RL l)) = RL l ∧ ∀ (c : GV), List.Mem c (RL l) → ∀ (W : World) (E : Env) (v : Value), R W E c v → R W { I := E.I, ok := fun x => False, bk := E.bk, tot := E.tot } c v) := by kernel_rfl
theorem is_f11 (t : Tr) (l : List Rg) : allP (all2 (vw (fun q => look q [(11, .blk (RL l) 23)]) [] 8) [t.v, .sl 11 0 l.length 6] [t.v, Lv l]) = (t.h = t.h ∧ t.f = t.f ∧ t.l = t.l ∧ t.g = t.g ∧ t.r.start = t.r.start ∧ t.r.pages = t.r.pages ∧ t.r.prot = t.r.prot ∧ t.r.flags = t.r.flags ∧ t.r.file = t.r.file ∧ t.r.index = t.r.index ∧ t.kids.length = t.kids.length ∧ t.K = t.K ∧ PurL t.K ∧ l.length = l.length ∧ (0 : Nat) + l.length * 6 ≤ (RL l).length ∧ List.take (l.length * 6) (List.drop 0 (RL l)) = RL l ∧ ∀ (c : GV), List.Mem c (RL l) → ∀ (W : World) (E : Env) (v : Value), R W E c v → R W { I := E.I, ok := fun x => False, bk := E.bk, tot := E.tot } c v) := by kernel_rfl
theorem is_f12 (t : Tr) (l : List Rg) : allP (all2 (vw (fun q => look q [(12, .blk (RL l) 23)]) [] 8) [t.v, .sl 12 0 l.length 6] [t.v, Lv l]) = (t.h = t.h ∧ t.f = t.f ∧ t.l = t.l ∧ t.g = t.g ∧ t.r.start = t.r.start ∧ t.r.pages = t.r.pages ∧ t.r.prot = t.r.prot ∧ t.r.flags = t.r.flags ∧ t.r.file = t.r.file ∧ t.r.index = t.r.index ∧ t.kids.length = t.kids.length ∧ t.K = t.K ∧ PurL t.K ∧ l.length = l.length ∧ (0 : Nat) + l.length * 6 ≤ (RL l).length ∧ List.take (l.length * 6) (List.drop 0 (RL l)) = RL l ∧ ∀ (c : GV), List.Mem c (RL l) → ∀ (W : World) (E : Env) (v : Value), R W E c v → R W { I := E.I, ok := fun x => False, bk := E.bk, tot := E.tot } c v) := by kernel_rfl
theorem is_frz (t : Tr) (l : List Rg) (hn : (nodesF t).length ≤ 1073741824) (base : Nat) :
    CallSem Try.prog 50 [t.v, .sl 9 0 l.length 6] [(9, .blk (RL l) 23)] base (.bool (lsameF (rlistF t) l)) [(9, .emp)] [] ∧ CallSem Try.prog 50 [t.v, .sl 10 0 l.length 6] [(10, .blk (RL l) 23)] base (.bool (lsameF (rlistF t) l)) [(10, .emp)] [] ∧
    CallSem Try.prog 50 [t.v, .sl 11 0 l.length 6] [(11, .blk (RL l) 23)] base (.bool (lsameF (rlistF t) l)) [(11, .emp)] [] ∧ CallSem Try.prog 50 [t.v, .sl 12 0 l.length 6] [(12, .blk (RL l) 23)] base (.bool (lsameF (rlistF t) l)) [(12, .emp)] [] := by
  refine ⟨CallSem.frozen (is_ps t l hn) [(9, .blk (RL l) 23)] ?_, CallSem.frozen (is_ps t l hn) [(10, .blk (RL l) 23)] ?_, CallSem.frozen (is_ps t l hn) [(11, .blk (RL l) 23)] ?_, CallSem.frozen (is_ps t l hn) [(12, .blk (RL l) 23)] ?_⟩
  · rw [is_f9]
    repeat' (first | exact RL_pur _ | exact Tr.purK _ | with_reducible rfl | refine And.intro ?_ ?_)
    all_goals first | rfl | (rw [RL_length]; omega) | (rw [List.drop_zero, RL_takeL]) | skip
  · rw [is_f10]
    repeat' (first | exact RL_pur _ | exact Tr.purK _ | with_reducible rfl | refine And.intro ?_ ?_)
    all_goals first | rfl | (rw [RL_length]; omega) | (rw [List.drop_zero, RL_takeL]) | skip
  · rw [is_f11]
    repeat' (first | exact RL_pur _ | exact Tr.purK _ | with_reducible rfl | refine And.intro ?_ ?_)
    all_goals first | rfl | (rw [RL_length]; omega) | (rw [List.drop_zero, RL_takeL]) | skip
  · rw [is_f12]
    repeat' (first | exact RL_pur _ | exact Tr.purK _ | with_reducible rfl | refine And.intro ?_ ?_)
    all_goals first | rfl | (rw [RL_length]; omega) | (rw [List.drop_zero, RL_takeL]) | skip
theorem zG_to {W : World} {E : Env} {v : Value} (h : R W E zG v) : R W E zT.v v := by
  obtain ⟨vs, hl, hR, rfl⟩ : ∃ vs : Array Value, 11 = vs.size ∧ (∀ (j : Nat) (c : GV) (u : Value), [zi, zi, zi, zi, zi, zi, zi, zi, zi, zi, GV.nils][j]? = some c → vs[j]? = some u → R W E c u) ∧ v = .agg vs := by
    cases h with | agg vs hl hR => exact ⟨vs, hl, hR, rfl⟩
  refine .agg vs hl fun j c u hc hu => ?_
  have h1 : j < 11 := by have := (List.getElem?_eq_some_iff.1 hc).1; exact this
  rcases Nat.lt_or_ge j 10 with h2 | h2
  · refine hR j c u ?_ hu
    rw [← hc]
    rcases (show j = 0 ∨ j = 1 ∨ j = 2 ∨ j = 3 ∨ j = 4 ∨ j = 5 ∨ j = 6 ∨ j = 7 ∨ j = 8 ∨ j = 9 by omega) with e | e | e | e | e | e | e | e | e | e <;> subst e <;> rfl
  · have h3 : j = 10 := by omega
    subst h3
    have h4 := hR 10 .nils u rfl hu
    cases h4
    have : c = .im 0 [] := by injection hc with hc; exact hc.symm
    subst this
    exact .im0 none 0
theorem PS.zarg {f : FuncId} {rest : List GV} {res : GV} (h : PS Try.prog f (zT.v :: rest) res) : PS Try.prog f (zG :: rest) res := by
  intro base
  obtain ⟨h1, h2⟩ := h base
  refine ⟨h1, fun W E Bs vs hl hR hpre hb => h2 W E Bs vs hl (fun j g v hg hv => ?_) hpre hb⟩
  rcases j with _ | j
  · injection hg with hg; subst hg
    exact zG_to (hR 0 zG v rfl hv)
  · exact hR (j + 1) g v hg hv
theorem awake_ok : FnOK Try.prog 16 Try.f16 (bodyOf Try.f16) := ⟨Try.func16, rfl, rfl⟩
open Go.IntKind GV Ent in
theorem awake_vc (a1 a2 a3 a4 a5 a6 a7 a8 a9 : Tr) (e1 e2 e3 e4 e5 e6 e7 e8 e9 pl ct : Int) (b1 b2 b3 b4 : Bool) : vc Try.prog TA none [] [(21, tl (anR 4 4 3 0).v), (22, tl (.tup [a1.v, .int .i64 e1])), (27, tl (anR 8 2 3 0).v), (28, tl (.tup [a2.v, .int .i64 e2])), (33, tl (.tup [a3.v, .int .i64 e3])), (38, tl (.tup [a4.v, .int .i64 e4])), (43, tl (.tup [a5.v, .int .i64 e5])), (48, tl (.tup [a6.v, .int .i64 e6])), (53, tl (anR 20 2 3 2).v), (54, tl (.tup [a7.v, .int .i64 e7])), (59, tl (.tup [a8.v, .int .i64 e8])), (64, tl (.tup [a9.v, .int .i64 e9])), (103, tl (anR 4 6 3 0).v), (105, cl [9] (.bool b1) [.emp] []), (109, tl (anR 4 1 3 0).v), (110, tl (anR 5 2 1 0).v), (111, tl (anR 7 3 3 0).v), (113, cl [10] (.bool b2) [.emp] []), (117, tl (anR 4 6 3 0).v), (119, cl [11] (.bool b3) [.emp] []), (123, tl (anR 5 5 3 0).v), (124, tl (anR 18 4 3 2).v), (126, cl [12] (.bool b4) [.emp] []), (130, tl (.int .i64 pl)), (135, tl (.int .i64 ct))] (bodyOf Try.f16) ⟨startT Try.f16 [], []⟩ (Fin TA Try.f16 (.bool true)) = (CallSem Try.prog 49 [int i64 4, int i64 4, int i64 3, int i64 0] [] 0 (agg [int i64 4, int i64 4, int i64 3, int i64 0, int i64 (-1), int i64 0]) [] [] ∧ CallSem Try.prog 17 [agg [int i64 0, int i64 0, int i64 0, int i64 0, int i64 0, int i64 0, int i64 0, int i64 0, int i64 0, int i64 0, nils], agg [int i64 4, int i64 4, int i64 3, int i64 0, int i64 (-1), int i64 0]] [] 0 (tup [a1.v, int i64 e1]) [] [] ∧ 11 = 11 ∧ true = true ∧ 11 ≤ 11 ∧ CallSem Try.prog 49 [int i64 8, int i64 2, int i64 3, int i64 0] [] 1 (agg [int i64 8, int i64 2, int i64 3, int i64 0, int i64 (-1), int i64 0]) [] [] ∧ CallSem Try.prog 17 [a1.v, agg [int i64 8, int i64 2, int i64 3, int i64 0, int i64 (-1), int i64 0]] [] 1 (tup [a2.v, int i64 e2]) [] [] ∧ 11 = 11 ∧ true = true ∧ 11 ≤ 11 ∧ CallSem Try.prog 32 [a2.v, int i64 5, int i64 2, int i64 1] [] 2 (tup [a3.v, int i64 e3]) [] [] ∧ 11 = 11 ∧ true = true ∧ 11 ≤ 11 ∧ CallSem Try.prog 32 [a3.v, int i64 5, int i64 2, int i64 3] [] 3 (tup [a4.v, int i64 e4]) [] [] ∧ 11 = 11 ∧ true = true ∧ 11 ≤ 11 ∧ CallSem Try.prog 22 [a2.v, int i64 0, int i64 5] [] 4 (tup [a5.v, int i64 e5]) [] [] ∧ 11 = 11 ∧ true = true ∧ 11 ≤ 11 ∧ CallSem Try.prog 32 [a5.v, int i64 4, int i64 2, int i64 1] [] 5 (tup [a6.v, int i64 e6]) [] [] ∧ 11 = 11 ∧ true = true ∧ 11 ≤ 11 ∧ CallSem Try.prog 49 [int i64 20, int i64 2, int i64 3, int i64 2] [] 6 (agg [int i64 20, int i64 2, int i64 3, int i64 2, int i64 (-1), int i64 0]) [] [] ∧ CallSem Try.prog 17 [a5.v, agg [int i64 20, int i64 2, int i64 3, int i64 2, int i64 (-1), int i64 0]] [] 6 (tup [a7.v, int i64 e7]) [] [] ∧ 11 = 11 ∧ true = true ∧ 11 ≤ 11 ∧ CallSem Try.prog 24 [a7.v, int i64 18] [] 7 (tup [a8.v, int i64 e8]) [] [] ∧ 11 = 11 ∧ true = true ∧ 11 ≤ 11 ∧ CallSem Try.prog 24 [a7.v, int i64 10] [] 8 (tup [a9.v, int i64 e9]) [] [] ∧ 11 = 11 ∧ true = true ∧ 11 ≤ 11 ∧ ((e1 == (0 : Int)) = true → ((e2 == (0 : Int)) = true → ((e3 == (0 : Int)) = true → ((e4 == (0 : Int)) = true → ((e5 == (0 : Int)) = true → ((e6 == (13 : Int)) = true → ((e7 == (0 : Int)) = true → ((e8 == (0 : Int)) = true → ((e9 == (13 : Int)) = true → CallSem Try.prog 49 [int i64 4, int i64 6, int i64 3, int i64 0] [] 9 (agg [int i64 4, int i64 6, int i64 3, int i64 0, int i64 (-1), int i64 0]) [] [] ∧ CallSem Try.prog 50 [a2.v, sl 9 (0 : Nat) (1 : Nat) (6 : Nat)] [((9 : Nat), blk [int i64 4, int i64 6, int i64 3, int i64 0, int i64 (-1), int i64 0] (23 : Nat))] 10 (bool b1) [((9 : Nat), emp)] [] ∧ (b1 = true → CallSem Try.prog 49 [int i64 4, int i64 1, int i64 3, int i64 0] [] 10 (agg [int i64 4, int i64 1, int i64 3, int i64 0, int i64 (-1), int i64 0]) [] [] ∧ CallSem Try.prog 49 [int i64 5, int i64 2, int i64 1, int i64 0] [] 10 (agg [int i64 5, int i64 2, int i64 1, int i64 0, int i64 (-1), int i64 0]) [] [] ∧ CallSem Try.prog 49 [int i64 7, int i64 3, int i64 3, int i64 0] [] 10 (agg [int i64 7, int i64 3, int i64 3, int i64 0, int i64 (-1), int i64 0]) [] [] ∧ CallSem Try.prog 50 [a3.v, sl 10 (0 : Nat) (3 : Nat) (6 : Nat)] [((10 : Nat), blk [int i64 4, int i64 1, int i64 3, int i64 0, int i64 (-1), int i64 0, int i64 5, int i64 2, int i64 1, int i64 0, int i64 (-1), int i64 0, int i64 7, int i64 3, int i64 3, int i64 0, int i64 (-1), int i64 0] (23 : Nat))] 11 (bool b2) [((10 : Nat), emp)] [] ∧ (b2 = true → CallSem Try.prog 49 [int i64 4, int i64 6, int i64 3, int i64 0] [] 11 (agg [int i64 4, int i64 6, int i64 3, int i64 0, int i64 (-1), int i64 0]) [] [] ∧ CallSem Try.prog 50 [a4.v, sl 11 (0 : Nat) (1 : Nat) (6 : Nat)] [((11 : Nat), blk [int i64 4, int i64 6, int i64 3, int i64 0, int i64 (-1), int i64 0] (23 : Nat))] 12 (bool b3) [((11 : Nat), emp)] [] ∧ (b3 = true → CallSem Try.prog 49 [int i64 5, int i64 5, int i64 3, int i64 0] [] 12 (agg [int i64 5, int i64 5, int i64 3, int i64 0, int i64 (-1), int i64 0]) [] [] ∧ CallSem Try.prog 49 [int i64 18, int i64 4, int i64 3, int i64 2] [] 12 (agg [int i64 18, int i64 4, int i64 3, int i64 2, int i64 (-1), int i64 0]) [] [] ∧ CallSem Try.prog 50 [a8.v, sl 12 (0 : Nat) (2 : Nat) (6 : Nat)] [((12 : Nat), blk [int i64 5, int i64 5, int i64 3, int i64 0, int i64 (-1), int i64 0, int i64 18, int i64 4, int i64 3, int i64 2, int i64 (-1), int i64 0] (23 : Nat))] 13 (bool b4) [((12 : Nat), emp)] [] ∧ (b4 = true → CallSem Try.prog 20 [a5.v, int i64 6] [] 13 (int i64 pl) [] [] ∧ ((pl == (10 : Int)) = true → CallSem Try.prog 30 [a7.v] [] 13 (int i64 ct) [] [] ∧ (ct == (2 : Int)) = true ∧ True) ∧ ((pl == (10 : Int)) = false → false = true ∧ True)) ∧ (b4 = false → false = true ∧ True)) ∧ (b3 = false → false = true ∧ True)) ∧ (b2 = false → false = true ∧ True)) ∧ (b1 = false → false = true ∧ True)) ∧ ((e9 == (13 : Int)) = false → false = true ∧ True)) ∧ ((e8 == (0 : Int)) = false → false = true ∧ True)) ∧ ((e7 == (0 : Int)) = false → false = true ∧ True)) ∧ ((e6 == (13 : Int)) = false → false = true ∧ True)) ∧ ((e5 == (0 : Int)) = false → false = true ∧ True)) ∧ ((e4 == (0 : Int)) = false → false = true ∧ True)) ∧ ((e3 == (0 : Int)) = false → false = true ∧ True)) ∧ ((e2 == (0 : Int)) = false → false = true ∧ True)) ∧ ((e1 == (0 : Int)) = false → false = true ∧ True)) := by kernel_rfl
theorem awake_ps (a1 a2 a3 a4 a5 a6 a7 a8 a9 : Tr) (e1 e2 e3 e4 e5 e6 e7 e8 e9 pl ct : Int) (b1 b2 b3 b4 : Bool) (h1 : PS Try.prog 17 [zG, (anR 4 4 3 0).v] (.tup [a1.v, .int .i64 e1])) (h2 : PS Try.prog 17 [a1.v, (anR 8 2 3 0).v] (.tup [a2.v, .int .i64 e2])) (h3 : PS Try.prog 32 [a2.v, .int .i64 5, .int .i64 2, .int .i64 1] (.tup [a3.v, .int .i64 e3]))
    (h4 : PS Try.prog 32 [a3.v, .int .i64 5, .int .i64 2, .int .i64 3] (.tup [a4.v, .int .i64 e4])) (h5 : PS Try.prog 22 [a2.v, .int .i64 0, .int .i64 5] (.tup [a5.v, .int .i64 e5])) (h6 : PS Try.prog 32 [a5.v, .int .i64 4, .int .i64 2, .int .i64 1] (.tup [a6.v, .int .i64 e6]))
    (h7 : PS Try.prog 17 [a5.v, (anR 20 2 3 2).v] (.tup [a7.v, .int .i64 e7])) (h8 : PS Try.prog 24 [a7.v, .int .i64 18] (.tup [a8.v, .int .i64 e8])) (h9 : PS Try.prog 24 [a7.v, .int .i64 10] (.tup [a9.v, .int .i64 e9]))
    (hpl : PS Try.prog 20 [a5.v, .int .i64 6] (.int .i64 pl)) (hct : PS Try.prog 30 [a7.v] (.int .i64 ct))
    (hb1 : ∀ base, CallSem Try.prog 50 [a2.v, .sl 9 0 1 6] [(9, .blk (RL [anR 4 6 3 0]) 23)] base (.bool b1) [(9, .emp)] []) (hb2 : ∀ base, CallSem Try.prog 50 [a3.v, .sl 10 0 3 6] [(10, .blk (RL [anR 4 1 3 0, anR 5 2 1 0, anR 7 3 3 0]) 23)] base (.bool b2) [(10, .emp)] [])
    (hb3 : ∀ base, CallSem Try.prog 50 [a4.v, .sl 11 0 1 6] [(11, .blk (RL [anR 4 6 3 0]) 23)] base (.bool b3) [(11, .emp)] []) (hb4 : ∀ base, CallSem Try.prog 50 [a8.v, .sl 12 0 2 6] [(12, .blk (RL [anR 5 5 3 0, anR 18 4 3 2]) 23)] base (.bool b4) [(12, .emp)] [])
    (q1 : (e1 == 0) = true) (q2 : (e2 == 0) = true) (q3 : (e3 == 0) = true) (q4 : (e4 == 0) = true) (q5 : (e5 == 0) = true) (q6 : (e6 == 13) = true) (q7 : (e7 == 0) = true) (q8 : (e8 == 0) = true) (q9 : (e9 == 13) = true) (qb1 : b1 = true) (qb2 : b2 = true) (qb3 : b3 = true) (qb4 : b4 = true) (qp : (pl == 10) = true) (qc : (ct == 2) = true) : PS Try.prog 16 [] (.bool true) := by
  refine .of_vcN mixedA tabA awake_ok (by repeat' (first | exact trivial)) (awake_vc a1 a2 a3 a4 a5 a6 a7 a8 a9 e1 e2 e3 e4 e5 e6 e7 e8 e9 pl ct b1 b2 b3 b4) ?_
  subst qb1 qb2 qb3 qb4; try rw [q1, q2, q3, q4, q5, q6, q7, q8, q9, qp, qc]
  repeat' (first | exact h1 _ | exact h2 _ | exact h3 _ | exact h4 _ | exact h5 _ | exact h6 _ | exact h7 _ | exact h8 _ | exact h9 _ | exact hpl _ | exact hct _ | exact hb1 _ | exact hb2 _ | exact hb3 _ | exact hb4 _ | exact anon_ps 4 4 3 0 _ | exact anon_ps 8 2 3 0 _ | exact anon_ps 20 2 3 2 _ | exact anon_ps 4 6 3 0 _ | exact anon_ps 4 1 3 0 _ | exact anon_ps 5 2 1 0 _ | exact anon_ps 7 3 3 0 _ | exact anon_ps 5 5 3 0 _ | exact anon_ps 18 4 3 2 _ | refine And.intro ?_ ?_ | (intro h_; first | (cases h_; done) | rw [h_] | (simp only [Bool.not_eq_true', Bool.not_eq_false'] at h_; rw [h_]) | skip))
  all_goals (first | exact trivial | with_reducible rfl | exact Nat.le_refl _)
end Go.Proofs.Ytalcipbagidbpaa
end

section
set_option linter.unusedVariables false
namespace Go.Proofs.Ytalcipbagidbpaa
open Go.Proofs
def aw1 : Tr := (rmapF zT (anR 4 4 3 0)).1
def aw2 : Tr := (rmapF aw1 (anR 8 2 3 0)).1
def aw3 : Tr := (rproF aw2 5 2 1).1
def aw4 : Tr := (rproF aw3 5 2 3).1
def aw5 : Tr := (rumF aw2 0 5).1
def aw7 : Tr := (rmapF aw5 (anR 20 2 3 2)).1
def aw8 : Tr := (rgrowF aw7 18).1
theorem aw_sz : zT.sz ≤ 1000000 ∧ aw1.sz ≤ 1000000 ∧ aw2.sz ≤ 1000000 ∧ aw3.sz ≤ 1000000 ∧ aw4.sz ≤ 1000000 ∧ aw5.sz ≤ 1000000 ∧ aw7.sz ≤ 1000000 ∧ aw8.sz ≤ 1000000 := by decide +kernel
theorem aw_codes : ((rmapF zT (anR 4 4 3 0)).2 == 0) = true ∧ ((rmapF aw1 (anR 8 2 3 0)).2 == 0) = true ∧ ((rproF aw2 5 2 1).2 == 0) = true ∧ ((rproF aw3 5 2 3).2 == 0) = true ∧ ((rumF aw2 0 5).2 == 0) = true ∧ ((rproF aw5 4 2 1).2 == 13) = true ∧
    ((rmapF aw5 (anR 20 2 3 2)).2 == 0) = true ∧ ((rgrowF aw7 18).2 == 0) = true ∧ ((rgrowF aw7 10).2 == 13) = true := by decide +kernel
theorem aw_lists : lsameF (rlistF aw2) [anR 4 6 3 0] = true ∧ lsameF (rlistF aw3) [anR 4 1 3 0, anR 5 2 1 0, anR 7 3 3 0] = true ∧ lsameF (rlistF aw4) [anR 4 6 3 0] = true ∧ lsameF (rlistF aw8) [anR 5 5 3 0, anR 18 4 3 2] = true ∧ (rplaceF aw5 6 == 10) = true ∧ ((((rlsF aw7).length : Nat) : Int) == 2) = true := by decide +kernel
theorem n_big {t : Tr} (hs : t.sz ≤ 1000000) : (nodesF t).length ≤ 1073741824 := Nat.le_trans (nodes_n hs) (by decide)
theorem awake_true : PS Try.prog 16 [] (.bool true) := by
  obtain ⟨s0, s1, s2, s3, s4, s5, s7, s8⟩ := aw_sz
  obtain ⟨q1, q2, q3, q4, q5, q6, q7, q8, q9⟩ := aw_codes
  obtain ⟨l1, l2, l3, l4, qp, qc⟩ := aw_lists
  exact awake_ps aw1 aw2 aw3 aw4 aw5 (rproF aw5 4 2 1).1 aw7 aw8 (rgrowF aw7 10).1 _ _ _ _ _ _ _ _ _ _ _ _ _ _ _ (map1 s0 _).zarg (map1 s1 _) (prot1 s2 5 2 1) (prot1 s3 5 2 3) (unmap1 s2 0 5) (prot1 s5 4 2 1) (map1 s5 _) (grow1 s7 18) (grow1 s7 10)
    (place1 s5 6) (count1 s7) (fun base => (is_frz aw2 [anR 4 6 3 0] (n_big s2) base).1) (fun base => (is_frz aw3 [anR 4 1 3 0, anR 5 2 1 0, anR 7 3 3 0] (n_big s3) base).2.1) (fun base => (is_frz aw4 [anR 4 6 3 0] (n_big s4) base).2.2.1) (fun base => (is_frz aw8 [anR 5 5 3 0, anR 18 4 3 2] (n_big s8) base).2.2.2) q1 q2 q3 q4 q5 q6 q7 q8 q9 l1 l2 l3 l4 qp qc
/-! ### What comes out is small -/
theorem kids_zT : kidsF zT := (kidsF_iff zT).2 ⟨by decide, by intro k hk; simp [zT, Tr.kids] at hk⟩
theorem Good.kids {t : Tr} (hg : Good t) : kidsF t := by
  induction hg with
  | leaf => exact kids_zT
  | node x ha hb h1 h2 iha ihb =>
    rw [kidsF_iff, kids_nodeF]
    refine ⟨by simp only [List.length_cons, List.length_nil]; omega, fun k hk => ?_⟩
    simp only [List.mem_cons, List.not_mem_nil, or_false] at hk
    rcases hk with rfl | rfl
    · exact iha
    · exact ihb
section
variable {t : Tr} (hs : t.sz ≤ 1000000)
include hs
end
end Go.Proofs.Ytalcipbagidbpaa
end

section
set_option linter.unusedVariables false
namespace Go.Proofs.Ytalcipbagidbpaa
open Go.Proofs
section
variable {t : Tr} (hs : t.sz ≤ 1000000) (hk : Sok t)
include hs hk
end
/-- What stays true of a space. -/
structure Inv (t : Tr) : Prop where
  sok : Sok t
  sz : t.sz ≤ 12
end Go.Proofs.Ytalcipbagidbpaa
end

section
set_option linter.unusedVariables false
namespace Go.Proofs.Ytalcipbagidbpaa
open Go.Proofs
/-- A page's description. -/
def sn0 (t : Tr) (p : Int) : Int := bif (rfindF t p).2 then 1 else 0
def sn1 (t : Tr) (p : Int) : Int := bif (rfindF t p).2 then (rfindF t p).1.prot else 0
def noG (f : Int) : Int := IntKind.i64.wrap (BitVec.ofInt IntKind.i64.bits f &&& ~~~ BitVec.ofInt IntKind.i64.bits 2).toNat
def sn2 (t : Tr) (p : Int) : Int := bif (rfindF t p).2 then noG (rfindF t p).1.flags else 0
def sn3 (t : Tr) (p : Int) : Int := bif (rfindF t p).2 then (rfindF t p).1.file else 0
def sn4 (t : Tr) (p : Int) : Int := bif (rfindF t p).2 then (bif decide ((rfindF t p).1.file ≥ 0) then w64 (w64 ((rfindF t p).1.index + p) - (rfindF t p).1.start) else 0) else 0
def snV (t : Tr) (p : Int) : GV := .agg [.int .i64 (sn0 t p), .int .i64 (sn1 t p), .int .i64 (sn2 t p), .int .i64 (sn3 t p), .int .i64 (sn4 t p)]
def lwN (t : Tr) (n : Int) : Nat → Int → Int → Option Int
  | 0, _, _ => none
  | k + 1, p, r => bif sn0 t p == 1 then (bif (0 : Int) == n then some (w64 (w64 (p - n) + 1)) else lwN t n k (p + 1) 0)
    else (bif w64 (r + 1) == n then some (w64 (w64 (p - n) + 1)) else lwN t n k (p + 1) (w64 (r + 1)))
def Occ (l : List Rg) (p : Int) : Prop := ∃ x ∈ l, x.start ≤ p ∧ p < x.start + x.pages
theorem sn0_occ {t : Tr} (hs : t.sz ≤ BIG) (h : Sok t) (p : Int) : (sn0 t p == 1) = true ↔ Occ (lst t) p := by
  unfold sn0 Occ
  rw [rfind_is hs h, ← rfnL_iff h.lok]
  cases (rfnL p (lst t)).2 <;> simp
theorem free_occ {l : List Rg} (hl : LOK l) {q n : Int} (hn : 1 ≤ n) : Free l q n ↔ ∀ p, q ≤ p → p < q + n → ¬ Occ l p := by
  constructor
  · rintro h p h1 h2 ⟨x, hx, h3, h4⟩
    exact h x hx ⟨by omega, by omega⟩
  · rintro h x hx ⟨h1, h2⟩
    have hv := (hl.1 x hx).vd
    unfold Vd at hv
    by_cases c : x.start ≤ q
    · exact h q (Int.le_refl _) (by omega) ⟨x, hx, c, h2⟩
    · exact h x.start (by omega) h1 ⟨x, hx, Int.le_refl _, by omega⟩
theorem lw_spec {t : Tr} (hs : t.sz ≤ BIG) (h : Sok t) {n : Int} (h1 : 1 ≤ n) (h2 : n ≤ 512) : ∀ (k : Nat) (p r : Int), p + k = 512 → 0 ≤ r → r ≤ p → r < n →
    (∀ q, p - r ≤ q → q < p → ¬ Occ (lst t) q) → (r < p → Occ (lst t) (p - r - 1)) → (∀ s, 0 ≤ s → s + n ≤ p → ¬ Free (lst t) s n) →
    (lwN t n k p r = none ∧ ∀ s, 0 ≤ s → s + n ≤ 512 → ¬ Free (lst t) s n) ∨ (∃ s, lwN t n k p r = some s ∧ 0 ≤ s ∧ s + n ≤ 512 ∧ Free (lst t) s n ∧ ∀ s', 0 ≤ s' → s' < s → ¬ Free (lst t) s' n)
  | 0, p, r, e, a, b, c, d1, d2, d3 => .inl ⟨rfl, fun s u v => d3 s u (by omega)⟩
  | k + 1, p, r, e, a, b, c, d1, d2, d3 => by
    rw [lwN]
    by_cases ho : Occ (lst t) p
    · rw [(sn0_occ hs h p).2 ho, cond_true, show ((0 : Int) == n) = false by rw [beq_eq_false_iff_ne]; omega, cond_false]
      refine lw_spec hs h h1 h2 k (p + 1) 0 (by omega) (by omega) (by omega) (by omega) (fun q u v => by omega) (fun _ => by rw [show p + 1 - 0 - 1 = p by omega]; exact ho) fun s u v hf => ?_
      by_cases c2 : s + n ≤ p
      · exact d3 s u c2 hf
      · exact (free_occ h.lok h1).1 hf p (by omega) (by omega) ho
    · rw [show (sn0 t p == 1) = false from by cases hb : (sn0 t p == 1) with | false => rfl | true => exact absurd ((sn0_occ hs h p).1 hb) ho, cond_false, show w64 (r + 1) = r + 1 from wrap_id (by omega) (by omega)]
      by_cases c2 : r + 1 = n
      · rw [show ((r + 1) == n) = true by rw [beq_iff_eq]; exact c2, cond_true, show w64 (p - n) = p - n from wrap_id (by omega) (by omega), show w64 (p - n + 1) = p - n + 1 from wrap_id (by omega) (by omega)]
        refine .inr ⟨_, rfl, by omega, by omega, (free_occ h.lok h1).2 fun q u v => ?_, fun s' u v => d3 s' u (by omega)⟩
        by_cases c3 : q = p
        · rw [c3]; exact ho
        · exact d1 q (by omega) (by omega)
      · rw [show ((r + 1) == n) = false by rw [beq_eq_false_iff_ne]; exact c2, cond_false]
        refine lw_spec hs h h1 h2 k (p + 1) (r + 1) (by omega) (by omega) (by omega) (by omega) (fun q u v => ?_) (fun u => ?_) fun s u v hf => ?_
        · by_cases c3 : q = p
          · rw [c3]; exact ho
          · exact d1 q (by omega) (by omega)
        · rw [show p + 1 - (r + 1) - 1 = p - r - 1 by omega]; exact d2 (by omega)
        · by_cases c4 : s + n ≤ p
          · exact d3 s u c4 hf
          · exact (free_occ h.lok h1).1 hf (p - r - 1) (by omega) (by omega) (d2 (by omega))
theorem lw_place {t : Tr} (hs : t.sz ≤ BIG) (h : Sok t) {n : Int} (h1 : 1 ≤ n) (h2 : n ≤ 512) : rplaceF t n = (lwN t n 512 0 0).getD (-1) := by
  have e : rplaceF t n = rplN t n (512 - n + 1).toNat 0 := by
    unfold rplaceF
    rw [(rcF_iff hs).2 h, show ((0 : Int) != 0) = false from rfl, dF (show ¬ n < 1 by omega), dF (show ¬ n > 512 by omega)]
    rfl
  have h3 := rplN_spec hs h h1 (512 - n + 1).toNat 0 (Int.le_refl _) (by omega)
  rw [← e] at h3
  rcases lw_spec hs h h1 h2 512 0 0 (by omega) (by omega) (by omega) (by omega) (fun q u v => by omega) (fun u => by omega) (fun s u v => by omega) with ⟨h4, h5⟩ | ⟨s, h4, h5, h6, h7, h8⟩
  · rw [h4]
    rcases h3 with ⟨h9, _⟩ | ⟨h9, h10, h11, _⟩
    · exact h9
    · exact absurd h11 (h5 _ h9 (by omega))
  · rw [h4]
    show _ = s
    rcases h3 with ⟨h9, h10⟩ | ⟨h9, h10, h11, h12⟩
    · exact absurd h7 (h10 s h5 (by omega))
    · rcases Int.lt_trichotomy (rplaceF t n) s with c | c | c
      · exact absurd h11 (h8 _ h9 c)
      · exact c
      · exact absurd h7 (h12 s h5 c)
end Go.Proofs.Ytalcipbagidbpaa
end

section
set_option linter.unusedVariables false
set_option maxHeartbeats 4000000
namespace Go.Proofs.Ytalcipbagidbpaa
open Go.Proofs
theorem few_big {t : Tr} (h : (!fewF t) = false) : t.sz ≤ 1000000 := Nat.le_trans (few_sz (nf h)) (by decide)
end Go.Proofs.Ytalcipbagidbpaa
end
