/- DERIVED. A part of the proof of a statement of this seat (La, Lb, Lc, Ra, Rb). No statement of its own; no conditions. -/
import Derived.KernelRfl
import Derived.WalkKit
import Derived.ProofKit
import Derived.OpenShut
import Derived.ChangeOld
import Derived.Below
import Derived.SizedLaws
import Derived.ShutString
import Derived.Carry
import Derived.Test.YtalcipbagidbpaaQf
set_option linter.unusedVariables false
set_option linter.unusedSimpArgs false
set_option linter.unusedSectionVars false
set_option linter.unnecessarySimpa false
section
set_option linter.unusedVariables false
set_option maxHeartbeats 4000000
namespace Go.Proofs.Ytalcipbagidbpaa
open Go.Proofs
def anR (a b c d : Int) : Rg := ⟨a, b, c, d, -1, 0⟩
theorem anon_ok : FnOK Try.prog 49 Try.f49 (bodyOf Try.f49) := ⟨Try.func49, rfl, rfl⟩
theorem anon_vc (a b c d : Int) : vc Try.prog TA none [] [] (bodyOf Try.f49) ⟨startT Try.f49 [.int .i64 a, .int .i64 b, .int .i64 c, .int .i64 d], []⟩ (Fin TA Try.f49 ((anR a b c d).v)) = (6 = 6 ∧ true = true ∧ 6 ≤ 6 ∧ a = a ∧ b = b ∧ c = c ∧ d = d ∧ (-1 : Int) = (-1 : Int) ∧ (0 : Int) = (0 : Int) ∧ True) := by kernel_rfl
theorem anon_ps (a b c d : Int) : PS Try.prog 49 [.int .i64 a, .int .i64 b, .int .i64 c, .int .i64 d] ((anR a b c d).v) := by
  refine .of_vcN mixedA tabA anon_ok (by repeat' (first | exact trivial | exact Pur.int | refine And.intro ?_ ?_)) (anon_vc a b c d) ?_
  repeat' (first | refine And.intro ?_ ?_)
  all_goals (first | exact trivial | with_reducible rfl | exact Nat.le_refl _)
theorem is_ok : FnOK Try.prog 50 Try.f50 (bodyOf Try.f50) := ⟨Try.func50, rfl, rfl⟩
open Go.IntKind GV Ent in
theorem is_vc (t : Tr) (l : List Rg) : vc Try.prog TA none [] [(6, tl (Lv (rlistF t))), (8, tl (.bool (lsameF (rlistF t) l)))] (bodyOf Try.f50) ⟨startT Try.f50 [t.v, Lv l], []⟩ (Fin TA Try.f50 (.bool (lsameF (rlistF t) l))) = (CallSem Try.prog 41 [t.v] [] 1 (im (rlistF t).length (RL (rlistF t))) [] [] ∧ CallSem Try.prog 93 [im (rlistF t).length (RL (rlistF t)), im l.length (RL l)] [] 1 (bool (lsameF (rlistF t) l)) [] [] ∧ lsameF (rlistF t) l = lsameF (rlistF t) l ∧ True) := by kernel_rfl
theorem is_ps (t : Tr) (l : List Rg) (hn : (nodesF t).length ≤ 1073741824) : PS Try.prog 50 [t.v, Lv l] (.bool (lsameF (rlistF t) l)) := by
  refine .of_vcN mixedA tabA is_ok (by repeat' (first | exact trivial | exact Tr.pur _ | exact Pur.im (RL_pur _) | refine And.intro ?_ ?_)) (is_vc t l) ?_
  repeat' (first | exact rlist_ps t hn _ | exact lsame_ps (rlistF t) l (rlistF_len hn) _ | refine And.intro ?_ ?_)
  all_goals (first | exact trivial | with_reducible rfl)
theorem is_f9 (t : Tr) (l : List Rg) : allP (all2 (vw (fun q => look q [(9, .blk (RL l) 23)]) [] 8) [t.v, .sl 9 0 l.length 6] [t.v, Lv l]) = (t.h = t.h ∧ t.f = t.f ∧ t.l = t.l ∧ t.g = t.g ∧ t.r.start = t.r.start ∧ t.r.pages = t.r.pages ∧ t.r.prot = t.r.prot ∧ t.r.flags = t.r.flags ∧ t.r.file = t.r.file ∧ t.r.index = t.r.index ∧ t.kids.length = t.kids.length ∧ t.K = t.K ∧ PurL t.K ∧ l.length = l.length ∧ (0 : Nat) + l.length * 6 ≤ (RL l).length ∧ List.take (l.length * 6) (List.drop 0 (RL l)) = RL l ∧ ∀ (c : GV), List.Mem c (RL l) → ∀ (W : World) (E : Env) (v : Value), R W E c v → R W { I := E.I, ok := fun x => False, bk := E.bk, tot := E.tot } c v) := by kernel_rfl
theorem is_f10 (t : Tr) (l : List Rg) : allP (all2 (vw (fun q => look q [(10, .blk (RL l) 23)]) [] 8) [t.v, .sl 10 0 l.length 6] [t.v, Lv l]) = (t.h = t.h ∧ t.f = t.f ∧ t.l = t.l ∧ t.g = t.g ∧ t.r.start = t.r.start ∧ t.r.pages = t.r.pages ∧ t.r.prot = t.r.prot ∧ t.r.flags = t.r.flags ∧ t.r.file = t.r.file ∧ t.r.index = t.r.index ∧ t.kids.length = t.kids.length ∧ t.K = t.K ∧ PurL t.K ∧ l.length = l.length ∧ (0 : Nat) + l.length * 6 ≤ (RL l).length ∧ List.take (l.length * 6) (List.drop 0 (RL l)) = RL l ∧ ∀ (c : GV), List.Mem c (RL l) → ∀ (W : World) (E : Env) (v : Value), R W E c v → R W { I := E.I, ok := fun x => False, bk := E.bk, tot := E.tot } c v) := by kernel_rfl
theorem is_f11 (t : Tr) (l : List Rg) : allP (all2 (vw (fun q => look q [(11, .blk (RL l) 23)]) [] 8) [t.v, .sl 11 0 l.length 6] [t.v, Lv l]) = (t.h = t.h ∧ t.f = t.f ∧ t.l = t.l ∧ t.g = t.g ∧ t.r.start = t.r.start ∧ t.r.pages = t.r.pages ∧ t.r.prot = t.r.prot ∧ t.r.flags = t.r.flags ∧ t.r.file = t.r.file ∧ t.r.index = t.r.index ∧ t.kids.length = t.kids.length ∧ t.K = t.K ∧ PurL t.K ∧ l.length = l.length ∧ (0 : Nat) + l.length * 6 ≤ (RL l).length ∧ List.take (l.length * 6) (List.drop 0 (RL l)) = RL l ∧ ∀ (c : GV), List.Mem c (RL l) → ∀ (W : World) (E : Env) (v : Value), R W E c v → R W { I := E.I, ok := fun x => False, bk := E.bk, tot := E.tot } c v) := by kernel_rfl
theorem is_f12 (t : Tr) (l : List Rg) : allP (all2 (vw (fun q => look q [(12, .blk (RL l) 23)]) [] 8) [t.v, .sl 12 0 l.length 6] [t.v, Lv l]) = (t.h = t.h ∧ t.f = t.f ∧ t.l = t.l ∧ t.g = t.g ∧ t.r.start = t.r.start ∧ t.r.pages = t.r.pages ∧ t.r.prot = t.r.prot ∧ t.r.flags = t.r.flags ∧ t.r.file = t.r.file ∧ t.r.index = t.r.index ∧ t.kids.length = t.kids.length ∧ t.K = t.K ∧ PurL t.K ∧ l.length = l.length ∧ (0 : Nat) + l.length * 6 ≤ (RL l).length ∧ List.take (l.length * 6) (List.drop 0 (RL l)) = RL l ∧ ∀ (c : GV), List.Mem c (RL l) → ∀ (W : World) (E : Env) (v : Value), R W E c v → R W { I := E.I, ok := fun x => False, bk := E.bk, tot := E.tot } c v) := by kernel_rfl
theorem is_frz (t : Tr) (l : List Rg) (hn : (nodesF t).length ≤ 1073741824) (base : Nat) :
    CallSem Try.prog 50 [t.v, .sl 9 0 l.length 6] [(9, .blk (RL l) 23)] base (.bool (lsameF (rlistF t) l)) [(9, .emp)] [] ∧ CallSem Try.prog 50 [t.v, .sl 10 0 l.length 6] [(10, .blk (RL l) 23)] base (.bool (lsameF (rlistF t) l)) [(10, .emp)] [] ∧
    CallSem Try.prog 50 [t.v, .sl 11 0 l.length 6] [(11, .blk (RL l) 23)] base (.bool (lsameF (rlistF t) l)) [(11, .emp)] [] ∧ CallSem Try.prog 50 [t.v, .sl 12 0 l.length 6] [(12, .blk (RL l) 23)] base (.bool (lsameF (rlistF t) l)) [(12, .emp)] [] := by
  refine ⟨CallSem.frozen (is_ps t l hn) [(9, .blk (RL l) 23)] ?_, CallSem.frozen (is_ps t l hn) [(10, .blk (RL l) 23)] ?_, CallSem.frozen (is_ps t l hn) [(11, .blk (RL l) 23)] ?_, CallSem.frozen (is_ps t l hn) [(12, .blk (RL l) 23)] ?_⟩
  · rw [is_f9]
    repeat' (first | exact RL_pur _ | exact Tr.purK _ | with_reducible rfl | refine And.intro ?_ ?_)
    all_goals first | rfl | (rw [RL_length]; omega) | (rw [List.drop_zero, RL_takeL]) | skip
  · rw [is_f10]
    repeat' (first | exact RL_pur _ | exact Tr.purK _ | with_reducible rfl | refine And.intro ?_ ?_)
    all_goals first | rfl | (rw [RL_length]; omega) | (rw [List.drop_zero, RL_takeL]) | skip
  · rw [is_f11]
    repeat' (first | exact RL_pur _ | exact Tr.purK _ | with_reducible rfl | refine And.intro ?_ ?_)
    all_goals first | rfl | (rw [RL_length]; omega) | (rw [List.drop_zero, RL_takeL]) | skip
  · rw [is_f12]
    repeat' (first | exact RL_pur _ | exact Tr.purK _ | with_reducible rfl | refine And.intro ?_ ?_)
    all_goals first | rfl | (rw [RL_length]; omega) | (rw [List.drop_zero, RL_takeL]) | skip
theorem zG_to {W : World} {E : Env} {v : Value} (h : R W E zG v) : R W E zT.v v := by
  obtain ⟨vs, hl, hR, rfl⟩ : ∃ vs : Array Value, 11 = vs.size ∧ (∀ (j : Nat) (c : GV) (u : Value), [zi, zi, zi, zi, zi, zi, zi, zi, zi, zi, GV.nils][j]? = some c → vs[j]? = some u → R W E c u) ∧ v = .agg vs := by
    cases h with | agg vs hl hR => exact ⟨vs, hl, hR, rfl⟩
  refine .agg vs hl fun j c u hc hu => ?_
  have h1 : j < 11 := by have := (List.getElem?_eq_some_iff.1 hc).1; exact this
  rcases Nat.lt_or_ge j 10 with h2 | h2
  · refine hR j c u ?_ hu
    rw [← hc]
    rcases (show j = 0 ∨ j = 1 ∨ j = 2 ∨ j = 3 ∨ j = 4 ∨ j = 5 ∨ j = 6 ∨ j = 7 ∨ j = 8 ∨ j = 9 by omega) with e | e | e | e | e | e | e | e | e | e <;> subst e <;> rfl
  · have h3 : j = 10 := by omega
    subst h3
    have h4 := hR 10 .nils u rfl hu
    cases h4
    have : c = .im 0 [] := by injection hc with hc; exact hc.symm
    subst this
    exact .im0 none 0
theorem PS.zarg {f : FuncId} {rest : List GV} {res : GV} (h : PS Try.prog f (zT.v :: rest) res) : PS Try.prog f (zG :: rest) res := by
  intro base
  obtain ⟨h1, h2⟩ := h base
  refine ⟨h1, fun W E Bs vs hl hR hpre hb => h2 W E Bs vs hl (fun j g v hg hv => ?_) hpre hb⟩
  rcases j with _ | j
  · injection hg with hg; subst hg
    exact zG_to (hR 0 zG v rfl hv)
  · exact hR (j + 1) g v hg hv
theorem awake_ok : FnOK Try.prog 16 Try.f16 (bodyOf Try.f16) := ⟨Try.func16, rfl, rfl⟩
open Go.IntKind GV Ent in
theorem awake_vc (a1 a2 a3 a4 a5 a6 a7 a8 a9 : Tr) (e1 e2 e3 e4 e5 e6 e7 e8 e9 pl ct : Int) (b1 b2 b3 b4 : Bool) : vc Try.prog TA none [] [(21, tl (anR 4 4 3 0).v), (22, tl (.tup [a1.v, .int .i64 e1])), (27, tl (anR 8 2 3 0).v), (28, tl (.tup [a2.v, .int .i64 e2])), (33, tl (.tup [a3.v, .int .i64 e3])), (38, tl (.tup [a4.v, .int .i64 e4])), (43, tl (.tup [a5.v, .int .i64 e5])), (48, tl (.tup [a6.v, .int .i64 e6])), (53, tl (anR 20 2 3 2).v), (54, tl (.tup [a7.v, .int .i64 e7])), (59, tl (.tup [a8.v, .int .i64 e8])), (64, tl (.tup [a9.v, .int .i64 e9])), (103, tl (anR 4 6 3 0).v), (105, cl [9] (.bool b1) [.emp] []), (109, tl (anR 4 1 3 0).v), (110, tl (anR 5 2 1 0).v), (111, tl (anR 7 3 3 0).v), (113, cl [10] (.bool b2) [.emp] []), (117, tl (anR 4 6 3 0).v), (119, cl [11] (.bool b3) [.emp] []), (123, tl (anR 5 5 3 0).v), (124, tl (anR 18 4 3 2).v), (126, cl [12] (.bool b4) [.emp] []), (130, tl (.int .i64 pl)), (135, tl (.int .i64 ct))] (bodyOf Try.f16) ⟨startT Try.f16 [], []⟩ (Fin TA Try.f16 (.bool true)) = (CallSem Try.prog 49 [int i64 4, int i64 4, int i64 3, int i64 0] [] 0 (agg [int i64 4, int i64 4, int i64 3, int i64 0, int i64 (-1), int i64 0]) [] [] ∧ CallSem Try.prog 17 [agg [int i64 0, int i64 0, int i64 0, int i64 0, int i64 0, int i64 0, int i64 0, int i64 0, int i64 0, int i64 0, nils], agg [int i64 4, int i64 4, int i64 3, int i64 0, int i64 (-1), int i64 0]] [] 0 (tup [a1.v, int i64 e1]) [] [] ∧ 11 = 11 ∧ true = true ∧ 11 ≤ 11 ∧ CallSem Try.prog 49 [int i64 8, int i64 2, int i64 3, int i64 0] [] 1 (agg [int i64 8, int i64 2, int i64 3, int i64 0, int i64 (-1), int i64 0]) [] [] ∧ CallSem Try.prog 17 [a1.v, agg [int i64 8, int i64 2, int i64 3, int i64 0, int i64 (-1), int i64 0]] [] 1 (tup [a2.v, int i64 e2]) [] [] ∧ 11 = 11 ∧ true = true ∧ 11 ≤ 11 ∧ CallSem Try.prog 32 [a2.v, int i64 5, int i64 2, int i64 1] [] 2 (tup [a3.v, int i64 e3]) [] [] ∧ 11 = 11 ∧ true = true ∧ 11 ≤ 11 ∧ CallSem Try.prog 32 [a3.v, int i64 5, int i64 2, int i64 3] [] 3 (tup [a4.v, int i64 e4]) [] [] ∧ 11 = 11 ∧ true = true ∧ 11 ≤ 11 ∧ CallSem Try.prog 22 [a2.v, int i64 0, int i64 5] [] 4 (tup [a5.v, int i64 e5]) [] [] ∧ 11 = 11 ∧ true = true ∧ 11 ≤ 11 ∧ CallSem Try.prog 32 [a5.v, int i64 4, int i64 2, int i64 1] [] 5 (tup [a6.v, int i64 e6]) [] [] ∧ 11 = 11 ∧ true = true ∧ 11 ≤ 11 ∧ CallSem Try.prog 49 [int i64 20, int i64 2, int i64 3, int i64 2] [] 6 (agg [int i64 20, int i64 2, int i64 3, int i64 2, int i64 (-1), int i64 0]) [] [] ∧ CallSem Try.prog 17 [a5.v, agg [int i64 20, int i64 2, int i64 3, int i64 2, int i64 (-1), int i64 0]] [] 6 (tup [a7.v, int i64 e7]) [] [] ∧ 11 = 11 ∧ true = true ∧ 11 ≤ 11 ∧ CallSem Try.prog 24 [a7.v, int i64 18] [] 7 (tup [a8.v, int i64 e8]) [] [] ∧ 11 = 11 ∧ true = true ∧ 11 ≤ 11 ∧ CallSem Try.prog 24 [a7.v, int i64 10] [] 8 (tup [a9.v, int i64 e9]) [] [] ∧ 11 = 11 ∧ true = true ∧ 11 ≤ 11 ∧ ((e1 == (0 : Int)) = true → ((e2 == (0 : Int)) = true → ((e3 == (0 : Int)) = true → ((e4 == (0 : Int)) = true → ((e5 == (0 : Int)) = true → ((e6 == (13 : Int)) = true → ((e7 == (0 : Int)) = true → ((e8 == (0 : Int)) = true → ((e9 == (13 : Int)) = true → CallSem Try.prog 49 [int i64 4, int i64 6, int i64 3, int i64 0] [] 9 (agg [int i64 4, int i64 6, int i64 3, int i64 0, int i64 (-1), int i64 0]) [] [] ∧ CallSem Try.prog 50 [a2.v, sl 9 (0 : Nat) (1 : Nat) (6 : Nat)] [((9 : Nat), blk [int i64 4, int i64 6, int i64 3, int i64 0, int i64 (-1), int i64 0] (23 : Nat))] 10 (bool b1) [((9 : Nat), emp)] [] ∧ (b1 = true → CallSem Try.prog 49 [int i64 4, int i64 1, int i64 3, int i64 0] [] 10 (agg [int i64 4, int i64 1, int i64 3, int i64 0, int i64 (-1), int i64 0]) [] [] ∧ CallSem Try.prog 49 [int i64 5, int i64 2, int i64 1, int i64 0] [] 10 (agg [int i64 5, int i64 2, int i64 1, int i64 0, int i64 (-1), int i64 0]) [] [] ∧ CallSem Try.prog 49 [int i64 7, int i64 3, int i64 3, int i64 0] [] 10 (agg [int i64 7, int i64 3, int i64 3, int i64 0, int i64 (-1), int i64 0]) [] [] ∧ CallSem Try.prog 50 [a3.v, sl 10 (0 : Nat) (3 : Nat) (6 : Nat)] [((10 : Nat), blk [int i64 4, int i64 1, int i64 3, int i64 0, int i64 (-1), int i64 0, int i64 5, int i64 2, int i64 1, int i64 0, int i64 (-1), int i64 0, int i64 7, int i64 3, int i64 3, int i64 0, int i64 (-1), int i64 0] (23 : Nat))] 11 (bool b2) [((10 : Nat), emp)] [] ∧ (b2 = true → CallSem Try.prog 49 [int i64 4, int i64 6, int i64 3, int i64 0] [] 11 (agg [int i64 4, int i64 6, int i64 3, int i64 0, int i64 (-1), int i64 0]) [] [] ∧ CallSem Try.prog 50 [a4.v, sl 11 (0 : Nat) (1 : Nat) (6 : Nat)] [((11 : Nat), blk [int i64 4, int i64 6, int i64 3, int i64 0, int i64 (-1), int i64 0] (23 : Nat))] 12 (bool b3) [((11 : Nat), emp)] [] ∧ (b3 = true → CallSem Try.prog 49 [int i64 5, int i64 5, int i64 3, int i64 0] [] 12 (agg [int i64 5, int i64 5, int i64 3, int i64 0, int i64 (-1), int i64 0]) [] [] ∧ CallSem Try.prog 49 [int i64 18, int i64 4, int i64 3, int i64 2] [] 12 (agg [int i64 18, int i64 4, int i64 3, int i64 2, int i64 (-1), int i64 0]) [] [] ∧ CallSem Try.prog 50 [a8.v, sl 12 (0 : Nat) (2 : Nat) (6 : Nat)] [((12 : Nat), blk [int i64 5, int i64 5, int i64 3, int i64 0, int i64 (-1), int i64 0, int i64 18, int i64 4, int i64 3, int i64 2, int i64 (-1), int i64 0] (23 : Nat))] 13 (bool b4) [((12 : Nat), emp)] [] ∧ (b4 = true → CallSem Try.prog 20 [a5.v, int i64 6] [] 13 (int i64 pl) [] [] ∧ ((pl == (10 : Int)) = true → CallSem Try.prog 30 [a7.v] [] 13 (int i64 ct) [] [] ∧ (ct == (2 : Int)) = true ∧ True) ∧ ((pl == (10 : Int)) = false → false = true ∧ True)) ∧ (b4 = false → false = true ∧ True)) ∧ (b3 = false → false = true ∧ True)) ∧ (b2 = false → false = true ∧ True)) ∧ (b1 = false → false = true ∧ True)) ∧ ((e9 == (13 : Int)) = false → false = true ∧ True)) ∧ ((e8 == (0 : Int)) = false → false = true ∧ True)) ∧ ((e7 == (0 : Int)) = false → false = true ∧ True)) ∧ ((e6 == (13 : Int)) = false → false = true ∧ True)) ∧ ((e5 == (0 : Int)) = false → false = true ∧ True)) ∧ ((e4 == (0 : Int)) = false → false = true ∧ True)) ∧ ((e3 == (0 : Int)) = false → false = true ∧ True)) ∧ ((e2 == (0 : Int)) = false → false = true ∧ True)) ∧ ((e1 == (0 : Int)) = false → false = true ∧ True)) := by kernel_rfl
theorem awake_ps (a1 a2 a3 a4 a5 a6 a7 a8 a9 : Tr) (e1 e2 e3 e4 e5 e6 e7 e8 e9 pl ct : Int) (b1 b2 b3 b4 : Bool) (h1 : PS Try.prog 17 [zG, (anR 4 4 3 0).v] (.tup [a1.v, .int .i64 e1])) (h2 : PS Try.prog 17 [a1.v, (anR 8 2 3 0).v] (.tup [a2.v, .int .i64 e2])) (h3 : PS Try.prog 32 [a2.v, .int .i64 5, .int .i64 2, .int .i64 1] (.tup [a3.v, .int .i64 e3]))
    (h4 : PS Try.prog 32 [a3.v, .int .i64 5, .int .i64 2, .int .i64 3] (.tup [a4.v, .int .i64 e4])) (h5 : PS Try.prog 22 [a2.v, .int .i64 0, .int .i64 5] (.tup [a5.v, .int .i64 e5])) (h6 : PS Try.prog 32 [a5.v, .int .i64 4, .int .i64 2, .int .i64 1] (.tup [a6.v, .int .i64 e6]))
    (h7 : PS Try.prog 17 [a5.v, (anR 20 2 3 2).v] (.tup [a7.v, .int .i64 e7])) (h8 : PS Try.prog 24 [a7.v, .int .i64 18] (.tup [a8.v, .int .i64 e8])) (h9 : PS Try.prog 24 [a7.v, .int .i64 10] (.tup [a9.v, .int .i64 e9]))
    (hpl : PS Try.prog 20 [a5.v, .int .i64 6] (.int .i64 pl)) (hct : PS Try.prog 30 [a7.v] (.int .i64 ct))
    (hb1 : ∀ base, CallSem Try.prog 50 [a2.v, .sl 9 0 1 6] [(9, .blk (RL [anR 4 6 3 0]) 23)] base (.bool b1) [(9, .emp)] []) (hb2 : ∀ base, CallSem Try.prog 50 [a3.v, .sl 10 0 3 6] [(10, .blk (RL [anR 4 1 3 0, anR 5 2 1 0, anR 7 3 3 0]) 23)] base (.bool b2) [(10, .emp)] [])
    (hb3 : ∀ base, CallSem Try.prog 50 [a4.v, .sl 11 0 1 6] [(11, .blk (RL [anR 4 6 3 0]) 23)] base (.bool b3) [(11, .emp)] []) (hb4 : ∀ base, CallSem Try.prog 50 [a8.v, .sl 12 0 2 6] [(12, .blk (RL [anR 5 5 3 0, anR 18 4 3 2]) 23)] base (.bool b4) [(12, .emp)] [])
    (q1 : (e1 == 0) = true) (q2 : (e2 == 0) = true) (q3 : (e3 == 0) = true) (q4 : (e4 == 0) = true) (q5 : (e5 == 0) = true) (q6 : (e6 == 13) = true) (q7 : (e7 == 0) = true) (q8 : (e8 == 0) = true) (q9 : (e9 == 13) = true) (qb1 : b1 = true) (qb2 : b2 = true) (qb3 : b3 = true) (qb4 : b4 = true) (qp : (pl == 10) = true) (qc : (ct == 2) = true) : PS Try.prog 16 [] (.bool true) := by
  refine .of_vcN mixedA tabA awake_ok (by repeat' (first | exact trivial)) (awake_vc a1 a2 a3 a4 a5 a6 a7 a8 a9 e1 e2 e3 e4 e5 e6 e7 e8 e9 pl ct b1 b2 b3 b4) ?_
  subst qb1 qb2 qb3 qb4; try rw [q1, q2, q3, q4, q5, q6, q7, q8, q9, qp, qc]
  repeat' (first | exact h1 _ | exact h2 _ | exact h3 _ | exact h4 _ | exact h5 _ | exact h6 _ | exact h7 _ | exact h8 _ | exact h9 _ | exact hpl _ | exact hct _ | exact hb1 _ | exact hb2 _ | exact hb3 _ | exact hb4 _ | exact anon_ps 4 4 3 0 _ | exact anon_ps 8 2 3 0 _ | exact anon_ps 20 2 3 2 _ | exact anon_ps 4 6 3 0 _ | exact anon_ps 4 1 3 0 _ | exact anon_ps 5 2 1 0 _ | exact anon_ps 7 3 3 0 _ | exact anon_ps 5 5 3 0 _ | exact anon_ps 18 4 3 2 _ | refine And.intro ?_ ?_ | (intro h_; first | (cases h_; done) | rw [h_] | (simp only [Bool.not_eq_true', Bool.not_eq_false'] at h_; rw [h_]) | skip))
  all_goals (first | exact trivial | with_reducible rfl | exact Nat.le_refl _)
end Go.Proofs.Ytalcipbagidbpaa
end

section
set_option linter.unusedVariables false
namespace Go.Proofs.Ytalcipbagidbpaa
open Go.Proofs
def aw1 : Tr := (rmapF zT (anR 4 4 3 0)).1
def aw2 : Tr := (rmapF aw1 (anR 8 2 3 0)).1
def aw3 : Tr := (rproF aw2 5 2 1).1
def aw4 : Tr := (rproF aw3 5 2 3).1
def aw5 : Tr := (rumF aw2 0 5).1
def aw7 : Tr := (rmapF aw5 (anR 20 2 3 2)).1
def aw8 : Tr := (rgrowF aw7 18).1
theorem aw_sz : zT.sz ≤ 1000000 ∧ aw1.sz ≤ 1000000 ∧ aw2.sz ≤ 1000000 ∧ aw3.sz ≤ 1000000 ∧ aw4.sz ≤ 1000000 ∧ aw5.sz ≤ 1000000 ∧ aw7.sz ≤ 1000000 ∧ aw8.sz ≤ 1000000 := by decide +kernel
theorem aw_codes : ((rmapF zT (anR 4 4 3 0)).2 == 0) = true ∧ ((rmapF aw1 (anR 8 2 3 0)).2 == 0) = true ∧ ((rproF aw2 5 2 1).2 == 0) = true ∧ ((rproF aw3 5 2 3).2 == 0) = true ∧ ((rumF aw2 0 5).2 == 0) = true ∧ ((rproF aw5 4 2 1).2 == 13) = true ∧
    ((rmapF aw5 (anR 20 2 3 2)).2 == 0) = true ∧ ((rgrowF aw7 18).2 == 0) = true ∧ ((rgrowF aw7 10).2 == 13) = true := by decide +kernel
theorem aw_lists : lsameF (rlistF aw2) [anR 4 6 3 0] = true ∧ lsameF (rlistF aw3) [anR 4 1 3 0, anR 5 2 1 0, anR 7 3 3 0] = true ∧ lsameF (rlistF aw4) [anR 4 6 3 0] = true ∧ lsameF (rlistF aw8) [anR 5 5 3 0, anR 18 4 3 2] = true ∧ (rplaceF aw5 6 == 10) = true ∧ ((((rlsF aw7).length : Nat) : Int) == 2) = true := by decide +kernel
theorem n_big {t : Tr} (hs : t.sz ≤ 1000000) : (nodesF t).length ≤ 1073741824 := Nat.le_trans (nodes_n hs) (by decide)
theorem awake_true : PS Try.prog 16 [] (.bool true) := by
  obtain ⟨s0, s1, s2, s3, s4, s5, s7, s8⟩ := aw_sz
  obtain ⟨q1, q2, q3, q4, q5, q6, q7, q8, q9⟩ := aw_codes
  obtain ⟨l1, l2, l3, l4, qp, qc⟩ := aw_lists
  exact awake_ps aw1 aw2 aw3 aw4 aw5 (rproF aw5 4 2 1).1 aw7 aw8 (rgrowF aw7 10).1 _ _ _ _ _ _ _ _ _ _ _ _ _ _ _ (map1 s0 _).zarg (map1 s1 _) (prot1 s2 5 2 1) (prot1 s3 5 2 3) (unmap1 s2 0 5) (prot1 s5 4 2 1) (map1 s5 _) (grow1 s7 18) (grow1 s7 10)
    (place1 s5 6) (count1 s7) (fun base => (is_frz aw2 [anR 4 6 3 0] (n_big s2) base).1) (fun base => (is_frz aw3 [anR 4 1 3 0, anR 5 2 1 0, anR 7 3 3 0] (n_big s3) base).2.1) (fun base => (is_frz aw4 [anR 4 6 3 0] (n_big s4) base).2.2.1) (fun base => (is_frz aw8 [anR 5 5 3 0, anR 18 4 3 2] (n_big s8) base).2.2.2) q1 q2 q3 q4 q5 q6 q7 q8 q9 l1 l2 l3 l4 qp qc
/-! ### What comes out is small -/
theorem kids_zT : kidsF zT := (kidsF_iff zT).2 ⟨by decide, by intro k hk; simp [zT, Tr.kids] at hk⟩
theorem Good.kids {t : Tr} (hg : Good t) : kidsF t := by
  induction hg with
  | leaf => exact kids_zT
  | node x ha hb h1 h2 iha ihb =>
    rw [kidsF_iff, kids_nodeF]
    refine ⟨by simp only [List.length_cons, List.length_nil]; omega, fun k hk => ?_⟩
    simp only [List.mem_cons, List.not_mem_nil, or_false] at hk
    rcases hk with rfl | rfl
    · exact iha
    · exact ihb
def Small (t : Tr) : Prop := t.sz ≤ 12 ∧ kidsF t
theorem small_zT : Small zT := ⟨by rw [sz_zT]; omega, kids_zT⟩
theorem small_rtree {l : List Rg} (hs : l.length ≤ BIG) : Small (rtreeF l).1 := by
  unfold rtreeF
  by_cases h : ((rnrm l).length : Int) > 12
  · rw [dT h]; exact small_zT
  · rw [dF h, cond_false]
    unfold rbuildF
    have hl : (rnrm l).length ≤ BIG := Nat.le_trans (rnrm_len l) hs
    cases listedF (rnrm l) != 0 with
    | true => exact small_zT
    | false =>
      have hb := bld0 hl
      refine ⟨?_, ?_⟩
      · show ((rnrm l).foldl rinsF zT).sz ≤ 12
        rw [hb.eq, hb.sz, sz_zT]; omega
      · show kidsF ((rnrm l).foldl rinsF zT)
        rw [hb.eq]; exact hb.good.kids
theorem cond_fst {b : Bool} {x y : Tr × Int} {P : Tr → Prop} (hx : P x.1) (hy : P y.1) : P (bif b then x else y).1 := by cases b <;> assumption
theorem small_rgF {p : Int} {l : List Rg} (hl : l.length ≤ BIG) : ∀ (xs : List Rg) (i : Nat), Small (rgF p l xs i).1
  | [], _ => small_zT
  | x :: xs, i => by
    rw [rgF]
    exact cond_fst (small_rgF hl xs (i + 1)) (cond_fst small_zT (small_rtree (by rw [List.length_set]; exact hl)))
section
variable {t : Tr} (hs : t.sz ≤ 1000000)
include hs
theorem small_map (r : Rg) : Small (rmapF t r).1 := by
  unfold rmapF
  exact cond_fst small_zT (cond_fst small_zT (cond_fst small_zT (small_rtree (Nat.le_trans (rinL_len (nodes_n hs)) (by decide)))))
theorem small_unmap (p c : Int) : Small (rumF t p c).1 := by
  unfold rumF
  exact cond_fst small_zT (cond_fst small_zT (small_rtree (Nat.le_trans (rumL_len (nodes_n hs)) (by decide))))
theorem small_prot (p c pr : Int) : Small (rproF t p c pr).1 := by
  unfold rproF
  exact cond_fst small_zT (cond_fst small_zT (cond_fst small_zT (cond_fst small_zT (small_rtree (Nat.le_trans (rcgL_len (rlsF_len (nodes_n hs))) (by decide))))))
theorem small_lock (p c : Int) (on : Bool) : Small (rlockF t p c on).1 := by
  unfold rlockF
  exact cond_fst small_zT (cond_fst small_zT (cond_fst small_zT (small_rtree (Nat.le_trans (rcgL_len (rlsF_len (nodes_n hs))) (by decide)))))
theorem small_grow (p : Int) : Small (rgrowF t p).1 := by
  unfold rgrowF
  exact cond_fst small_zT (cond_fst small_zT (cond_fst small_zT (cond_fst small_zT (small_rgF (Nat.le_trans (rlsF_len (nodes_n hs)) (by decide)) _ _))))
end
theorem sameT {a : Tr} (h : Small a) : PS Try.prog 19 [a.v, a.v] (.bool true) := by
  have := sameA_ps a h.2 a
  rwa [smF_refl] at this
end Go.Proofs.Ytalcipbagidbpaa
end

section
set_option linter.unusedVariables false
set_option maxHeartbeats 4000000
namespace Go.Proofs.Ytalcipbagidbpaa
open Go.Proofs
theorem eqq (n : Int) : (n == n) = true := by simp
theorem dcd (l : List Int) : decide (l = l) = true := by simp
theorem bqq (b : Bool) : (b == b) = true := by cases b <;> rfl
theorem few_big {t : Tr} (h : (!fewF t) = false) : t.sz ≤ 1000000 := Nat.le_trans (few_sz (nf h)) (by decide)
theorem maps_ok : FnOK Try.prog 3 Try.f3 (bodyOf Try.f3) := ⟨Try.func3, rfl, rfl⟩
open Go.IntKind GV Ent in
theorem maps_vc (t : Tr) (r : Rg) (n : Int) : vc Try.prog TA none [] [(12, tl (.bool (fewF t))), (14, tl (.bool true)), (18, tl (.tup [(rmapF t r).1.v, .int .i64 (rmapF t r).2])), (24, tl (.tup [(rmapF t r).1.v, .int .i64 (rmapF t r).2])), (33, tl (.bool true)), (38, tl (.int .i64 (rplaceF t n))), (41, tl (.int .i64 (rplaceF t n))), (45, tl (.bool true))] (bodyOf Try.f3) ⟨startT Try.f3 [t.v, r.v, .int .i64 n], []⟩ (Fin TA Try.f3 (.bool true)) = (CallSem Try.prog 15 [t.v] [] 2 (bool (fewF t)) [] [] ∧ ((!fewF t) = true → CallSem Try.prog 16 [] [] 2 (bool true) [] [] ∧ true = true ∧ True) ∧ ((!fewF t) = false → CallSem Try.prog 17 [t.v, r.v] [] 2 (tup [(rmapF t r).fst.v, int i64 (rmapF t r).snd]) [] [] ∧ 11 = 11 ∧ true = true ∧ 11 ≤ 11 ∧ CallSem Try.prog 18 [t.v, r.v] [] 3 (tup [(rmapF t r).fst.v, int i64 (rmapF t r).snd]) [] [] ∧ 11 = 11 ∧ true = true ∧ 11 ≤ 11 ∧ (((rmapF t r).snd == (rmapF t r).snd) = true → CallSem Try.prog 19 [(rmapF t r).fst.v, (rmapF t r).fst.v] [] 4 (bool true) [] [] ∧ (true = true → CallSem Try.prog 20 [t.v, int i64 n] [] 4 (int i64 (rplaceF t n)) [] [] ∧ CallSem Try.prog 21 [t.v, int i64 n] [] 4 (int i64 (rplaceF t n)) [] [] ∧ ((rplaceF t n == rplaceF t n) = true → CallSem Try.prog 16 [] [] 4 (bool true) [] [] ∧ true = true ∧ True) ∧ ((rplaceF t n == rplaceF t n) = false → false = true ∧ True)) ∧ (true = false → false = true ∧ True)) ∧ (((rmapF t r).snd == (rmapF t r).snd) = false → false = true ∧ True))) := by kernel_rfl
theorem maps_ps (t : Tr) (r : Rg) (n : Int) (hk : kidsF t) : PS Try.prog 3 [t.v, r.v, .int .i64 n] (.bool true) := by
  refine .of_vcN mixedA tabA maps_ok (by repeat' (first | exact trivial | exact Rg.pur _ | exact Tr.pur _ | exact Pur.int | refine And.intro ?_ ?_)) (maps_vc t r n) ?_
  simp only [eqq]
  repeat' (first | exact lfew_ps t hk _ | exact awake_true _ | exact map1 (few_big (by assumption)) r _ | exact map2 (few_big (by assumption)) r _ | exact place1 (few_big (by assumption)) n _ | exact place2 (few_big (by assumption)) n _ | exact sameT (small_map (few_big (by assumption)) r) _ | refine And.intro ?_ ?_ | (intro h_; first | (cases h_; done) | rw [h_] | (simp only [Bool.not_eq_true', Bool.not_eq_false'] at h_; rw [h_]) | skip))
  all_goals (first | exact trivial | exact Nat.le_refl _)
theorem unmaps_ok : FnOK Try.prog 4 Try.f4 (bodyOf Try.f4) := ⟨Try.func4, rfl, rfl⟩
open Go.IntKind GV Ent in
theorem unmaps_vc (t : Tr) (p c : Int) : vc Try.prog TA none [] [(12, tl (.bool (fewF t))), (14, tl (.bool true)), (19, tl (.tup [(rumF t p c).1.v, .int .i64 (rumF t p c).2])), (26, tl (.tup [(rumF t p c).1.v, .int .i64 (rumF t p c).2])), (35, tl (.bool true)), (38, tl (.bool true))] (bodyOf Try.f4) ⟨startT Try.f4 [t.v, .int .i64 p, .int .i64 c], []⟩ (Fin TA Try.f4 (.bool true)) = (CallSem Try.prog 15 [t.v] [] 1 (bool (fewF t)) [] [] ∧ ((!fewF t) = true → CallSem Try.prog 16 [] [] 1 (bool true) [] [] ∧ true = true ∧ True) ∧ ((!fewF t) = false → CallSem Try.prog 22 [t.v, int i64 p, int i64 c] [] 1 (tup [(rumF t p c).fst.v, int i64 (rumF t p c).snd]) [] [] ∧ 11 = 11 ∧ true = true ∧ 11 ≤ 11 ∧ CallSem Try.prog 23 [t.v, int i64 p, int i64 c] [] 2 (tup [(rumF t p c).fst.v, int i64 (rumF t p c).snd]) [] [] ∧ 11 = 11 ∧ true = true ∧ 11 ≤ 11 ∧ (((rumF t p c).snd == (rumF t p c).snd) = true → CallSem Try.prog 19 [(rumF t p c).fst.v, (rumF t p c).fst.v] [] 3 (bool true) [] [] ∧ (true = true → CallSem Try.prog 16 [] [] 3 (bool true) [] [] ∧ true = true ∧ True) ∧ (true = false → false = true ∧ True)) ∧ (((rumF t p c).snd == (rumF t p c).snd) = false → false = true ∧ True))) := by kernel_rfl
theorem unmaps_ps (t : Tr) (p c : Int) (hk : kidsF t) : PS Try.prog 4 [t.v, .int .i64 p, .int .i64 c] (.bool true) := by
  refine .of_vcN mixedA tabA unmaps_ok (by repeat' (first | exact trivial | exact Tr.pur _ | exact Pur.int | refine And.intro ?_ ?_)) (unmaps_vc t p c) ?_
  simp only [eqq]
  repeat' (first | exact lfew_ps t hk _ | exact awake_true _ | exact unmap1 (few_big (by assumption)) p c _ | exact unmap2 (few_big (by assumption)) p c _ | exact sameT (small_unmap (few_big (by assumption)) p c) _ | refine And.intro ?_ ?_ | (intro h_; first | (cases h_; done) | rw [h_] | (simp only [Bool.not_eq_true', Bool.not_eq_false'] at h_; rw [h_]) | skip))
  all_goals (first | exact trivial | exact Nat.le_refl _)
theorem grows_ok : FnOK Try.prog 5 Try.f5 (bodyOf Try.f5) := ⟨Try.func5, rfl, rfl⟩
open Go.IntKind GV Ent in
theorem grows_vc (t : Tr) (p : Int) : vc Try.prog TA none [] [(10, tl (.bool (fewF t))), (12, tl (.bool true)), (16, tl (.tup [(rgrowF t p).1.v, .int .i64 (rgrowF t p).2])), (22, tl (.tup [(rgrowF t p).1.v, .int .i64 (rgrowF t p).2])), (31, tl (.bool true)), (34, tl (.bool true))] (bodyOf Try.f5) ⟨startT Try.f5 [t.v, .int .i64 p], []⟩ (Fin TA Try.f5 (.bool true)) = (CallSem Try.prog 15 [t.v] [] 1 (bool (fewF t)) [] [] ∧ ((!fewF t) = true → CallSem Try.prog 16 [] [] 1 (bool true) [] [] ∧ true = true ∧ True) ∧ ((!fewF t) = false → CallSem Try.prog 24 [t.v, int i64 p] [] 1 (tup [(rgrowF t p).fst.v, int i64 (rgrowF t p).snd]) [] [] ∧ 11 = 11 ∧ true = true ∧ 11 ≤ 11 ∧ CallSem Try.prog 25 [t.v, int i64 p] [] 2 (tup [(rgrowF t p).fst.v, int i64 (rgrowF t p).snd]) [] [] ∧ 11 = 11 ∧ true = true ∧ 11 ≤ 11 ∧ (((rgrowF t p).snd == (rgrowF t p).snd) = true → CallSem Try.prog 19 [(rgrowF t p).fst.v, (rgrowF t p).fst.v] [] 3 (bool true) [] [] ∧ (true = true → CallSem Try.prog 16 [] [] 3 (bool true) [] [] ∧ true = true ∧ True) ∧ (true = false → false = true ∧ True)) ∧ (((rgrowF t p).snd == (rgrowF t p).snd) = false → false = true ∧ True))) := by kernel_rfl
theorem grows_ps (t : Tr) (p : Int) (hk : kidsF t) : PS Try.prog 5 [t.v, .int .i64 p] (.bool true) := by
  refine .of_vcN mixedA tabA grows_ok (by repeat' (first | exact trivial | exact Tr.pur _ | exact Pur.int | refine And.intro ?_ ?_)) (grows_vc t p) ?_
  simp only [eqq]
  repeat' (first | exact lfew_ps t hk _ | exact awake_true _ | exact grow1 (few_big (by assumption)) p _ | exact grow2 (few_big (by assumption)) p _ | exact sameT (small_grow (few_big (by assumption)) p) _ | refine And.intro ?_ ?_ | (intro h_; first | (cases h_; done) | rw [h_] | (simp only [Bool.not_eq_true', Bool.not_eq_false'] at h_; rw [h_]) | skip))
  all_goals (first | exact trivial | exact Nat.le_refl _)
theorem checks_ok : FnOK Try.prog 6 Try.f6 (bodyOf Try.f6) := ⟨Try.func6, rfl, rfl⟩
open Go.IntKind GV Ent in
theorem checks_vc (t : Tr) (p : Int) : vc Try.prog TA none [] [(10, tl (.bool (fewF t))), (12, tl (.bool true)), (16, tl (.tup [(rfindF t p).1.v, .bool (rfindF t p).2])), (22, tl (.tup [(rfindF t p).1.v, .bool (rfindF t p).2])), (26, tl (.int .i64 (rcF t))), (28, tl (.int .i64 (rcF t))), (42, tl (.int .i64 (rlsF t).length)), (44, tl (.int .i64 (rlsF t).length)), (48, tl (.bool true))] (bodyOf Try.f6) ⟨startT Try.f6 [t.v, .int .i64 p], []⟩ (Fin TA Try.f6 (.bool true)) = (CallSem Try.prog 15 [t.v] [] 1 (bool (fewF t)) [] [] ∧ ((!fewF t) = true → CallSem Try.prog 16 [] [] 1 (bool true) [] [] ∧ true = true ∧ True) ∧ ((!fewF t) = false → CallSem Try.prog 26 [t.v, int i64 p] [] 1 (tup [(rfindF t p).fst.v, bool (rfindF t p).snd]) [] [] ∧ 6 = 6 ∧ true = true ∧ 6 ≤ 6 ∧ CallSem Try.prog 27 [t.v, int i64 p] [] 2 (tup [(rfindF t p).fst.v, bool (rfindF t p).snd]) [] [] ∧ 6 = 6 ∧ true = true ∧ 6 ≤ 6 ∧ CallSem Try.prog 28 [t.v] [] 3 (int i64 (rcF t)) [] [] ∧ CallSem Try.prog 29 [t.v] [] 3 (int i64 (rcF t)) [] [] ∧ ((rcF t == rcF t) = true → (decide ([(rfindF t p).fst.start, (rfindF t p).fst.pages, (rfindF t p).fst.prot, (rfindF t p).fst.flags, (rfindF t p).fst.file, (rfindF t p).fst.index] = [(rfindF t p).fst.start, (rfindF t p).fst.pages, (rfindF t p).fst.prot, (rfindF t p).fst.flags, (rfindF t p).fst.file, (rfindF t p).fst.index]) = true → (((rfindF t p).snd == (rfindF t p).snd) = true → CallSem Try.prog 30 [t.v] [] 3 (int i64 (↑(rlsF t).length : Int)) [] [] ∧ CallSem Try.prog 31 [t.v] [] 3 (int i64 (↑(rlsF t).length : Int)) [] [] ∧ (((↑(rlsF t).length : Int) == (↑(rlsF t).length : Int)) = true → CallSem Try.prog 16 [] [] 3 (bool true) [] [] ∧ true = true ∧ True) ∧ (((↑(rlsF t).length : Int) == (↑(rlsF t).length : Int)) = false → false = true ∧ True)) ∧ (((rfindF t p).snd == (rfindF t p).snd) = false → false = true ∧ True)) ∧ (decide ([(rfindF t p).fst.start, (rfindF t p).fst.pages, (rfindF t p).fst.prot, (rfindF t p).fst.flags, (rfindF t p).fst.file, (rfindF t p).fst.index] = [(rfindF t p).fst.start, (rfindF t p).fst.pages, (rfindF t p).fst.prot, (rfindF t p).fst.flags, (rfindF t p).fst.file, (rfindF t p).fst.index]) = false → false = true ∧ True)) ∧ ((rcF t == rcF t) = false → false = true ∧ True))) := by kernel_rfl
theorem checks_ps (t : Tr) (p : Int) (hk : kidsF t) : PS Try.prog 6 [t.v, .int .i64 p] (.bool true) := by
  refine .of_vcN mixedA tabA checks_ok (by repeat' (first | exact trivial | exact Tr.pur _ | exact Pur.int | refine And.intro ?_ ?_)) (checks_vc t p) ?_
  simp only [eqq, dcd, bqq]
  repeat' (first | exact lfew_ps t hk _ | exact awake_true _ | exact find1 (few_big (by assumption)) p _ | exact find2 (few_big (by assumption)) p _ | exact check1 (few_big (by assumption)) _ | exact check2 (few_big (by assumption)) _ | exact count1 (few_big (by assumption)) _ | exact count2 (few_big (by assumption)) _ | refine And.intro ?_ ?_ | (intro h_; first | (cases h_; done) | rw [h_] | (simp only [Bool.not_eq_true', Bool.not_eq_false'] at h_; rw [h_]) | skip))
  all_goals (first | exact trivial | exact Nat.le_refl _)
theorem protects_ok : FnOK Try.prog 7 Try.f7 (bodyOf Try.f7) := ⟨Try.func7, rfl, rfl⟩
open Go.IntKind GV Ent in
theorem protects_vc (t : Tr) (p c n : Int) : vc Try.prog TA none [] [(16, tl (.bool (fewF t))), (18, tl (.bool true)), (26, tl (.tup [(rproF t p c n).1.v, .int .i64 (rproF t p c n).2])), (36, tl (.tup [(rproF t p c n).1.v, .int .i64 (rproF t p c n).2])), (47, tl (.tup [(rlockF t p c (n == 1)).1.v, .int .i64 (rlockF t p c (n == 1)).2])), (58, tl (.tup [(rlockF t p c (n == 1)).1.v, .int .i64 (rlockF t p c (n == 1)).2])), (72, tl (.bool true)), (77, tl (.bool true)), (80, tl (.bool true))] (bodyOf Try.f7) ⟨startT Try.f7 [t.v, .agg [.int .i64 p, .int .i64 c], .int .i64 n], []⟩ (Fin TA Try.f7 (.bool true)) = (CallSem Try.prog 15 [t.v] [] 2 (bool (fewF t)) [] [] ∧ ((!fewF t) = true → CallSem Try.prog 16 [] [] 2 (bool true) [] [] ∧ true = true ∧ True) ∧ ((!fewF t) = false → CallSem Try.prog 32 [t.v, int i64 p, int i64 c, int i64 n] [] 2 (tup [(rproF t p c n).fst.v, int i64 (rproF t p c n).snd]) [] [] ∧ 11 = 11 ∧ true = true ∧ 11 ≤ 11 ∧ CallSem Try.prog 33 [t.v, int i64 p, int i64 c, int i64 n] [] 3 (tup [(rproF t p c n).fst.v, int i64 (rproF t p c n).snd]) [] [] ∧ 11 = 11 ∧ true = true ∧ 11 ≤ 11 ∧ CallSem Try.prog 34 [t.v, int i64 p, int i64 c, bool (n == (1 : Int))] [] 4 (tup [(rlockF t p c (n == (1 : Int))).fst.v, int i64 (rlockF t p c (n == (1 : Int))).snd]) [] [] ∧ 11 = 11 ∧ true = true ∧ 11 ≤ 11 ∧ CallSem Try.prog 35 [t.v, int i64 p, int i64 c, bool (n == (1 : Int))] [] 5 (tup [(rlockF t p c (n == (1 : Int))).fst.v, int i64 (rlockF t p c (n == (1 : Int))).snd]) [] [] ∧ 11 = 11 ∧ true = true ∧ 11 ≤ 11 ∧ (((rproF t p c n).snd == (rproF t p c n).snd) = true → (((rlockF t p c (n == (1 : Int))).snd == (rlockF t p c (n == (1 : Int))).snd) = true → CallSem Try.prog 19 [(rproF t p c n).fst.v, (rproF t p c n).fst.v] [] 6 (bool true) [] [] ∧ (true = true → CallSem Try.prog 19 [(rlockF t p c (n == (1 : Int))).fst.v, (rlockF t p c (n == (1 : Int))).fst.v] [] 6 (bool true) [] [] ∧ (true = true → CallSem Try.prog 16 [] [] 6 (bool true) [] [] ∧ true = true ∧ True) ∧ (true = false → false = true ∧ True)) ∧ (true = false → false = true ∧ True)) ∧ (((rlockF t p c (n == (1 : Int))).snd == (rlockF t p c (n == (1 : Int))).snd) = false → false = true ∧ True)) ∧ (((rproF t p c n).snd == (rproF t p c n).snd) = false → false = true ∧ True))) := by kernel_rfl
theorem protects_ps (t : Tr) (p c n : Int) (hk : kidsF t) : PS Try.prog 7 [t.v, .agg [.int .i64 p, .int .i64 c], .int .i64 n] (.bool true) := by
  refine .of_vcN mixedA tabA protects_ok (by repeat' (first | exact trivial | exact Tr.pur _ | exact Pur.agg (PurAll.mem ⟨Pur.int, Pur.int, trivial⟩) | exact Pur.int | refine And.intro ?_ ?_)) (protects_vc t p c n) ?_
  simp only [eqq]
  repeat' (first | exact lfew_ps t hk _ | exact awake_true _ | exact prot1 (few_big (by assumption)) p c n _ | exact prot2 (few_big (by assumption)) p c n _ | exact lock1 (few_big (by assumption)) p c (n == 1) _ | exact lock2 (few_big (by assumption)) p c (n == 1) _ | exact sameT (small_prot (few_big (by assumption)) p c n) _ | exact sameT (small_lock (few_big (by assumption)) p c (n == 1)) _ | refine And.intro ?_ ?_ | (intro h_; first | (cases h_; done) | rw [h_] | (simp only [Bool.not_eq_true', Bool.not_eq_false'] at h_; rw [h_]) | skip))
  all_goals (first | exact trivial | exact Nat.le_refl _)
end Go.Proofs.Ytalcipbagidbpaa
end

section
set_option linter.unusedVariables false
namespace Go.Proofs.Ytalcipbagidbpaa
open Go.Proofs Go.ChangeShapes Go.WideShapes
/-- Everything that there is: nobody writes it. -/
def allE (W : World) : Env := { I := fun k => k < W.heap.size, ok := fun _ => False, bk := fun _ => 0, tot := fun _ => 0 }
theorem cells3 : Try.prog.cellsOf 3 = 1 := by simp [Program.cellsOf, info_of Try.typeInfo3, Try.t3]
theorem cells23 : Try.prog.cellsOf 23 = 6 := by simp [Program.cellsOf, info_of Try.typeInfo23, Try.t23]
theorem cells24 : Try.prog.cellsOf 24 = 1 := by simp [Program.cellsOf, info_of Try.typeInfo24, Try.t24]
theorem cells26 : Try.prog.cellsOf 26 = 11 := by simp [Program.cellsOf, info_of Try.typeInfo26, Try.t26]
section
variable {H : Type} {enc : TypeId × Value → H} {W : World} {base : Nat} {spare : Nat → Bool} {held : Bool}
theorem at_take {cs : List Value} {o : Nat} {v : Value} (h : (cs.drop o).take 1 = [v]) : cs[o]? = some v := by
  have := congrArg (·[0]?) h
  simpa using this
theorem int_at {n o : Nat} {cs : List Value} {x : DataW H × List MemPlace} (h : DataW.trod enc Try.prog W base spare held n 3 ((cs.drop o).take (Try.prog.cellsOf 3)) = some x) : ∃ k : Int, cs[o]? = some (.int .i64 k) := by
  obtain ⟨k, e, _⟩ := DataW.trod_int Try.underlying3 h
  rw [cells3] at e
  exact ⟨k, at_take e⟩
theorem rg_read {n : Nat} {cs : List Value} {x : DataW H × List MemPlace} (h : DataW.trod enc Try.prog W base spare held n 23 cs = some x) : ∃ r : Rg, cs = [.int .i64 r.start, .int .i64 r.pages, .int .i64 r.prot, .int .i64 r.flags, .int .i64 r.file, .int .i64 r.index] := by
  obtain ⟨xs, m, _, _, hl, hx, hf⟩ := DataW.trod_struct Try.underlying23 h
  rw [cells23] at hl
  have hx : xs.length = 6 := hx
  have get : ∀ i, i < 6 → ∃ y, xs[i]? = some y := fun i hi => ⟨_, List.getElem?_eq_getElem (by omega)⟩
  obtain ⟨y0, e0⟩ := get 0 (by omega); obtain ⟨y1, e1⟩ := get 1 (by omega); obtain ⟨y2, e2⟩ := get 2 (by omega)
  obtain ⟨y3, e3⟩ := get 3 (by omega); obtain ⟨y4, e4⟩ := get 4 (by omega); obtain ⟨y5, e5⟩ := get 5 (by omega)
  obtain ⟨k0, h0⟩ := int_at ((hf 0 _ rfl).trans e0)
  obtain ⟨k1, h1⟩ := int_at ((hf 1 _ rfl).trans e1)
  obtain ⟨k2, h2⟩ := int_at ((hf 2 _ rfl).trans e2)
  obtain ⟨k3, h3⟩ := int_at ((hf 3 _ rfl).trans e3)
  obtain ⟨k4, h4⟩ := int_at ((hf 4 _ rfl).trans e4)
  obtain ⟨k5, h5⟩ := int_at ((hf 5 _ rfl).trans e5)
  refine ⟨⟨k0, k1, k2, k3, k4, k5⟩, ?_⟩
  apply List.ext_getElem?
  intro j
  rcases Nat.lt_or_ge j 6 with hj | hj
  · rcases (show j = 0 ∨ j = 1 ∨ j = 2 ∨ j = 3 ∨ j = 4 ∨ j = 5 by omega) with e | e | e | e | e | e <;> subst e <;> assumption
  · rw [List.getElem?_eq_none (by omega), List.getElem?_eq_none (by simpa using hj)]
/-- A pointer that is no special spot. -/
theorem cells_at {b : Nat} {a : Addr} {n : Nat} {cs : List Value} (h : W.cells? b a n = some cs) : cs.length = n ∧ ∀ j, j < n → W.cell? (a.add j) = cs[j]? := by
  unfold World.cells? at h
  split at h
  · refine ⟨by simpa using mapM_some_length h, fun j hj => ?_⟩
    have := mapM_some_get h j j (by simp [hj])
    exact this
  · cases h
theorem cell_spot {a : Addr} {v : Value} (h : W.cell? a = some v) : a.spot = none ∧ a.block < W.heap.size := by
  unfold World.cell? at h
  split at h
  · rename_i c _ _ hb
    split at h
    · cases h
    · rename_i hs
      refine ⟨by simpa using hs, ?_⟩
      exact (Array.getElem?_eq_some_iff.1 hb).1
  · cases h
theorem add_is {a : Addr} (h : a.spot = none) (n : Nat) : a.add n = ⟨a.block, a.off + n, none⟩ := by
  unfold Addr.add
  split
  · rename_i e; subst e
    cases a; simp at h; simp [h]
  · rfl
/-- A tree that is read. -/
def Rd (W : World) (gs : List GV) (cs : List Value) : Prop := gs.length = cs.length ∧ ∀ (j : Nat) (c : GV) (v : Value), gs[j]? = some c → cs[j]? = some v → R W (allE W) c v
theorem Rd.append {gs gs' : List GV} {cs cs' : List Value} (h : Rd W gs cs) (h' : Rd W gs' cs') : Rd W (gs ++ gs') (cs ++ cs') := by
  refine ⟨by simp [h.1, h'.1], fun j c v hc hv => ?_⟩
  rcases Nat.lt_or_ge j gs.length with hj | hj
  · rw [List.getElem?_append_left hj] at hc
    rw [List.getElem?_append_left (h.1 ▸ hj)] at hv
    exact h.2 j c v hc hv
  · rw [List.getElem?_append_right hj] at hc
    rw [List.getElem?_append_right (h.1 ▸ hj), ← h.1] at hv
    exact h'.2 _ c v hc hv
theorem tr_read : ∀ (n : Nat) {cs : List Value} {x : DataW H × List MemPlace}, DataW.trod enc Try.prog W base spare held n 26 cs = some x → ∃ t : Tr, Rd W t.cells cs ∧ kidsF t := by
  intro n
  induction n using Nat.strongRecOn with
  | _ n ih =>
    intro cs x h
    obtain ⟨xs, m, rfl, _, hl, hx, hf⟩ := DataW.trod_struct Try.underlying26 h
    rw [cells26] at hl
    have hx : xs.length = 6 := hx
    have get : ∀ i, i < 6 → ∃ y, xs[i]? = some y := fun i hi => ⟨_, List.getElem?_eq_getElem (by omega)⟩
    obtain ⟨y0, e0⟩ := get 0 (by omega); obtain ⟨y1, e1⟩ := get 1 (by omega); obtain ⟨y2, e2⟩ := get 2 (by omega)
    obtain ⟨y3, e3⟩ := get 3 (by omega); obtain ⟨y4, e4⟩ := get 4 (by omega); obtain ⟨y5, e5⟩ := get 5 (by omega)
    obtain ⟨k0, h0⟩ := int_at ((hf 0 _ rfl).trans e0)
    obtain ⟨k1, h1⟩ := int_at ((hf 1 _ rfl).trans e1)
    obtain ⟨k2, h2⟩ := int_at ((hf 2 _ rfl).trans e2)
    obtain ⟨k3, h3⟩ := int_at ((hf 3 _ rfl).trans e3)
    obtain ⟨r, hr⟩ := rg_read ((hf 4 _ rfl).trans e4)
    have hr : (cs.drop 4).take (Try.prog.cellsOf 23) = [.int .i64 r.start, .int .i64 r.pages, .int .i64 r.prot, .int .i64 r.flags, .int .i64 r.file, .int .i64 r.index] := hr
    rw [cells23] at hr
    have h5 := (hf 5 _ rfl).trans e5
    have h5 : DataW.trod enc Try.prog W base spare held m 24 ((cs.drop 10).take (Try.prog.cellsOf 24)) = some y5 := h5
    rw [cells24] at h5
    -- the kids
    have kids : ∃ (ks : List Tr) (v : Value), (cs.drop 10).take 1 = [v] ∧ R W (allE W) (.im ks.length (KL ks)) v ∧ ks.length ≤ 9223372036854775807 ∧ ∀ k ∈ ks, kidsF k := by
      rcases DataW.trod_slice Try.underlying24 h5 with ⟨hc, _⟩ | ⟨a, len, cap, elems, rest, m', rfl, hc, _, _, hle, hm, hel, hget, _⟩
      · exact ⟨[], _, hc, .im0 none 0, by simp, by simp⟩
      · rw [cells26] at hget
        have each : ∀ i, i < len → ∃ t : Tr, (∃ cs', W.cells? base (a.add (i * 11)) 11 = some cs' ∧ Rd W t.cells cs') ∧ kidsF t := by
          intro i hi
          have h6 := hget i hi
          rw [List.getElem?_eq_getElem (by omega), Option.bind_eq_some_iff] at h6
          obtain ⟨cs', h7, h8⟩ := h6
          obtain ⟨t, h9, h10⟩ := ih m' (by omega) h8
          exact ⟨t, ⟨cs', h7, h9⟩, h10⟩
        have all : ∀ k, k ≤ len → ∃ ks : List Tr, ks.length = k ∧ (∀ i, i < k → ∃ cs', W.cells? base (a.add (i * 11)) 11 = some cs' ∧ Rd W (atT ks i).cells cs') ∧ ∀ t ∈ ks, kidsF t := by
          intro k
          induction k with
          | zero => intro _; exact ⟨[], rfl, fun i hi => by omega, by simp⟩
          | succ k ihk =>
            intro hk
            obtain ⟨ks, l1, l2, l3⟩ := ihk (by omega)
            obtain ⟨t, t1, t2⟩ := each k (by omega)
            refine ⟨ks ++ [t], by simp [l1], fun i hi => ?_, fun u hu => ?_⟩
            · rcases Nat.lt_or_ge i k with h | h
              · have e : atT (ks ++ [t]) i = atT ks i := by simp [atT, List.getD_eq_getElem?_getD, List.getElem?_append_left (show i < ks.length by omega)]
                rw [e]; exact l2 i h
              · have e : atT (ks ++ [t]) i = t := by
                  have : i = ks.length := by omega
                  subst this
                  simp [atT, List.getD_eq_getElem?_getD]
                rw [e, show i = k by omega]; exact t1
            · rcases List.mem_append.1 hu with hu | hu
              · exact l3 u hu
              · rw [List.mem_singleton.1 hu]; exact t2
        obtain ⟨ks, l1, l2, l3⟩ := all len (Nat.le_refl _)
        refine ⟨ks, _, hc, ?_, by unfold maxLen at hm; omega, l3⟩
        rcases Nat.eq_zero_or_pos len with hz | hz
        · have : ks = [] := List.length_eq_zero_iff.1 (by omega)
          subst this; subst hz
          exact .im0 (some a) cap
        · obtain ⟨cs0, q1, q2⟩ := l2 0 hz
          obtain ⟨q3, q4⟩ := cells_at q1
          have q5 : W.cell? a = cs0[0]? := by have := q4 0 (by omega); simpa [Addr.add] using this
          rw [List.getElem?_eq_getElem (by omega)] at q5
          obtain ⟨q6, q7⟩ := cell_spot q5
          have ea : a = ⟨a.block, a.off, none⟩ := by cases a; simp at q6; simp [q6]
          rw [ea, l1]
          -- the cells, one by one
          have cell : ∀ (j : Nat) (c : GV), (KL ks)[j]? = some c → ∃ v, W.cell? ⟨a.block, a.off + j, none⟩ = some v ∧ R W (allE W) c v := by
            intro j c hj
            have hj2 : j < ks.length * 11 := by rw [← KL_length]; exact (List.getElem?_eq_some_iff.1 hj).1
            have hi : j / 11 < len := by omega
            obtain ⟨cs', p1, p2⟩ := l2 (j / 11) hi
            obtain ⟨p3, p4⟩ := cells_at p1
            have p5 := p4 (j % 11) (Nat.mod_lt _ (by decide))
            rw [add_is q6, add_is rfl] at p5
            have e1 : a.off + j / 11 * 11 + j % 11 = a.off + j := by omega
            simp only [e1] at p5
            have e2 : (atT ks (j / 11)).cells[j % 11]? = some c := by
              rw [← KL_at (by omega), List.getElem?_take_of_lt (Nat.mod_lt _ (by decide)), List.getElem?_drop, show j / 11 * 11 + j % 11 = j by omega]
              exact hj
            have e3 : cs'[j % 11]? = some cs'[j % 11] := List.getElem?_eq_getElem (by omega)
            exact ⟨_, p5.trans e3, p2.2 _ _ _ e2 e3⟩
          refine .im a.block a.off cap (fun j => (W.cell? ⟨a.block, a.off + j, none⟩).getD (.int .i64 0)) q7 hle (fun j c hj => ?_) fun j c hj => ?_
          · obtain ⟨v, v1, v2⟩ := cell j c hj
            rw [v1]; rfl
          · obtain ⟨v, v1, v2⟩ := cell j c hj
            rw [v1]; exact v2
    obtain ⟨ks, v, hk1, hk2, hk3, hk4⟩ := kids
    refine ⟨.mk k0 k1 k2 k3 r ks, ?_, (kidsF_iff _).2 ⟨hk3, hk4⟩⟩
    have ecs : cs = [.int .i64 k0, .int .i64 k1, .int .i64 k2, .int .i64 k3, .int .i64 r.start, .int .i64 r.pages, .int .i64 r.prot, .int .i64 r.flags, .int .i64 r.file, .int .i64 r.index, v] := by
      apply List.ext_getElem?
      intro j
      have g4 : ∀ i, i < 6 → cs[4 + i]? = [Value.int .i64 r.start, .int .i64 r.pages, .int .i64 r.prot, .int .i64 r.flags, .int .i64 r.file, .int .i64 r.index][i]? := fun i hi => by
        rw [← hr, List.getElem?_take_of_lt hi, List.getElem?_drop]
      rcases Nat.lt_or_ge j 11 with hj | hj
      · rcases (show j = 0 ∨ j = 1 ∨ j = 2 ∨ j = 3 ∨ j = 4 ∨ j = 5 ∨ j = 6 ∨ j = 7 ∨ j = 8 ∨ j = 9 ∨ j = 10 by omega) with e | e | e | e | e | e | e | e | e | e | e <;> subst e
        · exact h0
        · exact h1
        · exact h2
        · exact h3
        · exact g4 0 (by omega)
        · exact g4 1 (by omega)
        · exact g4 2 (by omega)
        · exact g4 3 (by omega)
        · exact g4 4 (by omega)
        · exact g4 5 (by omega)
        · exact at_take hk1
      · rw [List.getElem?_eq_none (by omega), List.getElem?_eq_none (by simpa using hj)]
    rw [ecs]
    refine ⟨rfl, fun j c u hc hu => ?_⟩
    rcases Nat.lt_or_ge j 11 with hj | hj
    · rcases (show j = 0 ∨ j = 1 ∨ j = 2 ∨ j = 3 ∨ j = 4 ∨ j = 5 ∨ j = 6 ∨ j = 7 ∨ j = 8 ∨ j = 9 ∨ j = 10 by omega) with e | e | e | e | e | e | e | e | e | e | e <;> subst e <;>
        (injection hc with hc; injection hu with hu; subst hc; subst hu; first | exact .int | exact hk2)
    · rw [List.getElem?_eq_none (by simpa using hj)] at hu; cases hu
end
end Go.Proofs.Ytalcipbagidbpaa
end

section
set_option linter.unusedVariables false
namespace Go.Proofs.Ytalcipbagidbpaa
open Go.Proofs Go.ChangeShapes Go.WideShapes Go.ChangeAt Go.RowKit
theorem own : ownKnob Try.prog.godebug = none := by kernel_rfl
theorem laidOut : laidOutB Try.prog = true := by kernel_rfl
/-- A contract that says true, as the rows ask for it. -/
theorem law_calls {f : FuncId} {args : List GV} (h : PS Try.prog f args (.bool true)) {W : World} {vs : Array Value} (hl : args.length = vs.size) (hR : ∀ (j : Nat) (g : GV) (v : Value), args[j]? = some g → vs[j]? = some v → R W (allE W) g v) :
    Calls Try.prog f vs W fun e W' => e = .returned (.bool true) ∧ Below W.heap.size W W' := by
  refine ((h 0).run W (allE W) (fun _ _ => False) vs hl hR ⟨fun p e he => by simp at he, fun p e q e' k he => by simp at he, fun p e k he => by simp at he, fun k hk => hk⟩ (fun p _ h => by simp at h)).mono ?_
  rintro e W' ⟨v, E', Bs', rfl, hv, hp⟩
  rw [hv.bool_inv]
  exact ⟨rfl, hp.os, hp.tape, hp.output, hp.size, fun k hk => hp.keep k hk fun p e he => by simp at he⟩
theorem okw_agg {P : Program} {W : World} {r : Reach} {b : Nat} {t : TypeId} {v : Value} {fs : Array Field} (hu : P.underlying t = some (.struct fs)) (hv : Value.okWide P W r b t v) : ∃ cs, v = .agg cs := by
  unfold Value.okWide at hv
  rw [hu] at hv
  obtain ⟨cs, rfl, _⟩ := hv
  exact ⟨cs, rfl⟩
set_option maxRecDepth 100000 in
theorem tr_val {H : Type} {enc : TypeId × Value → H} {W : World} {base base2 : Nat} {spare : Nat → Bool} {held : Bool} {v : Value} {d : DataW H} {ps : List MemPlace} (hv : Value.okWide Try.prog W .any base 26 v) (h : DataW.Trod enc Try.prog W base2 spare held 26 v d ps) : ∃ t : Tr, R W (allE W) t.v v ∧ kidsF t := by
  obtain ⟨cs, rfl⟩ := okw_agg Try.underlying26 hv
  obtain ⟨fuel, hf⟩ := h
  obtain ⟨t, h1, h2⟩ := tr_read fuel hf
  refine ⟨t, .agg cs (by have := h1.1; simpa [Value.cells] using this) (fun j c u hc hu => h1.2 j c u hc (by simpa [Value.cells] using hu)), h2⟩
set_option maxRecDepth 100000 in
theorem rg_val {H : Type} {enc : TypeId × Value → H} {W : World} {base base2 : Nat} {spare : Nat → Bool} {held : Bool} {v : Value} {d : DataW H} {ps : List MemPlace} (hv : Value.okWide Try.prog W .any base 23 v) (h : DataW.Trod enc Try.prog W base2 spare held 23 v d ps) : ∃ t : Rg, R W (allE W) t.v v := by
  obtain ⟨cs, rfl⟩ := okw_agg Try.underlying23 hv
  obtain ⟨fuel, hf⟩ := h
  obtain ⟨t, h1⟩ := rg_read hf
  have h2 : cs = #[.int .i64 t.start, .int .i64 t.pages, .int .i64 t.prot, .int .i64 t.flags, .int .i64 t.file, .int .i64 t.index] := by cases cs; simpa [Value.cells] using h1
  subst h2
  refine ⟨t, .agg _ rfl fun j c u hc hu => ?_⟩
  rcases Nat.lt_or_ge j 6 with hj | hj
  · rcases (show j = 0 ∨ j = 1 ∨ j = 2 ∨ j = 3 ∨ j = 4 ∨ j = 5 by omega) with e | e | e | e | e | e <;> subst e <;> (injection hc with hc; injection hu with hu; subst hc; subst hu; exact .int)
  · have := (List.getElem?_eq_some_iff.1 hc).1
    simp [Rg.cells] at this; omega
set_option maxRecDepth 100000 in
theorem rng_val {H : Type} {enc : TypeId × Value → H} {W : World} {base base2 : Nat} {spare : Nat → Bool} {held : Bool} {v : Value} {d : DataW H} {ps : List MemPlace} (hv : Value.okWide Try.prog W .any base 42 v) (h : DataW.Trod enc Try.prog W base2 spare held 42 v d ps) : ∃ a b : Int, R W (allE W) (.agg [.int .i64 a, .int .i64 b]) v := by
  obtain ⟨cs, rfl⟩ := okw_agg Try.underlying42 hv
  obtain ⟨fuel, hf⟩ := h
  obtain ⟨xs, m, _, _, hl, hx, hf⟩ := DataW.trod_struct Try.underlying42 hf
  have hl : cs.size = 2 := by have := hl; rw [show Try.prog.cellsOf 42 = 2 by simp [Program.cellsOf, info_of Try.typeInfo42, Try.t42]] at this; simpa [Value.cells] using this
  have hx : xs.length = 2 := hx
  obtain ⟨a, h0⟩ := int_at ((hf 0 _ rfl).trans (List.getElem?_eq_getElem (by omega)))
  obtain ⟨b, h1⟩ := int_at ((hf 1 _ rfl).trans (List.getElem?_eq_getElem (by omega)))
  have h0 : cs[0]? = some (.int .i64 a) := by simpa [Value.cells] using h0
  have h1 : cs[1]? = some (.int .i64 b) := by simpa [Value.cells] using h1
  refine ⟨a, b, .agg _ hl.symm fun j c u hc hu => ?_⟩
  match j with
  | 0 => rw [h0] at hu; injection hc with hc; injection hu with hu; subst hc; subst hu; exact .int
  | 1 => rw [h1] at hu; injection hc with hc; injection hu with hu; subst hc; subst hu; exact .int
  | j + 2 => simp at hc
theorem args2 {W : World} {E : Env} {a b : GV} {v u : Value} (ha : R W E a v) (hb : R W E b u) : ∀ (j : Nat) (g : GV) (w : Value), [a, b][j]? = some g → #[v, u][j]? = some w → R W E g w
  | 0, g, w, h1, h2 => by injection h1 with h1; injection h2 with h2; subst h1 h2; exact ha
  | 1, g, w, h1, h2 => by injection h1 with h1; injection h2 with h2; subst h1 h2; exact hb
  | j + 2, g, w, h1, h2 => by simp at h1
theorem args3 {W : World} {E : Env} {a b c : GV} {v u x : Value} (ha : R W E a v) (hb : R W E b u) (hc : R W E c x) : ∀ (j : Nat) (g : GV) (w : Value), [a, b, c][j]? = some g → #[v, u, x][j]? = some w → R W E g w
  | 0, g, w, h1, h2 => by injection h1 with h1; injection h2 with h2; subst h1 h2; exact ha
  | 1, g, w, h1, h2 => by injection h1 with h1; injection h2 with h2; subst h1 h2; exact hb
  | 2, g, w, h1, h2 => by injection h1 with h1; injection h2 with h2; subst h1 h2; exact hc
  | j + 3, g, w, h1, h2 => by simp at h1
end Go.Proofs.Ytalcipbagidbpaa
end
