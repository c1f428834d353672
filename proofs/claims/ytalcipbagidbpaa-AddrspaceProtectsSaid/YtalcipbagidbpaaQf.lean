/- DERIVED. A part of the proof of a statement of this seat (Gj, Gk, Gl, Pa, Pb, Pc, Pd, Pe, Pf, Pg, Ph, Pi, Ua). No statement of its own; no conditions. -/
import Derived.KernelRfl
import Derived.Test.YtalcipbagidbpaaQe
set_option linter.unusedVariables false
set_option linter.unusedSimpArgs false
set_option linter.unusedSectionVars false
set_option linter.unnecessarySimpa false
section
set_option linter.unusedVariables false
set_option maxHeartbeats 1000000
namespace Go.Proofs.Ytalcipbagidbpaa
open Go.Proofs
theorem rumL_len {n : Nat} {t : Tr} {pg c : Int} (hn : (nodesF t).length ≤ n) : (rumL t pg c).length ≤ n * 2 := by
  have h1 := flatMap_len (f := fun r => rcutL r pg c) (fun r => rcutL_len r pg c) (rlsF t)
  have h2 := rlsF_len hn
  have h3 : (rumL t pg c).length = ((rlsF t).flatMap fun r => rcutL r pg c).length := rfl
  omega
theorem runmap_ok : FnOK Try.prog 23 Try.f23 (bodyOf Try.f23) := ⟨Try.func23, rfl, rfl⟩
open Go.IntKind GV Ent in
theorem runmap_vc (t : Tr) (pg c : Int) : vc Try.prog TA none [] [(16, tl (.int .i64 (rcF t))), (23, tl (.int .i64 (rwiF pg c))), (29, tl (Lv (rlsF t))), (100010, .loop (ru_S (rlsF t) pg c 0 []) (ru_O (rlsF t) pg c 0 [])), (50, cl [1] (.tup [(rtreeF (rumL t pg c)).1.v, .int .i64 (rtreeF (rumL t pg c)).2]) [.emp] [])] (bodyOf Try.f23) ⟨startT Try.f23 [t.v, .int .i64 pg, .int .i64 c], []⟩ (Fin TA Try.f23 (.tup [(rumF t pg c).1.v, .int .i64 (rumF t pg c).2])) = (CallSem Try.prog 29 [t.v] [] 2 (int i64 (rcF t)) [] [] ∧ ((rcF t != (0 : Int)) = true → 11 = 11 ∧ true = true ∧ 11 ≤ 11 ∧ 0 = (rumF t pg c).fst.h ∧ 0 = (rumF t pg c).fst.f ∧ 0 = (rumF t pg c).fst.l ∧ 0 = (rumF t pg c).fst.g ∧ 0 = (rumF t pg c).fst.r.start ∧ 0 = (rumF t pg c).fst.r.pages ∧ 0 = (rumF t pg c).fst.r.prot ∧ 0 = (rumF t pg c).fst.r.flags ∧ 0 = (rumF t pg c).fst.r.file ∧ 0 = (rumF t pg c).fst.r.index ∧ ((rumF t pg c).fst.kids.length = (0 : Nat) ∧ (rumF t pg c).fst.K = []) ∧ rcF t = (rumF t pg c).snd ∧ True) ∧ ((rcF t != (0 : Int)) = false → CallSem Try.prog 65 [int i64 pg, int i64 c] [] 2 (int i64 (rwiF pg c)) [] [] ∧ ((rwiF pg c != (0 : Int)) = true → 11 = 11 ∧ true = true ∧ 11 ≤ 11 ∧ 0 = (rumF t pg c).fst.h ∧ 0 = (rumF t pg c).fst.f ∧ 0 = (rumF t pg c).fst.l ∧ 0 = (rumF t pg c).fst.g ∧ 0 = (rumF t pg c).fst.r.start ∧ 0 = (rumF t pg c).fst.r.pages ∧ 0 = (rumF t pg c).fst.r.prot ∧ 0 = (rumF t pg c).fst.r.flags ∧ 0 = (rumF t pg c).fst.r.file ∧ 0 = (rumF t pg c).fst.r.index ∧ ((rumF t pg c).fst.kids.length = (0 : Nat) ∧ (rumF t pg c).fst.K = []) ∧ rwiF pg c = (rumF t pg c).snd ∧ True) ∧ ((rwiF pg c != (0 : Int)) = false → CallSem Try.prog 59 [t.v] [] 2 (im (rlsF t).length (RL (rlsF t))) [] [] ∧ pg = pg ∧ c = c ∧ 0 = 0 ∧ (rlsF t).length = (rlsF t).length ∧ RL (rlsF t) = RL (rlsF t) ∧ PurL (RL (rlsF t)) ∧ 0 = 0 ∧ (0 : Int) = (0 : Int) ∧ (0 : Int) = (0 : Int) ∧ (0 : Int) = (0 : Int) ∧ (0 : Int) = (0 : Int) ∧ (0 : Int) = (0 : Int) ∧ (0 : Int) = (0 : Int) ∧ (0 : Int) = (0 : Int) ∧ (0 : Int) = (0 : Int) ∧ (0 : Int) = (0 : Int) ∧ (0 : Int) = (0 : Int) ∧ (0 : Int) = (0 : Int) ∧ (0 = 0 ∧ ([] : List GV) = []) ∧ ([] : List GV) = [] ∧ GW Try.prog none [] (loopOf (10 : Nat) Try.f23).loop (ru_S (rlsF t) pg c (0 : Nat) []) (OneOf (ru_O (rlsF t) pg c (0 : Nat) [])) ∧ (True → CallSem Try.prog 61 [ol 1 ([] ++ List.flatMap (fun r => rcutL r pg c) (List.drop 0 (rlsF t))).length (6 : Nat)] [((1 : Nat), ob (RL ([] ++ List.flatMap (fun r => rcutL r pg c) (List.drop 0 (rlsF t)))) (23 : Nat))] 2 (tup [(rtreeF (rumL t pg c)).fst.v, int i64 (rtreeF (rumL t pg c)).snd]) [((1 : Nat), emp)] [] ∧ 11 = 11 ∧ true = true ∧ 11 ≤ 11 ∧ (rtreeF (rumL t pg c)).fst.h = (rumF t pg c).fst.h ∧ (rtreeF (rumL t pg c)).fst.f = (rumF t pg c).fst.f ∧ (rtreeF (rumL t pg c)).fst.l = (rumF t pg c).fst.l ∧ (rtreeF (rumL t pg c)).fst.g = (rumF t pg c).fst.g ∧ (rtreeF (rumL t pg c)).fst.r.start = (rumF t pg c).fst.r.start ∧ (rtreeF (rumL t pg c)).fst.r.pages = (rumF t pg c).fst.r.pages ∧ (rtreeF (rumL t pg c)).fst.r.prot = (rumF t pg c).fst.r.prot ∧ (rtreeF (rumL t pg c)).fst.r.flags = (rumF t pg c).fst.r.flags ∧ (rtreeF (rumL t pg c)).fst.r.file = (rumF t pg c).fst.r.file ∧ (rtreeF (rumL t pg c)).fst.r.index = (rumF t pg c).fst.r.index ∧ (rtreeF (rumL t pg c)).fst.kids.length = (rumF t pg c).fst.kids.length ∧ (rtreeF (rumL t pg c)).fst.K = (rumF t pg c).fst.K ∧ PurL (rtreeF (rumL t pg c)).fst.K ∧ (rtreeF (rumL t pg c)).snd = (rumF t pg c).snd ∧ True) ∧ True))) := by kernel_rfl
theorem runmap_ps (t : Tr) (pg c : Int) (hn : (nodesF t).length ≤ 300000000) (hok : RBOK (rnrm (rumL t pg c)) zT) : PS Try.prog 23 [t.v, .int .i64 pg, .int .i64 c] (.tup [(rumF t pg c).1.v, .int .i64 (rumF t pg c).2]) := by
  have hl := rlsF_len hn
  have hl2 := rumL_len (pg := pg) (c := c) hn
  refine .of_vcN mixedA tabA runmap_ok (by repeat' (first | exact trivial | exact Tr.pur _ | exact Pur.int | refine And.intro ?_ ?_)) (runmap_vc t pg c) ?_
  try simp only [rumF, List.drop_zero, zT, List.nil_append]
  repeat' (first | exact rc_ps t (Nat.le_trans hn (by decide)) _ | exact rwi_ps pg c _ | exact rls_ps t (Nat.le_trans hn (by decide)) _ | exact (ru_loop (rlsF t) pg c (Nat.le_trans hl (by decide)) 0 [] ⟨Nat.zero_le _, Nat.le_refl _⟩) | exact rtree_fro (rumL t pg c) (Nat.le_trans hl2 (by decide)) hok _ | exact Tr.purK _ | exact RL_pur _ | refine And.intro ?_ ?_ | (intro h_; first | (cases h_; done) | rw [h_] | (simp only [Bool.not_eq_true', Bool.not_eq_false'] at h_; rw [h_]) | skip))
  all_goals (first | exact trivial | exact Nat.le_refl _ | (simp only [bsm]; done) | (simp only [bsm]; exact rfl))
def pcR (r : Rg) (p : Int) : Rg := bif decide (p > r.start) then rspl2 r p else r
def pcL (r : Rg) (p c : Int) : List Rg := (bif decide (p > r.start) then [rspl1 r p] else []) ++ (bif decide (w64 (p + c) < w64 ((pcR r p).start + (pcR r p).pages)) then [rspl1 (pcR r p) (w64 (p + c)), rspl2 (pcR r p) (w64 (p + c))] else [pcR r p])
def pcN (r : Rg) (p : Int) : Nat := bif decide (p > r.start) then 1 else 0
theorem pc_ok : FnOK Try.prog 118 Try.f118 (bodyOf Try.f118) := ⟨Try.func118, rfl, rfl⟩
open Go.IntKind GV Ent in
theorem pc_vc (r : Rg) (p c : Int) (bf : Nat → Nat × Nat) : vc Try.prog TA none [] [(23, tl (.tup [(rspl1 r p).v, (rspl2 r p).v, .int .i64 (rsplE r p)])), (46, tl (.tup [(rspl1 (pcR r p) (w64 (p + c))).v, (rspl2 (pcR r p) (w64 (p + c))).v, .int .i64 (rsplE (pcR r p) (w64 (p + c)))]))] (bodyOf Try.f118) ⟨startT Try.f118 [r.v, .int .i64 p, .int .i64 c], []⟩ (FinO TA Try.f118 [] bf (.tup [.sl 0 0 (pcL r p c).length 6, .int .i64 (pcN r p)]) [.blk (RL (pcL r p c)) 23]) = ((decide (p > r.start) = true → CallSem Try.prog 106 [r.v, int i64 p] [] 1 (tup [(rspl1 r p).v, (rspl2 r p).v, int i64 (rsplE r p)]) [] [] ∧ 6 = 6 ∧ true = true ∧ 6 ≤ 6 ∧ 6 = 6 ∧ true = true ∧ 6 ≤ 6 ∧ 6 ≤ 6 ∧ 1 ≤ 1073741824 ∧ true = true ∧ ((0 : Nat) < (6 : Nat) ∧ 48 ≤ 65536) ∧ 6 = 6 ∧ true = true ∧ 6 ≤ 6 ∧ (decide (i64.wrap (p + c) < i64.wrap ((rspl2 r p).start + (rspl2 r p).pages)) = true → CallSem Try.prog 106 [(rspl2 r p).v, int i64 (i64.wrap (p + c))] [] 5 (tup [(rspl1 (pcR r p) (w64 (p + c))).v, (rspl2 (pcR r p) (w64 (p + c))).v, int i64 (rsplE (pcR r p) (w64 (p + c)))]) [] [] ∧ 6 = 6 ∧ true = true ∧ 6 ≤ 6 ∧ 6 = 6 ∧ true = true ∧ 6 ≤ 6 ∧ 12 ≤ 12 ∧ 23 = 23 ∧ 6 ≤ 6 ∧ 3 ≤ 1073741824 ∧ true = true ∧ true = true ∧ ((0 : Nat) < (6 : Nat) ∧ 48 ≤ 65536) ∧ (0 = 0 ∧ (3 : Nat) = (pcL r p c).length ∧ 6 = 6) ∧ 1 = (↑(pcN r p) : Int) ∧ [int i64 (rspl1 r p).start, int i64 (rspl1 r p).pages, int i64 (rspl1 r p).prot, int i64 (rspl1 r p).flags, int i64 (rspl1 r p).file, int i64 (rspl1 r p).index, int i64 (rspl1 (pcR r p) (w64 (p + c))).start, int i64 (rspl1 (pcR r p) (w64 (p + c))).pages, int i64 (rspl1 (pcR r p) (w64 (p + c))).prot, int i64 (rspl1 (pcR r p) (w64 (p + c))).flags, int i64 (rspl1 (pcR r p) (w64 (p + c))).file, int i64 (rspl1 (pcR r p) (w64 (p + c))).index, int i64 (rspl2 (pcR r p) (w64 (p + c))).start, int i64 (rspl2 (pcR r p) (w64 (p + c))).pages, int i64 (rspl2 (pcR r p) (w64 (p + c))).prot, int i64 (rspl2 (pcR r p) (w64 (p + c))).flags, int i64 (rspl2 (pcR r p) (w64 (p + c))).file, int i64 (rspl2 (pcR r p) (w64 (p + c))).index] = RL (pcL r p c) ∧ PurL (RL (pcL r p c)) ∧ True) ∧ (decide (i64.wrap (p + c) < i64.wrap ((rspl2 r p).start + (rspl2 r p).pages)) = false → 6 ≤ 6 ∧ 23 = 23 ∧ 6 ≤ 6 ∧ 2 ≤ 1073741824 ∧ true = true ∧ true = true ∧ ((0 : Nat) < (6 : Nat) ∧ 48 ≤ 65536) ∧ (0 = 0 ∧ (2 : Nat) = (pcL r p c).length ∧ 6 = 6) ∧ 1 = (↑(pcN r p) : Int) ∧ [int i64 (rspl1 r p).start, int i64 (rspl1 r p).pages, int i64 (rspl1 r p).prot, int i64 (rspl1 r p).flags, int i64 (rspl1 r p).file, int i64 (rspl1 r p).index, int i64 (rspl2 r p).start, int i64 (rspl2 r p).pages, int i64 (rspl2 r p).prot, int i64 (rspl2 r p).flags, int i64 (rspl2 r p).file, int i64 (rspl2 r p).index] = RL (pcL r p c) ∧ PurL (RL (pcL r p c)) ∧ True)) ∧ (decide (p > r.start) = false → (decide (i64.wrap (p + c) < i64.wrap (r.start + r.pages)) = true → CallSem Try.prog 106 [r.v, int i64 (i64.wrap (p + c))] [] 1 (tup [(rspl1 (pcR r p) (w64 (p + c))).v, (rspl2 (pcR r p) (w64 (p + c))).v, int i64 (rsplE (pcR r p) (w64 (p + c)))]) [] [] ∧ 6 = 6 ∧ true = true ∧ 6 ≤ 6 ∧ 6 = 6 ∧ true = true ∧ 6 ≤ 6 ∧ 12 ≤ 12 ∧ 2 ≤ 1073741824 ∧ true = true ∧ ((0 : Nat) < (6 : Nat) ∧ 48 ≤ 65536) ∧ (0 = 0 ∧ (2 : Nat) = (pcL r p c).length ∧ 6 = 6) ∧ 0 = (↑(pcN r p) : Int) ∧ [int i64 (rspl1 (pcR r p) (w64 (p + c))).start, int i64 (rspl1 (pcR r p) (w64 (p + c))).pages, int i64 (rspl1 (pcR r p) (w64 (p + c))).prot, int i64 (rspl1 (pcR r p) (w64 (p + c))).flags, int i64 (rspl1 (pcR r p) (w64 (p + c))).file, int i64 (rspl1 (pcR r p) (w64 (p + c))).index, int i64 (rspl2 (pcR r p) (w64 (p + c))).start, int i64 (rspl2 (pcR r p) (w64 (p + c))).pages, int i64 (rspl2 (pcR r p) (w64 (p + c))).prot, int i64 (rspl2 (pcR r p) (w64 (p + c))).flags, int i64 (rspl2 (pcR r p) (w64 (p + c))).file, int i64 (rspl2 (pcR r p) (w64 (p + c))).index] = RL (pcL r p c) ∧ PurL (RL (pcL r p c)) ∧ True) ∧ (decide (i64.wrap (p + c) < i64.wrap (r.start + r.pages)) = false → 6 ≤ 6 ∧ 1 ≤ 1073741824 ∧ true = true ∧ ((0 : Nat) < (6 : Nat) ∧ 48 ≤ 65536) ∧ (0 = 0 ∧ (1 : Nat) = (pcL r p c).length ∧ 6 = 6) ∧ 0 = (↑(pcN r p) : Int) ∧ [int i64 r.start, int i64 r.pages, int i64 r.prot, int i64 r.flags, int i64 r.file, int i64 r.index] = RL (pcL r p c) ∧ PurL (RL (pcL r p c)) ∧ True))) := by kernel_rfl
theorem pc_side (r : Rg) (p c : Int) (base : Nat) (bf : Nat → Nat × Nat) : sideP [] base [] bf [r.v, .int .i64 p, .int .i64 c] [r.v, .int .i64 p, .int .i64 c] [] [] (.tup [.sl 0 0 (pcL r p c).length 6, .int .i64 (pcN r p)]) (.tup [.sl base 0 (pcL r p c).length 6, .int .i64 (pcN r p)]) [.blk (RL (pcL r p c)) 23] ([] ++ [.blk (RL (pcL r p c)) 23]) = (r.start = r.start ∧ r.pages = r.pages ∧ r.prot = r.prot ∧ r.flags = r.flags ∧ r.file = r.file ∧ r.index = r.index ∧ p = p ∧ c = c ∧ true = true ∧ base = base ∧ 0 = 0 ∧ (pcL r p c).length = (pcL r p c).length ∧ 6 = 6 ∧ (↑(pcN r p) : Int) = (↑(pcN r p) : Int) ∧ 23 = 23 ∧ RL (pcL r p c) = RL (pcL r p c) ∧ PurL (RL (pcL r p c)) ∧ true = true ∧ true = true) := by kernel_rfl
theorem pc_cs (r : Rg) (p c : Int)  (base : Nat)   : CallSem Try.prog 118 [r.v, .int .i64 p, .int .i64 c] [] base (.tup [.sl base 0 (pcL r p c).length 6, .int .i64 (pcN r p)]) [] [.blk (RL (pcL r p c)) 23] := by
  have hnd : nodupB [] = true := by simp [nodupB]
  have hlt : ∀ p ∈ ([] : List Nat), p < base := by intro p hp; simp at hp
  refine CallSem.of_vcS (fps := []) (upds := []) mixedA tabA pc_ok [] rfl rfl hnd hlt [] (fun bf => [r.v, .int .i64 p, .int .i64 c]) (fun bf => []) (.tup [.sl 0 0 (pcL r p c).length 6, .int .i64 (pcN r p)]) [.blk (RL (pcL r p c)) 23] (pc_side r p c  base) (fun bf => ?_) (pc_vc r p c) (fun bf => ?_)
  · repeat' (first | exact RL_pur _ | with_reducible rfl | refine And.intro ?_ ?_)
    all_goals first | rfl | assumption | exact Nat.le_of_ble_eq_true (Eq.refl true) | (refine PurAll.mem ?_; repeat' (first | skip)) | (simp [RL_length, RL_takeL, RL_append, RL]; done)
  · cases hd : decide (p > r.start) <;> simp only [pcL, pcR, pcN, w64, hd, cond_true, cond_false]
    repeat' (first | exact rspl_ps r p _ | exact rspl_ps (rspl2 r p) (w64 (p + c)) _ | exact rspl_ps r (w64 (p + c)) _ | exact RL_pur _ | refine And.intro ?_ ?_ | (intro h_; first | (cases h_; done) | rw [h_] | (simp only [Bool.not_eq_true', Bool.not_eq_false'] at h_; rw [h_]) | skip))
    all_goals (first | exact trivial | exact Nat.le_refl _ | (simp only [bsm]; exact rfl) | exact Nat.le_of_ble_eq_true (Eq.refl true) | (simp [RL_length, RL_takeL, RL_append, RL, bsm]; done))
    all_goals first | done | (simp only [*, cond_true, cond_false]; rfl) | skip
end Go.Proofs.Ytalcipbagidbpaa
end

section
set_option linter.unusedVariables false
set_option maxHeartbeats 1000000
namespace Go.Proofs.Ytalcipbagidbpaa
open Go.Proofs
def md (pr : Int) (on : Bool) (r : Rg) : Rg := bif decide (pr > 0) then { r with prot := pr } else bif on then { r with flags := w64 (r.flags + 4) } else { r with flags := w64 (r.flags - 4) }
def rmd (pr : Int) (on : Bool) (r : Rg) (pg c : Int) : List Rg := (pcL r pg c).set (pcN r pg) (md pr on (atR (pcL r pg c) (pcN r pg)))
def rskA (pr : Int) (on : Bool) (pg c : Int) (r : Rg) : Bool := decide (w64 (r.start + r.pages) ≤ pg) || (decide (w64 (pg + c) ≤ r.start) || ((decide (pr > 0) && (r.prot == pr)) || ((pr == 0) && (((w64 (r.flags.tdiv 4)).tmod 2 == 1) == on))))
def rcgE (pr : Int) (on : Bool) (pg c : Int) (r : Rg) : List Rg := bif rskA pr on pg c r then [r] else rmd pr on r pg c
theorem rcg_skip {pr : Int} {on : Bool} {pg c : Int} {r : Rg} (h : rskA pr on pg c r = true) : rcgE pr on pg c r = [r] := by rw [rcgE, h]; rfl
theorem rcg_div {pr : Int} {on : Bool} {pg c : Int} {r : Rg} (h : rskA pr on pg c r = false) : rcgE pr on pg c r = rmd pr on r pg c := by rw [rcgE, h]; rfl
theorem pcN_lt (r : Rg) (p c : Int) : pcN r p < (pcL r p c).length := by
  unfold pcN pcL
  cases decide (p > r.start) <;> cases decide (w64 (p + c) < w64 ((pcR r p).start + (pcR r p).pages)) <;> simp
theorem pcL_len (r : Rg) (p c : Int) : (pcL r p c).length ≤ 3 := by
  unfold pcL
  cases decide (p > r.start) <;> cases decide (w64 (p + c) < w64 ((pcR r p).start + (pcR r p).pages)) <;> simp
theorem rmd_len (pr : Int) (on : Bool) (r : Rg) (pg c : Int) : (rmd pr on r pg c).length = (pcL r pg c).length := by simp [rmd]
theorem rcgE_len (pr : Int) (on : Bool) (pg c : Int) (r : Rg) : (rcgE pr on pg c r).length ≤ 3 := by
  unfold rcgE
  have := pcL_len r pg c
  cases rskA pr on pg c r <;> simp [rmd_len, this]
theorem splice1 {l : List Rg} {k : Nat} (h : k < l.length) (j : Nat) (hj : j < 6) (v : GV) : splice (RL l) (k * 6 + j) [v] = RL (l.take k) ++ (splice (atR l k).cells j [v] ++ RL (l.drop (k + 1))) := by
  have hk : k * 6 = (RL (l.take k)).length := by rw [RL_length, List.length_take]; omega
  rw [RL_split h, hk, splice_mid _ _ _ _ _ (by simp only [Rg.cells, List.length_cons, List.length_nil]; omega)]
theorem spl_prot {l : List Rg} {k : Nat} (h : k < l.length) (v : Int) : splice (RL l) (k * 6 + 2) [.int .i64 v] = RL (l.set k { atR l k with prot := v }) := by
  rw [splice1 h 2 (by decide), RL_set2 h]; rfl
theorem spl_flags {l : List Rg} {k : Nat} (h : k < l.length) (v : Int) : splice (RL l) (k * 6 + 3) [.int .i64 v] = RL (l.set k { atR l k with flags := v }) := by
  rw [splice1 h 3 (by decide), RL_set2 h]; rfl
def rg3_S (l : List Rg) (pr : Int) (on : Bool) (pg c : Int) (i : Nat) (out : List Rg) : St := ⟨tmL 108 [(0, Lv l), (2, .int .i64 pr), (3, .bool on), (5, .ptr 0 0), (9, .ol 1 out.length 6), (10, .int .i64 i)], [.blk [.int .i64 pg, .int .i64 c] 42, .ob (RL out) 23]⟩
def rg3_O (l : List Rg) (pr : Int) (on : Bool) (pg c : Int) (i : Nat) (out : List Rg) : List (Prop × Exit × St) := [(True, .exit 0, ⟨tmL 108 [(9, .ol 0 (out ++ (l.drop i).flatMap (rcgE pr on pg c)).length 6)], [.ob (RL (out ++ (l.drop i).flatMap (rcgE pr on pg c))) 23]⟩)]
open Go.IntKind GV Ent in
theorem rg3_rd (l : List Rg) (pr : Int) (on : Bool) (pg c : Int) (i : Nat) (out : List Rg) (X : Prop) : vc Try.prog TA none [] [(24, tl (atR l i).v), (77, cl [] (.tup [.sl 3 0 (pcL (atR l i) pg c).length 6, .int .i64 (pcN (atR l i) pg)]) [] [.blk (RL (pcL (atR l i) pg c)) 23]), (92, tl (.int .i64 (atR (pcL (atR l i) pg c) (pcN (atR l i) pg)).flags)), (100, tl (.int .i64 (atR (pcL (atR l i) pg c) (pcN (atR l i) pg)).flags)), (500015, .view fun _ => ⟨tmL 108 [(0, Lv l), (2, .int .i64 pr), (3, .bool on), (5, .ptr 0 0), (9, .ol 1 out.length 6), (10, .int .i64 i), (13, .sl 2 0 (pcL (atR l i) pg c).length 6)], [.blk [.int .i64 pg, .int .i64 c] 42, .ob (RL out) 23, .blk (RL (rmd pr on (atR l i) pg c)) 23]⟩)] (loopOf 3 Try.f78) (rg3_S l pr on pg c i out) (LoopK (rg3_S l pr on pg c (i + 1) (out ++ rcgE pr on pg c (atR l i))) X (rg3_O l pr on pg c i out)) = ((decide ((↑i : Int) < (↑l.length : Int)) = true → ((0 : Int) ≤ (↑i : Int) ∧ (↑i : Int) < (↑l.length : Int)) ∧ (RL l).length = l.length * 6 ∧ 6 = 6 ∧ List.take 6 (List.drop 0 (List.drop ((↑i : Int).toNat * 6) (RL l))) = [int i64 (atR l i).start, int i64 (atR l i).pages, int i64 (atR l i).prot, int i64 (atR l i).flags, int i64 (atR l i).file, int i64 (atR l i).index] ∧ 6 = 6 ∧ true = true ∧ 6 ≤ 6 ∧ (4 : Int) ≠ (0 : Int) ∧ (2 : Int) ≠ (0 : Int) ∧ (decide (i64.wrap ((atR l i).start + (atR l i).pages) ≤ pg) = true → 6 ≤ 6 ∧ 23 = 23 ∧ (RL out).length = out.length * 6 ∧ out.length + 1 ≤ 1073741824 ∧ true = true ∧ true = true ∧ ((0 : Nat) < (6 : Nat) ∧ 48 ≤ 65536) ∧ l.length = l.length ∧ RL l = RL l ∧ PurL (RL l) ∧ pr = pr ∧ on = on ∧ 0 = 0 ∧ (out.length + 1 = (out ++ rcgE pr on pg c (atR l i)).length ∧ 6 = 6) ∧ i64.wrap ((↑i : Int) + (1 : Int)) = (↑(i + (1 : Nat)) : Int) ∧ pg = pg ∧ c = c ∧ List.take (out.length * 6) (RL out) ++ [int i64 (atR l i).start, int i64 (atR l i).pages, int i64 (atR l i).prot, int i64 (atR l i).flags, int i64 (atR l i).file, int i64 (atR l i).index] = RL (out ++ rcgE pr on pg c (atR l i)) ∧ PurL (RL (out ++ rcgE pr on pg c (atR l i))) ∧ X) ∧ (decide (i64.wrap ((atR l i).start + (atR l i).pages) ≤ pg) = false → (decide (i64.wrap (pg + c) ≤ (atR l i).start) = true → 6 ≤ 6 ∧ 23 = 23 ∧ (RL out).length = out.length * 6 ∧ out.length + 1 ≤ 1073741824 ∧ true = true ∧ true = true ∧ ((0 : Nat) < (6 : Nat) ∧ 48 ≤ 65536) ∧ l.length = l.length ∧ RL l = RL l ∧ PurL (RL l) ∧ pr = pr ∧ on = on ∧ 0 = 0 ∧ (out.length + 1 = (out ++ rcgE pr on pg c (atR l i)).length ∧ 6 = 6) ∧ i64.wrap ((↑i : Int) + (1 : Int)) = (↑(i + (1 : Nat)) : Int) ∧ pg = pg ∧ c = c ∧ List.take (out.length * 6) (RL out) ++ [int i64 (atR l i).start, int i64 (atR l i).pages, int i64 (atR l i).prot, int i64 (atR l i).flags, int i64 (atR l i).file, int i64 (atR l i).index] = RL (out ++ rcgE pr on pg c (atR l i)) ∧ PurL (RL (out ++ rcgE pr on pg c (atR l i))) ∧ X) ∧ (decide (i64.wrap (pg + c) ≤ (atR l i).start) = false → (decide (pr > (0 : Int)) = true → (((atR l i).prot == pr) = true → 6 ≤ 6 ∧ 23 = 23 ∧ (RL out).length = out.length * 6 ∧ out.length + 1 ≤ 1073741824 ∧ true = true ∧ true = true ∧ ((0 : Nat) < (6 : Nat) ∧ 48 ≤ 65536) ∧ l.length = l.length ∧ RL l = RL l ∧ PurL (RL l) ∧ pr = pr ∧ on = on ∧ 0 = 0 ∧ (out.length + 1 = (out ++ rcgE pr on pg c (atR l i)).length ∧ 6 = 6) ∧ i64.wrap ((↑i : Int) + (1 : Int)) = (↑(i + (1 : Nat)) : Int) ∧ pg = pg ∧ c = c ∧ List.take (out.length * 6) (RL out) ++ [int i64 (atR l i).start, int i64 (atR l i).pages, int i64 (atR l i).prot, int i64 (atR l i).flags, int i64 (atR l i).file, int i64 (atR l i).index] = RL (out ++ rcgE pr on pg c (atR l i)) ∧ PurL (RL (out ++ rcgE pr on pg c (atR l i))) ∧ X) ∧ (((atR l i).prot == pr) = false → ((pr == (0 : Int)) = true → ((((i64.wrap ((atR l i).flags.tdiv (4 : Int))).tmod (2 : Int) == (1 : Int)) == on) = true → 6 ≤ 6 ∧ 23 = 23 ∧ (RL out).length = out.length * 6 ∧ out.length + 1 ≤ 1073741824 ∧ true = true ∧ true = true ∧ ((0 : Nat) < (6 : Nat) ∧ 48 ≤ 65536) ∧ l.length = l.length ∧ RL l = RL l ∧ PurL (RL l) ∧ pr = pr ∧ on = on ∧ 0 = 0 ∧ (out.length + 1 = (out ++ rcgE pr on pg c (atR l i)).length ∧ 6 = 6) ∧ i64.wrap ((↑i : Int) + (1 : Int)) = (↑(i + (1 : Nat)) : Int) ∧ pg = pg ∧ c = c ∧ List.take (out.length * 6) (RL out) ++ [int i64 (atR l i).start, int i64 (atR l i).pages, int i64 (atR l i).prot, int i64 (atR l i).flags, int i64 (atR l i).file, int i64 (atR l i).index] = RL (out ++ rcgE pr on pg c (atR l i)) ∧ PurL (RL (out ++ rcgE pr on pg c (atR l i))) ∧ X) ∧ ((((i64.wrap ((atR l i).flags.tdiv (4 : Int))).tmod (2 : Int) == (1 : Int)) == on) = false → CallSem Try.prog 118 [(atR l i).v, int i64 pg, int i64 c] [] 3 (tup [sl 3 (0 : Nat) (pcL (atR l i) pg c).length (6 : Nat), int i64 (↑(pcN (atR l i) pg) : Int)]) [] [blk (RL (pcL (atR l i) pg c)) (23 : Nat)] ∧ (decide (pr > (0 : Int)) = true → ((0 : Int) ≤ (↑(pcN (atR l i) pg) : Int) ∧ (↑(pcN (atR l i) pg) : Int) < (↑(pcL (atR l i) pg c).length : Int)) ∧ 1 = 1 ∧ true = true ∧ 0 + (↑(pcN (atR l i) pg) : Int).toNat * 6 + (2 : Nat) + 1 ≤ (RL (pcL (atR l i) pg c)).length ∧ l.length = l.length ∧ RL l = RL l ∧ PurL (RL l) ∧ pr = pr ∧ on = on ∧ 0 = 0 ∧ (out.length = out.length ∧ 6 = 6) ∧ (↑i : Int) = (↑i : Int) ∧ (0 = 0 ∧ (pcL (atR l i) pg c).length = (pcL (atR l i) pg c).length ∧ 6 = 6) ∧ pg = pg ∧ c = c ∧ RL out = RL out ∧ PurL (RL out) ∧ splice (RL (pcL (atR l i) pg c)) (0 + (↑(pcN (atR l i) pg) : Int).toNat * 6 + (2 : Nat)) [int i64 pr] = RL (rmd pr on (atR l i) pg c) ∧ PurL (RL (rmd pr on (atR l i) pg c)) ∧ 0 + (pcL (atR l i) pg c).length * 6 ≤ (RL (rmd pr on (atR l i) pg c)).length ∧ 23 = 23 ∧ (RL out).length = out.length * 6 ∧ out.length + (pcL (atR l i) pg c).length ≤ (1073741824 : Nat) ∧ (List.take ((pcL (atR l i) pg c).length * 6) (List.drop 0 (RL (rmd pr on (atR l i) pg c)))).all GV.scalar = true ∧ true = true ∧ ((0 : Nat) < (6 : Nat) ∧ 48 ≤ 65536) ∧ l.length = l.length ∧ RL l = RL l ∧ PurL (RL l) ∧ pr = pr ∧ on = on ∧ 0 = 0 ∧ (out.length + (pcL (atR l i) pg c).length = (out ++ rcgE pr on pg c (atR l i)).length ∧ 6 = 6) ∧ i64.wrap ((↑i : Int) + (1 : Int)) = (↑(i + (1 : Nat)) : Int) ∧ pg = pg ∧ c = c ∧ List.take (out.length * 6) (RL out) ++ List.take ((pcL (atR l i) pg c).length * 6) (List.drop 0 (RL (rmd pr on (atR l i) pg c))) = RL (out ++ rcgE pr on pg c (atR l i)) ∧ PurL (RL (out ++ rcgE pr on pg c (atR l i))) ∧ X) ∧ (decide (pr > (0 : Int)) = false → (on = true → ((0 : Int) ≤ (↑(pcN (atR l i) pg) : Int) ∧ (↑(pcN (atR l i) pg) : Int) < (↑(pcL (atR l i) pg c).length : Int)) ∧ (RL (pcL (atR l i) pg c))[0 + (↑(pcN (atR l i) pg) : Int).toNat * 6 + (3 : Nat)]? = some (int i64 (atR (pcL (atR l i) pg c) (pcN (atR l i) pg)).flags) ∧ ((0 : Int) ≤ (↑(pcN (atR l i) pg) : Int) ∧ (↑(pcN (atR l i) pg) : Int) < (↑(pcL (atR l i) pg c).length : Int)) ∧ 1 = 1 ∧ true = true ∧ 0 + (↑(pcN (atR l i) pg) : Int).toNat * 6 + (3 : Nat) + 1 ≤ (RL (pcL (atR l i) pg c)).length ∧ l.length = l.length ∧ RL l = RL l ∧ PurL (RL l) ∧ pr = pr ∧ on = on ∧ 0 = 0 ∧ (out.length = out.length ∧ 6 = 6) ∧ (↑i : Int) = (↑i : Int) ∧ (0 = 0 ∧ (pcL (atR l i) pg c).length = (pcL (atR l i) pg c).length ∧ 6 = 6) ∧ pg = pg ∧ c = c ∧ RL out = RL out ∧ PurL (RL out) ∧ splice (RL (pcL (atR l i) pg c)) (0 + (↑(pcN (atR l i) pg) : Int).toNat * 6 + (3 : Nat)) [int i64 (i64.wrap ((atR (pcL (atR l i) pg c) (pcN (atR l i) pg)).flags + (4 : Int)))] = RL (rmd pr on (atR l i) pg c) ∧ PurL (RL (rmd pr on (atR l i) pg c)) ∧ 0 + (pcL (atR l i) pg c).length * 6 ≤ (RL (rmd pr on (atR l i) pg c)).length ∧ 23 = 23 ∧ (RL out).length = out.length * 6 ∧ out.length + (pcL (atR l i) pg c).length ≤ (1073741824 : Nat) ∧ (List.take ((pcL (atR l i) pg c).length * 6) (List.drop 0 (RL (rmd pr on (atR l i) pg c)))).all GV.scalar = true ∧ true = true ∧ ((0 : Nat) < (6 : Nat) ∧ 48 ≤ 65536) ∧ l.length = l.length ∧ RL l = RL l ∧ PurL (RL l) ∧ pr = pr ∧ on = on ∧ 0 = 0 ∧ (out.length + (pcL (atR l i) pg c).length = (out ++ rcgE pr on pg c (atR l i)).length ∧ 6 = 6) ∧ i64.wrap ((↑i : Int) + (1 : Int)) = (↑(i + (1 : Nat)) : Int) ∧ pg = pg ∧ c = c ∧ List.take (out.length * 6) (RL out) ++ List.take ((pcL (atR l i) pg c).length * 6) (List.drop 0 (RL (rmd pr on (atR l i) pg c))) = RL (out ++ rcgE pr on pg c (atR l i)) ∧ PurL (RL (out ++ rcgE pr on pg c (atR l i))) ∧ X) ∧ (on = false → ((0 : Int) ≤ (↑(pcN (atR l i) pg) : Int) ∧ (↑(pcN (atR l i) pg) : Int) < (↑(pcL (atR l i) pg c).length : Int)) ∧ (RL (pcL (atR l i) pg c))[0 + (↑(pcN (atR l i) pg) : Int).toNat * 6 + (3 : Nat)]? = some (int i64 (atR (pcL (atR l i) pg c) (pcN (atR l i) pg)).flags) ∧ ((0 : Int) ≤ (↑(pcN (atR l i) pg) : Int) ∧ (↑(pcN (atR l i) pg) : Int) < (↑(pcL (atR l i) pg c).length : Int)) ∧ 1 = 1 ∧ true = true ∧ 0 + (↑(pcN (atR l i) pg) : Int).toNat * 6 + (3 : Nat) + 1 ≤ (RL (pcL (atR l i) pg c)).length ∧ l.length = l.length ∧ RL l = RL l ∧ PurL (RL l) ∧ pr = pr ∧ on = on ∧ 0 = 0 ∧ (out.length = out.length ∧ 6 = 6) ∧ (↑i : Int) = (↑i : Int) ∧ (0 = 0 ∧ (pcL (atR l i) pg c).length = (pcL (atR l i) pg c).length ∧ 6 = 6) ∧ pg = pg ∧ c = c ∧ RL out = RL out ∧ PurL (RL out) ∧ splice (RL (pcL (atR l i) pg c)) (0 + (↑(pcN (atR l i) pg) : Int).toNat * 6 + (3 : Nat)) [int i64 (i64.wrap ((atR (pcL (atR l i) pg c) (pcN (atR l i) pg)).flags - (4 : Int)))] = RL (rmd pr on (atR l i) pg c) ∧ PurL (RL (rmd pr on (atR l i) pg c)) ∧ 0 + (pcL (atR l i) pg c).length * 6 ≤ (RL (rmd pr on (atR l i) pg c)).length ∧ 23 = 23 ∧ (RL out).length = out.length * 6 ∧ out.length + (pcL (atR l i) pg c).length ≤ (1073741824 : Nat) ∧ (List.take ((pcL (atR l i) pg c).length * 6) (List.drop 0 (RL (rmd pr on (atR l i) pg c)))).all GV.scalar = true ∧ true = true ∧ ((0 : Nat) < (6 : Nat) ∧ 48 ≤ 65536) ∧ l.length = l.length ∧ RL l = RL l ∧ PurL (RL l) ∧ pr = pr ∧ on = on ∧ 0 = 0 ∧ (out.length + (pcL (atR l i) pg c).length = (out ++ rcgE pr on pg c (atR l i)).length ∧ 6 = 6) ∧ i64.wrap ((↑i : Int) + (1 : Int)) = (↑(i + (1 : Nat)) : Int) ∧ pg = pg ∧ c = c ∧ List.take (out.length * 6) (RL out) ++ List.take ((pcL (atR l i) pg c).length * 6) (List.drop 0 (RL (rmd pr on (atR l i) pg c))) = RL (out ++ rcgE pr on pg c (atR l i)) ∧ PurL (RL (out ++ rcgE pr on pg c (atR l i))) ∧ X)))) ∧ ((pr == (0 : Int)) = false → CallSem Try.prog 118 [(atR l i).v, int i64 pg, int i64 c] [] 3 (tup [sl 3 (0 : Nat) (pcL (atR l i) pg c).length (6 : Nat), int i64 (↑(pcN (atR l i) pg) : Int)]) [] [blk (RL (pcL (atR l i) pg c)) (23 : Nat)] ∧ (decide (pr > (0 : Int)) = true → ((0 : Int) ≤ (↑(pcN (atR l i) pg) : Int) ∧ (↑(pcN (atR l i) pg) : Int) < (↑(pcL (atR l i) pg c).length : Int)) ∧ 1 = 1 ∧ true = true ∧ 0 + (↑(pcN (atR l i) pg) : Int).toNat * 6 + (2 : Nat) + 1 ≤ (RL (pcL (atR l i) pg c)).length ∧ l.length = l.length ∧ RL l = RL l ∧ PurL (RL l) ∧ pr = pr ∧ on = on ∧ 0 = 0 ∧ (out.length = out.length ∧ 6 = 6) ∧ (↑i : Int) = (↑i : Int) ∧ (0 = 0 ∧ (pcL (atR l i) pg c).length = (pcL (atR l i) pg c).length ∧ 6 = 6) ∧ pg = pg ∧ c = c ∧ RL out = RL out ∧ PurL (RL out) ∧ splice (RL (pcL (atR l i) pg c)) (0 + (↑(pcN (atR l i) pg) : Int).toNat * 6 + (2 : Nat)) [int i64 pr] = RL (rmd pr on (atR l i) pg c) ∧ PurL (RL (rmd pr on (atR l i) pg c)) ∧ 0 + (pcL (atR l i) pg c).length * 6 ≤ (RL (rmd pr on (atR l i) pg c)).length ∧ 23 = 23 ∧ (RL out).length = out.length * 6 ∧ out.length + (pcL (atR l i) pg c).length ≤ (1073741824 : Nat) ∧ (List.take ((pcL (atR l i) pg c).length * 6) (List.drop 0 (RL (rmd pr on (atR l i) pg c)))).all GV.scalar = true ∧ true = true ∧ ((0 : Nat) < (6 : Nat) ∧ 48 ≤ 65536) ∧ l.length = l.length ∧ RL l = RL l ∧ PurL (RL l) ∧ pr = pr ∧ on = on ∧ 0 = 0 ∧ (out.length + (pcL (atR l i) pg c).length = (out ++ rcgE pr on pg c (atR l i)).length ∧ 6 = 6) ∧ i64.wrap ((↑i : Int) + (1 : Int)) = (↑(i + (1 : Nat)) : Int) ∧ pg = pg ∧ c = c ∧ List.take (out.length * 6) (RL out) ++ List.take ((pcL (atR l i) pg c).length * 6) (List.drop 0 (RL (rmd pr on (atR l i) pg c))) = RL (out ++ rcgE pr on pg c (atR l i)) ∧ PurL (RL (out ++ rcgE pr on pg c (atR l i))) ∧ X) ∧ (decide (pr > (0 : Int)) = false → (on = true → ((0 : Int) ≤ (↑(pcN (atR l i) pg) : Int) ∧ (↑(pcN (atR l i) pg) : Int) < (↑(pcL (atR l i) pg c).length : Int)) ∧ (RL (pcL (atR l i) pg c))[0 + (↑(pcN (atR l i) pg) : Int).toNat * 6 + (3 : Nat)]? = some (int i64 (atR (pcL (atR l i) pg c) (pcN (atR l i) pg)).flags) ∧ ((0 : Int) ≤ (↑(pcN (atR l i) pg) : Int) ∧ (↑(pcN (atR l i) pg) : Int) < (↑(pcL (atR l i) pg c).length : Int)) ∧ 1 = 1 ∧ true = true ∧ 0 + (↑(pcN (atR l i) pg) : Int).toNat * 6 + (3 : Nat) + 1 ≤ (RL (pcL (atR l i) pg c)).length ∧ l.length = l.length ∧ RL l = RL l ∧ PurL (RL l) ∧ pr = pr ∧ on = on ∧ 0 = 0 ∧ (out.length = out.length ∧ 6 = 6) ∧ (↑i : Int) = (↑i : Int) ∧ (0 = 0 ∧ (pcL (atR l i) pg c).length = (pcL (atR l i) pg c).length ∧ 6 = 6) ∧ pg = pg ∧ c = c ∧ RL out = RL out ∧ PurL (RL out) ∧ splice (RL (pcL (atR l i) pg c)) (0 + (↑(pcN (atR l i) pg) : Int).toNat * 6 + (3 : Nat)) [int i64 (i64.wrap ((atR (pcL (atR l i) pg c) (pcN (atR l i) pg)).flags + (4 : Int)))] = RL (rmd pr on (atR l i) pg c) ∧ PurL (RL (rmd pr on (atR l i) pg c)) ∧ 0 + (pcL (atR l i) pg c).length * 6 ≤ (RL (rmd pr on (atR l i) pg c)).length ∧ 23 = 23 ∧ (RL out).length = out.length * 6 ∧ out.length + (pcL (atR l i) pg c).length ≤ (1073741824 : Nat) ∧ (List.take ((pcL (atR l i) pg c).length * 6) (List.drop 0 (RL (rmd pr on (atR l i) pg c)))).all GV.scalar = true ∧ true = true ∧ ((0 : Nat) < (6 : Nat) ∧ 48 ≤ 65536) ∧ l.length = l.length ∧ RL l = RL l ∧ PurL (RL l) ∧ pr = pr ∧ on = on ∧ 0 = 0 ∧ (out.length + (pcL (atR l i) pg c).length = (out ++ rcgE pr on pg c (atR l i)).length ∧ 6 = 6) ∧ i64.wrap ((↑i : Int) + (1 : Int)) = (↑(i + (1 : Nat)) : Int) ∧ pg = pg ∧ c = c ∧ List.take (out.length * 6) (RL out) ++ List.take ((pcL (atR l i) pg c).length * 6) (List.drop 0 (RL (rmd pr on (atR l i) pg c))) = RL (out ++ rcgE pr on pg c (atR l i)) ∧ PurL (RL (out ++ rcgE pr on pg c (atR l i))) ∧ X) ∧ (on = false → ((0 : Int) ≤ (↑(pcN (atR l i) pg) : Int) ∧ (↑(pcN (atR l i) pg) : Int) < (↑(pcL (atR l i) pg c).length : Int)) ∧ (RL (pcL (atR l i) pg c))[0 + (↑(pcN (atR l i) pg) : Int).toNat * 6 + (3 : Nat)]? = some (int i64 (atR (pcL (atR l i) pg c) (pcN (atR l i) pg)).flags) ∧ ((0 : Int) ≤ (↑(pcN (atR l i) pg) : Int) ∧ (↑(pcN (atR l i) pg) : Int) < (↑(pcL (atR l i) pg c).length : Int)) ∧ 1 = 1 ∧ true = true ∧ 0 + (↑(pcN (atR l i) pg) : Int).toNat * 6 + (3 : Nat) + 1 ≤ (RL (pcL (atR l i) pg c)).length ∧ l.length = l.length ∧ RL l = RL l ∧ PurL (RL l) ∧ pr = pr ∧ on = on ∧ 0 = 0 ∧ (out.length = out.length ∧ 6 = 6) ∧ (↑i : Int) = (↑i : Int) ∧ (0 = 0 ∧ (pcL (atR l i) pg c).length = (pcL (atR l i) pg c).length ∧ 6 = 6) ∧ pg = pg ∧ c = c ∧ RL out = RL out ∧ PurL (RL out) ∧ splice (RL (pcL (atR l i) pg c)) (0 + (↑(pcN (atR l i) pg) : Int).toNat * 6 + (3 : Nat)) [int i64 (i64.wrap ((atR (pcL (atR l i) pg c) (pcN (atR l i) pg)).flags - (4 : Int)))] = RL (rmd pr on (atR l i) pg c) ∧ PurL (RL (rmd pr on (atR l i) pg c)) ∧ 0 + (pcL (atR l i) pg c).length * 6 ≤ (RL (rmd pr on (atR l i) pg c)).length ∧ 23 = 23 ∧ (RL out).length = out.length * 6 ∧ out.length + (pcL (atR l i) pg c).length ≤ (1073741824 : Nat) ∧ (List.take ((pcL (atR l i) pg c).length * 6) (List.drop 0 (RL (rmd pr on (atR l i) pg c)))).all GV.scalar = true ∧ true = true ∧ ((0 : Nat) < (6 : Nat) ∧ 48 ≤ 65536) ∧ l.length = l.length ∧ RL l = RL l ∧ PurL (RL l) ∧ pr = pr ∧ on = on ∧ 0 = 0 ∧ (out.length + (pcL (atR l i) pg c).length = (out ++ rcgE pr on pg c (atR l i)).length ∧ 6 = 6) ∧ i64.wrap ((↑i : Int) + (1 : Int)) = (↑(i + (1 : Nat)) : Int) ∧ pg = pg ∧ c = c ∧ List.take (out.length * 6) (RL out) ++ List.take ((pcL (atR l i) pg c).length * 6) (List.drop 0 (RL (rmd pr on (atR l i) pg c))) = RL (out ++ rcgE pr on pg c (atR l i)) ∧ PurL (RL (out ++ rcgE pr on pg c (atR l i))) ∧ X))))) ∧ (decide (pr > (0 : Int)) = false → ((pr == (0 : Int)) = true → ((((i64.wrap ((atR l i).flags.tdiv (4 : Int))).tmod (2 : Int) == (1 : Int)) == on) = true → 6 ≤ 6 ∧ 23 = 23 ∧ (RL out).length = out.length * 6 ∧ out.length + 1 ≤ 1073741824 ∧ true = true ∧ true = true ∧ ((0 : Nat) < (6 : Nat) ∧ 48 ≤ 65536) ∧ l.length = l.length ∧ RL l = RL l ∧ PurL (RL l) ∧ pr = pr ∧ on = on ∧ 0 = 0 ∧ (out.length + 1 = (out ++ rcgE pr on pg c (atR l i)).length ∧ 6 = 6) ∧ i64.wrap ((↑i : Int) + (1 : Int)) = (↑(i + (1 : Nat)) : Int) ∧ pg = pg ∧ c = c ∧ List.take (out.length * 6) (RL out) ++ [int i64 (atR l i).start, int i64 (atR l i).pages, int i64 (atR l i).prot, int i64 (atR l i).flags, int i64 (atR l i).file, int i64 (atR l i).index] = RL (out ++ rcgE pr on pg c (atR l i)) ∧ PurL (RL (out ++ rcgE pr on pg c (atR l i))) ∧ X) ∧ ((((i64.wrap ((atR l i).flags.tdiv (4 : Int))).tmod (2 : Int) == (1 : Int)) == on) = false → CallSem Try.prog 118 [(atR l i).v, int i64 pg, int i64 c] [] 3 (tup [sl 3 (0 : Nat) (pcL (atR l i) pg c).length (6 : Nat), int i64 (↑(pcN (atR l i) pg) : Int)]) [] [blk (RL (pcL (atR l i) pg c)) (23 : Nat)] ∧ (decide (pr > (0 : Int)) = true → ((0 : Int) ≤ (↑(pcN (atR l i) pg) : Int) ∧ (↑(pcN (atR l i) pg) : Int) < (↑(pcL (atR l i) pg c).length : Int)) ∧ 1 = 1 ∧ true = true ∧ 0 + (↑(pcN (atR l i) pg) : Int).toNat * 6 + (2 : Nat) + 1 ≤ (RL (pcL (atR l i) pg c)).length ∧ l.length = l.length ∧ RL l = RL l ∧ PurL (RL l) ∧ pr = pr ∧ on = on ∧ 0 = 0 ∧ (out.length = out.length ∧ 6 = 6) ∧ (↑i : Int) = (↑i : Int) ∧ (0 = 0 ∧ (pcL (atR l i) pg c).length = (pcL (atR l i) pg c).length ∧ 6 = 6) ∧ pg = pg ∧ c = c ∧ RL out = RL out ∧ PurL (RL out) ∧ splice (RL (pcL (atR l i) pg c)) (0 + (↑(pcN (atR l i) pg) : Int).toNat * 6 + (2 : Nat)) [int i64 pr] = RL (rmd pr on (atR l i) pg c) ∧ PurL (RL (rmd pr on (atR l i) pg c)) ∧ 0 + (pcL (atR l i) pg c).length * 6 ≤ (RL (rmd pr on (atR l i) pg c)).length ∧ 23 = 23 ∧ (RL out).length = out.length * 6 ∧ out.length + (pcL (atR l i) pg c).length ≤ (1073741824 : Nat) ∧ (List.take ((pcL (atR l i) pg c).length * 6) (List.drop 0 (RL (rmd pr on (atR l i) pg c)))).all GV.scalar = true ∧ true = true ∧ ((0 : Nat) < (6 : Nat) ∧ 48 ≤ 65536) ∧ l.length = l.length ∧ RL l = RL l ∧ PurL (RL l) ∧ pr = pr ∧ on = on ∧ 0 = 0 ∧ (out.length + (pcL (atR l i) pg c).length = (out ++ rcgE pr on pg c (atR l i)).length ∧ 6 = 6) ∧ i64.wrap ((↑i : Int) + (1 : Int)) = (↑(i + (1 : Nat)) : Int) ∧ pg = pg ∧ c = c ∧ List.take (out.length * 6) (RL out) ++ List.take ((pcL (atR l i) pg c).length * 6) (List.drop 0 (RL (rmd pr on (atR l i) pg c))) = RL (out ++ rcgE pr on pg c (atR l i)) ∧ PurL (RL (out ++ rcgE pr on pg c (atR l i))) ∧ X) ∧ (decide (pr > (0 : Int)) = false → (on = true → ((0 : Int) ≤ (↑(pcN (atR l i) pg) : Int) ∧ (↑(pcN (atR l i) pg) : Int) < (↑(pcL (atR l i) pg c).length : Int)) ∧ (RL (pcL (atR l i) pg c))[0 + (↑(pcN (atR l i) pg) : Int).toNat * 6 + (3 : Nat)]? = some (int i64 (atR (pcL (atR l i) pg c) (pcN (atR l i) pg)).flags) ∧ ((0 : Int) ≤ (↑(pcN (atR l i) pg) : Int) ∧ (↑(pcN (atR l i) pg) : Int) < (↑(pcL (atR l i) pg c).length : Int)) ∧ 1 = 1 ∧ true = true ∧ 0 + (↑(pcN (atR l i) pg) : Int).toNat * 6 + (3 : Nat) + 1 ≤ (RL (pcL (atR l i) pg c)).length ∧ l.length = l.length ∧ RL l = RL l ∧ PurL (RL l) ∧ pr = pr ∧ on = on ∧ 0 = 0 ∧ (out.length = out.length ∧ 6 = 6) ∧ (↑i : Int) = (↑i : Int) ∧ (0 = 0 ∧ (pcL (atR l i) pg c).length = (pcL (atR l i) pg c).length ∧ 6 = 6) ∧ pg = pg ∧ c = c ∧ RL out = RL out ∧ PurL (RL out) ∧ splice (RL (pcL (atR l i) pg c)) (0 + (↑(pcN (atR l i) pg) : Int).toNat * 6 + (3 : Nat)) [int i64 (i64.wrap ((atR (pcL (atR l i) pg c) (pcN (atR l i) pg)).flags + (4 : Int)))] = RL (rmd pr on (atR l i) pg c) ∧ PurL (RL (rmd pr on (atR l i) pg c)) ∧ 0 + (pcL (atR l i) pg c).length * 6 ≤ (RL (rmd pr on (atR l i) pg c)).length ∧ 23 = 23 ∧ (RL out).length = out.length * 6 ∧ out.length + (pcL (atR l i) pg c).length ≤ (1073741824 : Nat) ∧ (List.take ((pcL (atR l i) pg c).length * 6) (List.drop 0 (RL (rmd pr on (atR l i) pg c)))).all GV.scalar = true ∧ true = true ∧ ((0 : Nat) < (6 : Nat) ∧ 48 ≤ 65536) ∧ l.length = l.length ∧ RL l = RL l ∧ PurL (RL l) ∧ pr = pr ∧ on = on ∧ 0 = 0 ∧ (out.length + (pcL (atR l i) pg c).length = (out ++ rcgE pr on pg c (atR l i)).length ∧ 6 = 6) ∧ i64.wrap ((↑i : Int) + (1 : Int)) = (↑(i + (1 : Nat)) : Int) ∧ pg = pg ∧ c = c ∧ List.take (out.length * 6) (RL out) ++ List.take ((pcL (atR l i) pg c).length * 6) (List.drop 0 (RL (rmd pr on (atR l i) pg c))) = RL (out ++ rcgE pr on pg c (atR l i)) ∧ PurL (RL (out ++ rcgE pr on pg c (atR l i))) ∧ X) ∧ (on = false → ((0 : Int) ≤ (↑(pcN (atR l i) pg) : Int) ∧ (↑(pcN (atR l i) pg) : Int) < (↑(pcL (atR l i) pg c).length : Int)) ∧ (RL (pcL (atR l i) pg c))[0 + (↑(pcN (atR l i) pg) : Int).toNat * 6 + (3 : Nat)]? = some (int i64 (atR (pcL (atR l i) pg c) (pcN (atR l i) pg)).flags) ∧ ((0 : Int) ≤ (↑(pcN (atR l i) pg) : Int) ∧ (↑(pcN (atR l i) pg) : Int) < (↑(pcL (atR l i) pg c).length : Int)) ∧ 1 = 1 ∧ true = true ∧ 0 + (↑(pcN (atR l i) pg) : Int).toNat * 6 + (3 : Nat) + 1 ≤ (RL (pcL (atR l i) pg c)).length ∧ l.length = l.length ∧ RL l = RL l ∧ PurL (RL l) ∧ pr = pr ∧ on = on ∧ 0 = 0 ∧ (out.length = out.length ∧ 6 = 6) ∧ (↑i : Int) = (↑i : Int) ∧ (0 = 0 ∧ (pcL (atR l i) pg c).length = (pcL (atR l i) pg c).length ∧ 6 = 6) ∧ pg = pg ∧ c = c ∧ RL out = RL out ∧ PurL (RL out) ∧ splice (RL (pcL (atR l i) pg c)) (0 + (↑(pcN (atR l i) pg) : Int).toNat * 6 + (3 : Nat)) [int i64 (i64.wrap ((atR (pcL (atR l i) pg c) (pcN (atR l i) pg)).flags - (4 : Int)))] = RL (rmd pr on (atR l i) pg c) ∧ PurL (RL (rmd pr on (atR l i) pg c)) ∧ 0 + (pcL (atR l i) pg c).length * 6 ≤ (RL (rmd pr on (atR l i) pg c)).length ∧ 23 = 23 ∧ (RL out).length = out.length * 6 ∧ out.length + (pcL (atR l i) pg c).length ≤ (1073741824 : Nat) ∧ (List.take ((pcL (atR l i) pg c).length * 6) (List.drop 0 (RL (rmd pr on (atR l i) pg c)))).all GV.scalar = true ∧ true = true ∧ ((0 : Nat) < (6 : Nat) ∧ 48 ≤ 65536) ∧ l.length = l.length ∧ RL l = RL l ∧ PurL (RL l) ∧ pr = pr ∧ on = on ∧ 0 = 0 ∧ (out.length + (pcL (atR l i) pg c).length = (out ++ rcgE pr on pg c (atR l i)).length ∧ 6 = 6) ∧ i64.wrap ((↑i : Int) + (1 : Int)) = (↑(i + (1 : Nat)) : Int) ∧ pg = pg ∧ c = c ∧ List.take (out.length * 6) (RL out) ++ List.take ((pcL (atR l i) pg c).length * 6) (List.drop 0 (RL (rmd pr on (atR l i) pg c))) = RL (out ++ rcgE pr on pg c (atR l i)) ∧ PurL (RL (out ++ rcgE pr on pg c (atR l i))) ∧ X)))) ∧ ((pr == (0 : Int)) = false → CallSem Try.prog 118 [(atR l i).v, int i64 pg, int i64 c] [] 3 (tup [sl 3 (0 : Nat) (pcL (atR l i) pg c).length (6 : Nat), int i64 (↑(pcN (atR l i) pg) : Int)]) [] [blk (RL (pcL (atR l i) pg c)) (23 : Nat)] ∧ (decide (pr > (0 : Int)) = true → ((0 : Int) ≤ (↑(pcN (atR l i) pg) : Int) ∧ (↑(pcN (atR l i) pg) : Int) < (↑(pcL (atR l i) pg c).length : Int)) ∧ 1 = 1 ∧ true = true ∧ 0 + (↑(pcN (atR l i) pg) : Int).toNat * 6 + (2 : Nat) + 1 ≤ (RL (pcL (atR l i) pg c)).length ∧ l.length = l.length ∧ RL l = RL l ∧ PurL (RL l) ∧ pr = pr ∧ on = on ∧ 0 = 0 ∧ (out.length = out.length ∧ 6 = 6) ∧ (↑i : Int) = (↑i : Int) ∧ (0 = 0 ∧ (pcL (atR l i) pg c).length = (pcL (atR l i) pg c).length ∧ 6 = 6) ∧ pg = pg ∧ c = c ∧ RL out = RL out ∧ PurL (RL out) ∧ splice (RL (pcL (atR l i) pg c)) (0 + (↑(pcN (atR l i) pg) : Int).toNat * 6 + (2 : Nat)) [int i64 pr] = RL (rmd pr on (atR l i) pg c) ∧ PurL (RL (rmd pr on (atR l i) pg c)) ∧ 0 + (pcL (atR l i) pg c).length * 6 ≤ (RL (rmd pr on (atR l i) pg c)).length ∧ 23 = 23 ∧ (RL out).length = out.length * 6 ∧ out.length + (pcL (atR l i) pg c).length ≤ (1073741824 : Nat) ∧ (List.take ((pcL (atR l i) pg c).length * 6) (List.drop 0 (RL (rmd pr on (atR l i) pg c)))).all GV.scalar = true ∧ true = true ∧ ((0 : Nat) < (6 : Nat) ∧ 48 ≤ 65536) ∧ l.length = l.length ∧ RL l = RL l ∧ PurL (RL l) ∧ pr = pr ∧ on = on ∧ 0 = 0 ∧ (out.length + (pcL (atR l i) pg c).length = (out ++ rcgE pr on pg c (atR l i)).length ∧ 6 = 6) ∧ i64.wrap ((↑i : Int) + (1 : Int)) = (↑(i + (1 : Nat)) : Int) ∧ pg = pg ∧ c = c ∧ List.take (out.length * 6) (RL out) ++ List.take ((pcL (atR l i) pg c).length * 6) (List.drop 0 (RL (rmd pr on (atR l i) pg c))) = RL (out ++ rcgE pr on pg c (atR l i)) ∧ PurL (RL (out ++ rcgE pr on pg c (atR l i))) ∧ X) ∧ (decide (pr > (0 : Int)) = false → (on = true → ((0 : Int) ≤ (↑(pcN (atR l i) pg) : Int) ∧ (↑(pcN (atR l i) pg) : Int) < (↑(pcL (atR l i) pg c).length : Int)) ∧ (RL (pcL (atR l i) pg c))[0 + (↑(pcN (atR l i) pg) : Int).toNat * 6 + (3 : Nat)]? = some (int i64 (atR (pcL (atR l i) pg c) (pcN (atR l i) pg)).flags) ∧ ((0 : Int) ≤ (↑(pcN (atR l i) pg) : Int) ∧ (↑(pcN (atR l i) pg) : Int) < (↑(pcL (atR l i) pg c).length : Int)) ∧ 1 = 1 ∧ true = true ∧ 0 + (↑(pcN (atR l i) pg) : Int).toNat * 6 + (3 : Nat) + 1 ≤ (RL (pcL (atR l i) pg c)).length ∧ l.length = l.length ∧ RL l = RL l ∧ PurL (RL l) ∧ pr = pr ∧ on = on ∧ 0 = 0 ∧ (out.length = out.length ∧ 6 = 6) ∧ (↑i : Int) = (↑i : Int) ∧ (0 = 0 ∧ (pcL (atR l i) pg c).length = (pcL (atR l i) pg c).length ∧ 6 = 6) ∧ pg = pg ∧ c = c ∧ RL out = RL out ∧ PurL (RL out) ∧ splice (RL (pcL (atR l i) pg c)) (0 + (↑(pcN (atR l i) pg) : Int).toNat * 6 + (3 : Nat)) [int i64 (i64.wrap ((atR (pcL (atR l i) pg c) (pcN (atR l i) pg)).flags + (4 : Int)))] = RL (rmd pr on (atR l i) pg c) ∧ PurL (RL (rmd pr on (atR l i) pg c)) ∧ 0 + (pcL (atR l i) pg c).length * 6 ≤ (RL (rmd pr on (atR l i) pg c)).length ∧ 23 = 23 ∧ (RL out).length = out.length * 6 ∧ out.length + (pcL (atR l i) pg c).length ≤ (1073741824 : Nat) ∧ (List.take ((pcL (atR l i) pg c).length * 6) (List.drop 0 (RL (rmd pr on (atR l i) pg c)))).all GV.scalar = true ∧ true = true ∧ ((0 : Nat) < (6 : Nat) ∧ 48 ≤ 65536) ∧ l.length = l.length ∧ RL l = RL l ∧ PurL (RL l) ∧ pr = pr ∧ on = on ∧ 0 = 0 ∧ (out.length + (pcL (atR l i) pg c).length = (out ++ rcgE pr on pg c (atR l i)).length ∧ 6 = 6) ∧ i64.wrap ((↑i : Int) + (1 : Int)) = (↑(i + (1 : Nat)) : Int) ∧ pg = pg ∧ c = c ∧ List.take (out.length * 6) (RL out) ++ List.take ((pcL (atR l i) pg c).length * 6) (List.drop 0 (RL (rmd pr on (atR l i) pg c))) = RL (out ++ rcgE pr on pg c (atR l i)) ∧ PurL (RL (out ++ rcgE pr on pg c (atR l i))) ∧ X) ∧ (on = false → ((0 : Int) ≤ (↑(pcN (atR l i) pg) : Int) ∧ (↑(pcN (atR l i) pg) : Int) < (↑(pcL (atR l i) pg c).length : Int)) ∧ (RL (pcL (atR l i) pg c))[0 + (↑(pcN (atR l i) pg) : Int).toNat * 6 + (3 : Nat)]? = some (int i64 (atR (pcL (atR l i) pg c) (pcN (atR l i) pg)).flags) ∧ ((0 : Int) ≤ (↑(pcN (atR l i) pg) : Int) ∧ (↑(pcN (atR l i) pg) : Int) < (↑(pcL (atR l i) pg c).length : Int)) ∧ 1 = 1 ∧ true = true ∧ 0 + (↑(pcN (atR l i) pg) : Int).toNat * 6 + (3 : Nat) + 1 ≤ (RL (pcL (atR l i) pg c)).length ∧ l.length = l.length ∧ RL l = RL l ∧ PurL (RL l) ∧ pr = pr ∧ on = on ∧ 0 = 0 ∧ (out.length = out.length ∧ 6 = 6) ∧ (↑i : Int) = (↑i : Int) ∧ (0 = 0 ∧ (pcL (atR l i) pg c).length = (pcL (atR l i) pg c).length ∧ 6 = 6) ∧ pg = pg ∧ c = c ∧ RL out = RL out ∧ PurL (RL out) ∧ splice (RL (pcL (atR l i) pg c)) (0 + (↑(pcN (atR l i) pg) : Int).toNat * 6 + (3 : Nat)) [int i64 (i64.wrap ((atR (pcL (atR l i) pg c) (pcN (atR l i) pg)).flags - (4 : Int)))] = RL (rmd pr on (atR l i) pg c) ∧ PurL (RL (rmd pr on (atR l i) pg c)) ∧ 0 + (pcL (atR l i) pg c).length * 6 ≤ (RL (rmd pr on (atR l i) pg c)).length ∧ 23 = 23 ∧ (RL out).length = out.length * 6 ∧ out.length + (pcL (atR l i) pg c).length ≤ (1073741824 : Nat) ∧ (List.take ((pcL (atR l i) pg c).length * 6) (List.drop 0 (RL (rmd pr on (atR l i) pg c)))).all GV.scalar = true ∧ true = true ∧ ((0 : Nat) < (6 : Nat) ∧ 48 ≤ 65536) ∧ l.length = l.length ∧ RL l = RL l ∧ PurL (RL l) ∧ pr = pr ∧ on = on ∧ 0 = 0 ∧ (out.length + (pcL (atR l i) pg c).length = (out ++ rcgE pr on pg c (atR l i)).length ∧ 6 = 6) ∧ i64.wrap ((↑i : Int) + (1 : Int)) = (↑(i + (1 : Nat)) : Int) ∧ pg = pg ∧ c = c ∧ List.take (out.length * 6) (RL out) ++ List.take ((pcL (atR l i) pg c).length * 6) (List.drop 0 (RL (rmd pr on (atR l i) pg c))) = RL (out ++ rcgE pr on pg c (atR l i)) ∧ PurL (RL (out ++ rcgE pr on pg c (atR l i))) ∧ X))))))) ∧ (decide ((↑i : Int) < (↑l.length : Int)) = false → (out.length = (out ++ List.flatMap (rcgE pr on pg c) (List.drop i l)).length ∧ 6 = 6) ∧ RL out = RL (out ++ List.flatMap (rcgE pr on pg c) (List.drop i l)) ∧ PurL (RL (out ++ List.flatMap (rcgE pr on pg c) (List.drop i l))) ∧ True)) := by kernel_rfl
theorem rg3_loop (l : List Rg) (pr : Int) (on : Bool) (pg c : Int) (hl : l.length ≤ 300000000) (i : Nat) (out : List Rg) (hpsi : i ≤ l.length ∧ out.length ≤ i * 3) : GW Try.prog none [] (.loop (loopOf 3 Try.f78)) (rg3_S l pr on pg c i out) (OneOf (rg3_O l pr on pg c i out)) := by
  refine GW.loopF mixedA tabA (β := Nat × List Rg) (fun z_ => (fun i out => rg3_S l pr on pg c i out) z_.1 z_.2) (fun z_ => (fun i out => i ≤ l.length ∧ out.length ≤ i * 3) z_.1 z_.2) (fun z_ => (fun i out => l.length - i) z_.1 z_.2) (fun z_ => (fun i out => (i + 1, out ++ rcgE pr on pg c (atR l i))) z_.1 z_.2) (fun z_ => (fun i out => rg3_O l pr on pg c i out) z_.1 z_.2) (fun z_ => (fun i out => [(24, tl (atR l i).v), (77, cl [] (.tup [.sl 3 0 (pcL (atR l i) pg c).length 6, .int .i64 (pcN (atR l i) pg)]) [] [.blk (RL (pcL (atR l i) pg c)) 23]), (92, tl (.int .i64 (atR (pcL (atR l i) pg c) (pcN (atR l i) pg)).flags)), (100, tl (.int .i64 (atR (pcL (atR l i) pg c) (pcN (atR l i) pg)).flags)),     (500015, .view fun _ => ⟨tmL 108 [(0, Lv l), (2, .int .i64 pr), (3, .bool on), (5, .ptr 0 0), (9, .ol 1 out.length 6), (10, .int .i64 i), (13, .sl 2 0 (pcL (atR l i) pg c).length 6)], [.blk [.int .i64 pg, .int .i64 c] 42, .ob (RL out) 23, .blk (RL (rmd pr on (atR l i) pg c)) 23]⟩)]) z_.1 z_.2) ?_ (i, out) hpsi
  clear hpsi
  rintro ⟨i, out⟩ hpsi
  replace hpsi : i ≤ l.length ∧ out.length ≤ i * 3 := hpsi
  refine Eq.mpr (rg3_rd l pr on pg c i out _) ?_
  obtain ⟨hp1, hp2⟩ := hpsi
  have hRl := RL_length out
  have hRp := RL_length (pcL (atR l i) pg c)
  have hml := fun on => rmd_len pr on (atR l i) pg c
  have hlen := fun on => rcgE_len pr on pg c (atR l i)
  have hpl := pcL_len (atR l i) pg c
  have hN := pcN_lt (atR l i) pg c
  have hO : ∀ on, i < l.length → rg3_O l pr on pg c i out = rg3_O l pr on pg c (i + 1) (out ++ rcgE pr on pg c (atR l i)) := fun on hi => by unfold rg3_O; rw [drop_atR hi, List.flatMap_cons, List.append_assoc]
  repeat' (first | exact pc_cs (atR l i) pg c _ | exact RL_pur _ | refine And.intro ?_ ?_ | (intro h_; first | (cases h_; done) | rw [h_] | (simp only [Bool.not_eq_true', Bool.not_eq_false'] at h_; rw [h_]) | skip))
  all_goals (try simp only [decide_eq_true_eq, decide_eq_false_iff_not, Bool.not_eq_true', Bool.not_eq_false'] at *)
  all_goals (first | exact Nat.le_of_ble_eq_true (Eq.refl true) | exact RL_length _ | assumption | (simp only [Int.toNat_natCast, List.drop_zero]; exact RL_at (by omega)) | exact wrap_succ (by omega) | omega | (rw [hO _ (by omega)]; assumption) | (rw [List.length_append]; have := hlen on; omega) | (rw [List.length_append]; have := hlen true; omega) | (rw [List.length_append]; have := hlen false; omega) | (rw [rcg_skip (by simp only [rskA, w64]; simp [*])]; first | exact rm_tk1 _ _ | (simp; done)) | (simp only [Int.toNat_natCast, Nat.zero_add]; rw [spl_prot hN]; unfold rmd md; simp [*]; done) | (simp only [Int.toNat_natCast, Nat.zero_add]; rw [spl_flags hN]; unfold rmd md; simp [*]; done) | (rw [← hml, List.drop_zero, RL_takeL]; exact RL_scalar _) | (rw [← hml, List.drop_zero, RL_takeL, RL_takeL, rcg_div (by simp only [rskA, w64]; first | (simp [*]; done) | (simp_all; done)), RL_append]; done) | (rw [rcg_div (by simp only [rskA, w64]; first | (simp [*]; done) | (simp_all; done)), List.length_append, hml]; done) | (rw [List.drop_eq_nil_of_le (by omega), List.flatMap_nil, List.append_nil]; done) | (rw [RL_length, hml]; omega) | (simp only [Int.toNat_natCast, Nat.zero_add]; exact RL_getf hN (by decide)))
end Go.Proofs.Ytalcipbagidbpaa
end

section
set_option linter.unusedVariables false
set_option maxHeartbeats 1000000
namespace Go.Proofs.Ytalcipbagidbpaa
open Go.Proofs
def rcgL (pr : Int) (on : Bool) (l : List Rg) (pg c : Int) : List Rg := l.flatMap (rcgE pr on pg c)
theorem rchg_ok : FnOK Try.prog 78 Try.f78 (bodyOf Try.f78) := ⟨Try.func78, rfl, rfl⟩
theorem rchg_vc (l : List Rg) (pr : Int) (on : Bool) (pg c : Int) : vc Try.prog TA none [] [(100003, .loop (rg3_S l pr on pg c 0 []) (rg3_O l pr on pg c 0 []))] (bodyOf Try.f78) ⟨startT Try.f78 [Lv l, .agg [.int .i64 pg, .int .i64 c], .int .i64 pr, .bool on], []⟩ (Fin TA Try.f78 (Lv (rcgL pr on l pg c))) = (l.length = l.length ∧ RL l = RL l ∧ PurL (RL l) ∧ pr = pr ∧ on = on ∧ 0 = 0 ∧ 0 = 0 ∧ (0 : Int) = (0 : Int) ∧ pg = pg ∧ c = c ∧ ([] : List GV) = [] ∧ GW Try.prog none [] (loopOf (3 : Nat) Try.f78).loop (rg3_S l pr on pg c (0 : Nat) []) (OneOf (rg3_O l pr on pg c (0 : Nat) [])) ∧ (True → (rcgL pr on l pg c).length = (rcgL pr on l pg c).length ∧ ((RL ([] ++ List.flatMap (rcgE pr on pg c) (List.drop 0 l))).length = ([] ++ List.flatMap (rcgE pr on pg c) (List.drop 0 l)).length * 6 ∧ (0 : Nat) < (6 : Nat)) ∧ RL (rcgL pr on l pg c) = RL (rcgL pr on l pg c) ∧ PurL (RL (rcgL pr on l pg c)) ∧ True) ∧ True) := by kernel_rfl
theorem rchg_ps (l : List Rg) (pr : Int) (on : Bool) (pg c : Int) (hl : l.length ≤ 300000000) : PS Try.prog 78 [Lv l, .agg [.int .i64 pg, .int .i64 c], .int .i64 pr, .bool on] (Lv (rcgL pr on l pg c)) := by
  refine .of_vcN mixedA tabA rchg_ok (by repeat' (first | exact trivial | exact Pur.agg (PurAll.mem ⟨Pur.int, Pur.int, trivial⟩) | exact Pur.int | exact Pur.bool | exact Pur.im (RL_pur _) | refine And.intro ?_ ?_)) (rchg_vc l pr on pg c) ?_
  try simp only [rcgL, List.drop_zero, List.nil_append]
  repeat' (first | exact (rg3_loop l pr on pg c hl 0 [] ⟨Nat.zero_le _, Nat.le_refl _⟩) | exact RL_pur _ | refine And.intro ?_ ?_ | (intro h_; first | (cases h_; done) | rw [h_] | (simp only [Bool.not_eq_true', Bool.not_eq_false'] at h_; rw [h_]) | skip))
  all_goals (first | exact RL_length _ | exact trivial | exact Nat.le_of_ble_eq_true (Eq.refl true))
theorem rcgL_len {n : Nat} {pr : Int} {on : Bool} {l : List Rg} {pg c : Int} (hl : l.length ≤ n) : (rcgL pr on l pg c).length ≤ n * 3 := by
  have h1 := flatMap_len3 (rcgE_len pr on pg c) l
  have h3 : (rcgL pr on l pg c).length = (l.flatMap (rcgE pr on pg c)).length := rfl
  omega
theorem rwi_range {p c : Int} (h : (rwiF p c != 0) = false) : 0 ≤ p ∧ p + c ≤ 512 ∧ 0 ≤ c := by
  unfold rwiF at h
  cases h2 : decide (c < 1) with
  | true => rw [h2] at h; cases h
  | false =>
    rw [h2, cond_false] at h
    cases h3 : decide (p < 0) || (decide (c > 512) || decide (p > w64 (512 - c))) with
    | true => rw [h3] at h; cases h
    | false =>
      simp only [Bool.or_eq_false_iff, decide_eq_false_iff_not] at h3
      have h4 := of_decide_eq_false h2
      have h5 : w64 (512 - c) = 512 - c := wrap_id (by omega) (by omega)
      rw [h5] at h3
      omega
def rproF (t : Tr) (p c pr : Int) : Tr × Int := bif rcF t != 0 then (zT, rcF t) else bif rwiF p c != 0 then (zT, rwiF p c) else bif (pr != 1) && (pr != 3) then (zT, 1) else bif !rcvN t c.toNat p then (zT, 13) else rtreeF (rcgL pr false (rlsF t) p c)
theorem rpro_ok : FnOK Try.prog 33 Try.f33 (bodyOf Try.f33) := ⟨Try.func33, rfl, rfl⟩
open Go.IntKind GV Ent in
theorem rpro_vc (t : Tr) (p c pr : Int) : vc Try.prog TA none [] [(13, tl (.int .i64 (rcF t))), (20, tl (.int .i64 (rwiF p c))), (35, tl (.bool (rcvN t c.toNat p))), (39, tl (Lv (rlsF t))), (44, tl (Lv (rcgL pr false (rlsF t) p c))), (45, tl (.tup [(rtreeF (rcgL pr false (rlsF t) p c)).1.v, .int .i64 (rtreeF (rcgL pr false (rlsF t) p c)).2]))] (bodyOf Try.f33) ⟨startT Try.f33 [t.v, .int .i64 p, .int .i64 c, .int .i64 pr], []⟩ (Fin TA Try.f33 (.tup [(rproF t p c pr).1.v, .int .i64 (rproF t p c pr).2])) = (CallSem Try.prog 29 [t.v] [] 2 (int i64 (rcF t)) [] [] ∧ ((rcF t != (0 : Int)) = true → 11 = 11 ∧ true = true ∧ 11 ≤ 11 ∧ 0 = (rproF t p c pr).fst.h ∧ 0 = (rproF t p c pr).fst.f ∧ 0 = (rproF t p c pr).fst.l ∧ 0 = (rproF t p c pr).fst.g ∧ 0 = (rproF t p c pr).fst.r.start ∧ 0 = (rproF t p c pr).fst.r.pages ∧ 0 = (rproF t p c pr).fst.r.prot ∧ 0 = (rproF t p c pr).fst.r.flags ∧ 0 = (rproF t p c pr).fst.r.file ∧ 0 = (rproF t p c pr).fst.r.index ∧ ((rproF t p c pr).fst.kids.length = (0 : Nat) ∧ (rproF t p c pr).fst.K = []) ∧ rcF t = (rproF t p c pr).snd ∧ True) ∧ ((rcF t != (0 : Int)) = false → CallSem Try.prog 65 [int i64 p, int i64 c] [] 2 (int i64 (rwiF p c)) [] [] ∧ ((rwiF p c != (0 : Int)) = true → 11 = 11 ∧ true = true ∧ 11 ≤ 11 ∧ 0 = (rproF t p c pr).fst.h ∧ 0 = (rproF t p c pr).fst.f ∧ 0 = (rproF t p c pr).fst.l ∧ 0 = (rproF t p c pr).fst.g ∧ 0 = (rproF t p c pr).fst.r.start ∧ 0 = (rproF t p c pr).fst.r.pages ∧ 0 = (rproF t p c pr).fst.r.prot ∧ 0 = (rproF t p c pr).fst.r.flags ∧ 0 = (rproF t p c pr).fst.r.file ∧ 0 = (rproF t p c pr).fst.r.index ∧ ((rproF t p c pr).fst.kids.length = (0 : Nat) ∧ (rproF t p c pr).fst.K = []) ∧ rwiF p c = (rproF t p c pr).snd ∧ True) ∧ ((rwiF p c != (0 : Int)) = false → ((pr != (1 : Int)) = true → ((pr != (3 : Int)) = true → 11 = 11 ∧ true = true ∧ 11 ≤ 11 ∧ 0 = (rproF t p c pr).fst.h ∧ 0 = (rproF t p c pr).fst.f ∧ 0 = (rproF t p c pr).fst.l ∧ 0 = (rproF t p c pr).fst.g ∧ 0 = (rproF t p c pr).fst.r.start ∧ 0 = (rproF t p c pr).fst.r.pages ∧ 0 = (rproF t p c pr).fst.r.prot ∧ 0 = (rproF t p c pr).fst.r.flags ∧ 0 = (rproF t p c pr).fst.r.file ∧ 0 = (rproF t p c pr).fst.r.index ∧ ((rproF t p c pr).fst.kids.length = (0 : Nat) ∧ (rproF t p c pr).fst.K = []) ∧ 1 = (rproF t p c pr).snd ∧ True) ∧ ((pr != (3 : Int)) = false → CallSem Try.prog 77 [t.v, int i64 p, int i64 c] [] 2 (bool (rcvN t c.toNat p)) [] [] ∧ ((!rcvN t c.toNat p) = true → 11 = 11 ∧ true = true ∧ 11 ≤ 11 ∧ 0 = (rproF t p c pr).fst.h ∧ 0 = (rproF t p c pr).fst.f ∧ 0 = (rproF t p c pr).fst.l ∧ 0 = (rproF t p c pr).fst.g ∧ 0 = (rproF t p c pr).fst.r.start ∧ 0 = (rproF t p c pr).fst.r.pages ∧ 0 = (rproF t p c pr).fst.r.prot ∧ 0 = (rproF t p c pr).fst.r.flags ∧ 0 = (rproF t p c pr).fst.r.file ∧ 0 = (rproF t p c pr).fst.r.index ∧ ((rproF t p c pr).fst.kids.length = (0 : Nat) ∧ (rproF t p c pr).fst.K = []) ∧ 13 = (rproF t p c pr).snd ∧ True) ∧ ((!rcvN t c.toNat p) = false → CallSem Try.prog 59 [t.v] [] 2 (im (rlsF t).length (RL (rlsF t))) [] [] ∧ CallSem Try.prog 78 [im (rlsF t).length (RL (rlsF t)), agg [int i64 p, int i64 c], int i64 pr, bool false] [] 2 (im (rcgL pr false (rlsF t) p c).length (RL (rcgL pr false (rlsF t) p c))) [] [] ∧ CallSem Try.prog 61 [im (rcgL pr false (rlsF t) p c).length (RL (rcgL pr false (rlsF t) p c))] [] 2 (tup [(rtreeF (rcgL pr false (rlsF t) p c)).fst.v, int i64 (rtreeF (rcgL pr false (rlsF t) p c)).snd]) [] [] ∧ 11 = 11 ∧ true = true ∧ 11 ≤ 11 ∧ (rtreeF (rcgL pr false (rlsF t) p c)).fst.h = (rproF t p c pr).fst.h ∧ (rtreeF (rcgL pr false (rlsF t) p c)).fst.f = (rproF t p c pr).fst.f ∧ (rtreeF (rcgL pr false (rlsF t) p c)).fst.l = (rproF t p c pr).fst.l ∧ (rtreeF (rcgL pr false (rlsF t) p c)).fst.g = (rproF t p c pr).fst.g ∧ (rtreeF (rcgL pr false (rlsF t) p c)).fst.r.start = (rproF t p c pr).fst.r.start ∧ (rtreeF (rcgL pr false (rlsF t) p c)).fst.r.pages = (rproF t p c pr).fst.r.pages ∧ (rtreeF (rcgL pr false (rlsF t) p c)).fst.r.prot = (rproF t p c pr).fst.r.prot ∧ (rtreeF (rcgL pr false (rlsF t) p c)).fst.r.flags = (rproF t p c pr).fst.r.flags ∧ (rtreeF (rcgL pr false (rlsF t) p c)).fst.r.file = (rproF t p c pr).fst.r.file ∧ (rtreeF (rcgL pr false (rlsF t) p c)).fst.r.index = (rproF t p c pr).fst.r.index ∧ (rtreeF (rcgL pr false (rlsF t) p c)).fst.kids.length = (rproF t p c pr).fst.kids.length ∧ (rtreeF (rcgL pr false (rlsF t) p c)).fst.K = (rproF t p c pr).fst.K ∧ PurL (rtreeF (rcgL pr false (rlsF t) p c)).fst.K ∧ (rtreeF (rcgL pr false (rlsF t) p c)).snd = (rproF t p c pr).snd ∧ True))) ∧ ((pr != (1 : Int)) = false → CallSem Try.prog 77 [t.v, int i64 p, int i64 c] [] 2 (bool (rcvN t c.toNat p)) [] [] ∧ ((!rcvN t c.toNat p) = true → 11 = 11 ∧ true = true ∧ 11 ≤ 11 ∧ 0 = (rproF t p c pr).fst.h ∧ 0 = (rproF t p c pr).fst.f ∧ 0 = (rproF t p c pr).fst.l ∧ 0 = (rproF t p c pr).fst.g ∧ 0 = (rproF t p c pr).fst.r.start ∧ 0 = (rproF t p c pr).fst.r.pages ∧ 0 = (rproF t p c pr).fst.r.prot ∧ 0 = (rproF t p c pr).fst.r.flags ∧ 0 = (rproF t p c pr).fst.r.file ∧ 0 = (rproF t p c pr).fst.r.index ∧ ((rproF t p c pr).fst.kids.length = (0 : Nat) ∧ (rproF t p c pr).fst.K = []) ∧ 13 = (rproF t p c pr).snd ∧ True) ∧ ((!rcvN t c.toNat p) = false → CallSem Try.prog 59 [t.v] [] 2 (im (rlsF t).length (RL (rlsF t))) [] [] ∧ CallSem Try.prog 78 [im (rlsF t).length (RL (rlsF t)), agg [int i64 p, int i64 c], int i64 pr, bool false] [] 2 (im (rcgL pr false (rlsF t) p c).length (RL (rcgL pr false (rlsF t) p c))) [] [] ∧ CallSem Try.prog 61 [im (rcgL pr false (rlsF t) p c).length (RL (rcgL pr false (rlsF t) p c))] [] 2 (tup [(rtreeF (rcgL pr false (rlsF t) p c)).fst.v, int i64 (rtreeF (rcgL pr false (rlsF t) p c)).snd]) [] [] ∧ 11 = 11 ∧ true = true ∧ 11 ≤ 11 ∧ (rtreeF (rcgL pr false (rlsF t) p c)).fst.h = (rproF t p c pr).fst.h ∧ (rtreeF (rcgL pr false (rlsF t) p c)).fst.f = (rproF t p c pr).fst.f ∧ (rtreeF (rcgL pr false (rlsF t) p c)).fst.l = (rproF t p c pr).fst.l ∧ (rtreeF (rcgL pr false (rlsF t) p c)).fst.g = (rproF t p c pr).fst.g ∧ (rtreeF (rcgL pr false (rlsF t) p c)).fst.r.start = (rproF t p c pr).fst.r.start ∧ (rtreeF (rcgL pr false (rlsF t) p c)).fst.r.pages = (rproF t p c pr).fst.r.pages ∧ (rtreeF (rcgL pr false (rlsF t) p c)).fst.r.prot = (rproF t p c pr).fst.r.prot ∧ (rtreeF (rcgL pr false (rlsF t) p c)).fst.r.flags = (rproF t p c pr).fst.r.flags ∧ (rtreeF (rcgL pr false (rlsF t) p c)).fst.r.file = (rproF t p c pr).fst.r.file ∧ (rtreeF (rcgL pr false (rlsF t) p c)).fst.r.index = (rproF t p c pr).fst.r.index ∧ (rtreeF (rcgL pr false (rlsF t) p c)).fst.kids.length = (rproF t p c pr).fst.kids.length ∧ (rtreeF (rcgL pr false (rlsF t) p c)).fst.K = (rproF t p c pr).fst.K ∧ PurL (rtreeF (rcgL pr false (rlsF t) p c)).fst.K ∧ (rtreeF (rcgL pr false (rlsF t) p c)).snd = (rproF t p c pr).snd ∧ True))))) := by kernel_rfl
theorem rpro_ps (t : Tr) (p c pr : Int) (hn : (nodesF t).length ≤ 300000000) (hok : RBOK (rnrm (rcgL pr false (rlsF t) p c)) zT) : PS Try.prog 33 [t.v, .int .i64 p, .int .i64 c, .int .i64 pr] (.tup [(rproF t p c pr).1.v, .int .i64 (rproF t p c pr).2]) := by
  have hl := rlsF_len hn
  have hl2 := rcgL_len (pr := pr) (on := false) (pg := p) (c := c) hl
  refine .of_vcN mixedA tabA rpro_ok (by repeat' (first | exact trivial | exact Tr.pur _ | exact Pur.int | refine And.intro ?_ ?_)) (rpro_vc t p c pr) ?_
  try simp only [rproF, zT]
  repeat' (first | exact rc_ps t (Nat.le_trans hn (by decide)) _ | exact rwi_ps p c _ | exact rls_ps t (Nat.le_trans hn (by decide)) _ | exact rcovered_ps t p c (Nat.le_trans hn (by decide)) (rwi_range (by assumption)) _ | exact rchg_ps (rlsF t) pr false p c hl _ | exact rtree_ps (rcgL pr false (rlsF t) p c) (Nat.le_trans hl2 (by decide)) hok _ | exact Tr.purK _ | refine And.intro ?_ ?_ | (intro h_; first | (cases h_; done) | rw [h_] | (simp only [Bool.not_eq_true', Bool.not_eq_false'] at h_; rw [h_]) | skip))
  all_goals (first | exact trivial | exact Nat.le_refl _ | (simp only [bsm]; done) | (simp only [bsm]; exact rfl))
def rlockF (t : Tr) (p c : Int) (on : Bool) : Tr × Int := bif rcF t != 0 then (zT, rcF t) else bif rwiF p c != 0 then (zT, rwiF p c) else bif !rcvN t c.toNat p then (zT, 13) else rtreeF (rcgL 0 on (rlsF t) p c)
theorem rlock_ok : FnOK Try.prog 35 Try.f35 (bodyOf Try.f35) := ⟨Try.func35, rfl, rfl⟩
open Go.IntKind GV Ent in
theorem rlock_vc (t : Tr) (p c : Int) (on : Bool) : vc Try.prog TA none [] [(13, tl (.int .i64 (rcF t))), (20, tl (.int .i64 (rwiF p c))), (28, tl (.bool (rcvN t c.toNat p))), (32, tl (Lv (rlsF t))), (37, tl (Lv (rcgL 0 on (rlsF t) p c))), (38, tl (.tup [(rtreeF (rcgL 0 on (rlsF t) p c)).1.v, .int .i64 (rtreeF (rcgL 0 on (rlsF t) p c)).2]))] (bodyOf Try.f35) ⟨startT Try.f35 [t.v, .int .i64 p, .int .i64 c, .bool on], []⟩ (Fin TA Try.f35 (.tup [(rlockF t p c on).1.v, .int .i64 (rlockF t p c on).2])) = (CallSem Try.prog 29 [t.v] [] 2 (int i64 (rcF t)) [] [] ∧ ((rcF t != (0 : Int)) = true → 11 = 11 ∧ true = true ∧ 11 ≤ 11 ∧ 0 = (rlockF t p c on).fst.h ∧ 0 = (rlockF t p c on).fst.f ∧ 0 = (rlockF t p c on).fst.l ∧ 0 = (rlockF t p c on).fst.g ∧ 0 = (rlockF t p c on).fst.r.start ∧ 0 = (rlockF t p c on).fst.r.pages ∧ 0 = (rlockF t p c on).fst.r.prot ∧ 0 = (rlockF t p c on).fst.r.flags ∧ 0 = (rlockF t p c on).fst.r.file ∧ 0 = (rlockF t p c on).fst.r.index ∧ ((rlockF t p c on).fst.kids.length = (0 : Nat) ∧ (rlockF t p c on).fst.K = []) ∧ rcF t = (rlockF t p c on).snd ∧ True) ∧ ((rcF t != (0 : Int)) = false → CallSem Try.prog 65 [int i64 p, int i64 c] [] 2 (int i64 (rwiF p c)) [] [] ∧ ((rwiF p c != (0 : Int)) = true → 11 = 11 ∧ true = true ∧ 11 ≤ 11 ∧ 0 = (rlockF t p c on).fst.h ∧ 0 = (rlockF t p c on).fst.f ∧ 0 = (rlockF t p c on).fst.l ∧ 0 = (rlockF t p c on).fst.g ∧ 0 = (rlockF t p c on).fst.r.start ∧ 0 = (rlockF t p c on).fst.r.pages ∧ 0 = (rlockF t p c on).fst.r.prot ∧ 0 = (rlockF t p c on).fst.r.flags ∧ 0 = (rlockF t p c on).fst.r.file ∧ 0 = (rlockF t p c on).fst.r.index ∧ ((rlockF t p c on).fst.kids.length = (0 : Nat) ∧ (rlockF t p c on).fst.K = []) ∧ rwiF p c = (rlockF t p c on).snd ∧ True) ∧ ((rwiF p c != (0 : Int)) = false → CallSem Try.prog 77 [t.v, int i64 p, int i64 c] [] 2 (bool (rcvN t c.toNat p)) [] [] ∧ ((!rcvN t c.toNat p) = true → 11 = 11 ∧ true = true ∧ 11 ≤ 11 ∧ 0 = (rlockF t p c on).fst.h ∧ 0 = (rlockF t p c on).fst.f ∧ 0 = (rlockF t p c on).fst.l ∧ 0 = (rlockF t p c on).fst.g ∧ 0 = (rlockF t p c on).fst.r.start ∧ 0 = (rlockF t p c on).fst.r.pages ∧ 0 = (rlockF t p c on).fst.r.prot ∧ 0 = (rlockF t p c on).fst.r.flags ∧ 0 = (rlockF t p c on).fst.r.file ∧ 0 = (rlockF t p c on).fst.r.index ∧ ((rlockF t p c on).fst.kids.length = (0 : Nat) ∧ (rlockF t p c on).fst.K = []) ∧ 13 = (rlockF t p c on).snd ∧ True) ∧ ((!rcvN t c.toNat p) = false → CallSem Try.prog 59 [t.v] [] 2 (im (rlsF t).length (RL (rlsF t))) [] [] ∧ CallSem Try.prog 78 [im (rlsF t).length (RL (rlsF t)), agg [int i64 p, int i64 c], int i64 0, bool on] [] 2 (im (rcgL (0 : Int) on (rlsF t) p c).length (RL (rcgL (0 : Int) on (rlsF t) p c))) [] [] ∧ CallSem Try.prog 61 [im (rcgL (0 : Int) on (rlsF t) p c).length (RL (rcgL (0 : Int) on (rlsF t) p c))] [] 2 (tup [(rtreeF (rcgL (0 : Int) on (rlsF t) p c)).fst.v, int i64 (rtreeF (rcgL (0 : Int) on (rlsF t) p c)).snd]) [] [] ∧ 11 = 11 ∧ true = true ∧ 11 ≤ 11 ∧ (rtreeF (rcgL (0 : Int) on (rlsF t) p c)).fst.h = (rlockF t p c on).fst.h ∧ (rtreeF (rcgL (0 : Int) on (rlsF t) p c)).fst.f = (rlockF t p c on).fst.f ∧ (rtreeF (rcgL (0 : Int) on (rlsF t) p c)).fst.l = (rlockF t p c on).fst.l ∧ (rtreeF (rcgL (0 : Int) on (rlsF t) p c)).fst.g = (rlockF t p c on).fst.g ∧ (rtreeF (rcgL (0 : Int) on (rlsF t) p c)).fst.r.start = (rlockF t p c on).fst.r.start ∧ (rtreeF (rcgL (0 : Int) on (rlsF t) p c)).fst.r.pages = (rlockF t p c on).fst.r.pages ∧ (rtreeF (rcgL (0 : Int) on (rlsF t) p c)).fst.r.prot = (rlockF t p c on).fst.r.prot ∧ (rtreeF (rcgL (0 : Int) on (rlsF t) p c)).fst.r.flags = (rlockF t p c on).fst.r.flags ∧ (rtreeF (rcgL (0 : Int) on (rlsF t) p c)).fst.r.file = (rlockF t p c on).fst.r.file ∧ (rtreeF (rcgL (0 : Int) on (rlsF t) p c)).fst.r.index = (rlockF t p c on).fst.r.index ∧ (rtreeF (rcgL (0 : Int) on (rlsF t) p c)).fst.kids.length = (rlockF t p c on).fst.kids.length ∧ (rtreeF (rcgL (0 : Int) on (rlsF t) p c)).fst.K = (rlockF t p c on).fst.K ∧ PurL (rtreeF (rcgL (0 : Int) on (rlsF t) p c)).fst.K ∧ (rtreeF (rcgL (0 : Int) on (rlsF t) p c)).snd = (rlockF t p c on).snd ∧ True)))) := by kernel_rfl
theorem rlock_ps (t : Tr) (p c : Int) (on : Bool) (hn : (nodesF t).length ≤ 300000000) (hok : RBOK (rnrm (rcgL 0 on (rlsF t) p c)) zT) : PS Try.prog 35 [t.v, .int .i64 p, .int .i64 c, .bool on] (.tup [(rlockF t p c on).1.v, .int .i64 (rlockF t p c on).2]) := by
  have hl := rlsF_len hn
  have hl2 := rcgL_len (pr := 0) (on := on) (pg := p) (c := c) hl
  refine .of_vcN mixedA tabA rlock_ok (by repeat' (first | exact trivial | exact Tr.pur _ | exact Pur.int | exact Pur.bool | refine And.intro ?_ ?_)) (rlock_vc t p c on) ?_
  try simp only [rlockF, zT]
  repeat' (first | exact rc_ps t (Nat.le_trans hn (by decide)) _ | exact rwi_ps p c _ | exact rls_ps t (Nat.le_trans hn (by decide)) _ | exact rcovered_ps t p c (Nat.le_trans hn (by decide)) (rwi_range (by assumption)) _ | exact rchg_ps (rlsF t) 0 on p c hl _ | exact rtree_ps (rcgL 0 on (rlsF t) p c) (Nat.le_trans hl2 (by decide)) hok _ | exact Tr.purK _ | refine And.intro ?_ ?_ | (intro h_; first | (cases h_; done) | rw [h_] | (simp only [Bool.not_eq_true', Bool.not_eq_false'] at h_; rw [h_]) | skip))
  all_goals (first | exact trivial | exact Nat.le_refl _ | (simp only [bsm]; done) | (simp only [bsm]; exact rfl))
def rgH (pg : Int) : List Rg → Bool
  | [] => false
  | x :: xs => bif decide (x.start < pg) then rgH pg xs else true
def rgF (pg : Int) (l : List Rg) : List Rg → Nat → Tr × Int
  | [], _ => (zT, 13)
  | x :: xs, i => bif decide (x.start < pg) then rgF pg l xs (i + 1) else bif ((w64 (x.flags.tdiv 2)).tmod 2 == 0) then (zT, 13) else rtreeF (l.set i (grR x pg))
theorem rt_fo2 (l : List Rg) : allP (all2 (vw (fun q => look q [(1, .blk (RL l) 23)]) [] 8) [.sl 1 0 l.length 6] [Lv l]) = (l.length = l.length ∧ (0 : Nat) + l.length * 6 ≤ (RL l).length ∧ List.take (l.length * 6) (List.drop 0 (RL l)) = RL l ∧ ∀ (c : GV), List.Mem c (RL l) → ∀ (W : World) (E : Env) (v : Value), R W E c v → R W { I := E.I, ok := fun x => False, bk := E.bk, tot := E.tot } c v) := by kernel_rfl
theorem rtree_fr2 (l : List Rg) (hl : l.length ≤ 1000000000) (hok : RBOK (rnrm l) zT) (base : Nat) : CallSem Try.prog 61 [.sl 1 0 l.length 6] [(1, .blk (RL l) 23)] base (.tup [(rtreeF l).1.v, .int .i64 (rtreeF l).2]) [(1, .emp)] [] :=
  CallSem.frozen (rtree_ps l hl hok) [(1, .blk (RL l) 23)] (by
    rw [rt_fo2]
    repeat' (first | exact RL_pur _ | with_reducible rfl | refine And.intro ?_ ?_)
    all_goals first | rfl | (rw [RL_length]; omega) | (rw [List.drop_zero, RL_takeL]) | decide | skip)
def rw_S (l : List Rg) (pg : Int) (i : Nat) : St := ⟨tmL 94 [(1, .int .i64 pg), (4, .ptr 0 0), (11, .sl 1 0 l.length 6), (12, .int .i64 i)], [.blk zT.cells 26, .blk (RL l) 23]⟩
def rw_O (l : List Rg) (pg : Int) (i : Nat) : List (Prop × Exit × St) := [(rgH pg (l.drop i) = true, .ret, ⟨tmL 94 [(4, .ptr 0 0), (5, .int .i64 (rgF pg l (l.drop i) i).2)], [.blk (rgF pg l (l.drop i) i).1.cells 26]⟩), (rgH pg (l.drop i) = false, .exit 0, ⟨tmL 94 [(4, .ptr 0 0)], [.blk zT.cells 26]⟩)]
open Go.IntKind GV Ent in
theorem rw_rd (l : List Rg) (pg : Int) (i : Nat) (X : Prop) : vc Try.prog TA none [] [(57, tl (.int .i64 (atR l i).start)), (64, tl (.int .i64 (atR l i).flags)), (73, tl (.int .i64 (atR l i).pages)), (78, tl (.int .i64 (atR l i).start)), (500021, .view fun _ => ⟨tmL 94 [(4, .ptr 0 0), (11, .sl 1 0 l.length 6)], [.blk zT.cells 26, .blk (RL (l.set i (grR (atR l i) pg))) 23]⟩), (90, cl [1] (.tup [(rtreeF (l.set i (grR (atR l i) pg))).1.v, .int .i64 (rtreeF (l.set i (grR (atR l i) pg))).2]) [.emp] [])] (loopOf 14 Try.f25) (rw_S l pg i) (LoopK (rw_S l pg (i + 1)) X (rw_O l pg i)) = ((decide ((↑i : Int) < (↑l.length : Int)) = true → ((0 : Int) ≤ (↑i : Int) ∧ (↑i : Int) < (↑l.length : Int)) ∧ (RL l)[0 + (↑i : Int).toNat * 6 + (0 : Nat)]? = some (int i64 (atR l i).start) ∧ (decide ((atR l i).start < pg) = true → pg = pg ∧ 0 = 0 ∧ (0 = 0 ∧ l.length = l.length ∧ 6 = 6) ∧ i64.wrap ((↑i : Int) + (1 : Int)) = (↑(i + (1 : Nat)) : Int) ∧ (0 : Int) = (0 : Int) ∧ (0 : Int) = (0 : Int) ∧ (0 : Int) = (0 : Int) ∧ (0 : Int) = (0 : Int) ∧ (0 : Int) = (0 : Int) ∧ (0 : Int) = (0 : Int) ∧ (0 : Int) = (0 : Int) ∧ (0 : Int) = (0 : Int) ∧ (0 : Int) = (0 : Int) ∧ (0 : Int) = (0 : Int) ∧ 0 = 0 ∧ ([] : List GV) = [] ∧ PurL [] ∧ RL l = RL l ∧ PurL (RL l) ∧ X) ∧ (decide ((atR l i).start < pg) = false → ((0 : Int) ≤ (↑i : Int) ∧ (↑i : Int) < (↑l.length : Int)) ∧ (RL l)[0 + (↑i : Int).toNat * 6 + (3 : Nat)]? = some (int i64 (atR l i).flags) ∧ (2 : Int) ≠ (0 : Int) ∧ (2 : Int) ≠ (0 : Int) ∧ (((i64.wrap ((atR l i).flags.tdiv (2 : Int))).tmod (2 : Int) == (0 : Int)) = true → 11 = 11 ∧ true = true ∧ 11 ≤ 11 ∧ 0 = 0 ∧ 13 = (rgF pg l (List.drop i l) i).snd ∧ 0 = (rgF pg l (List.drop i l) i).fst.h ∧ 0 = (rgF pg l (List.drop i l) i).fst.f ∧ 0 = (rgF pg l (List.drop i l) i).fst.l ∧ 0 = (rgF pg l (List.drop i l) i).fst.g ∧ 0 = (rgF pg l (List.drop i l) i).fst.r.start ∧ 0 = (rgF pg l (List.drop i l) i).fst.r.pages ∧ 0 = (rgF pg l (List.drop i l) i).fst.r.prot ∧ 0 = (rgF pg l (List.drop i l) i).fst.r.flags ∧ 0 = (rgF pg l (List.drop i l) i).fst.r.file ∧ 0 = (rgF pg l (List.drop i l) i).fst.r.index ∧ ((rgF pg l (List.drop i l) i).fst.kids.length = (0 : Nat) ∧ (rgF pg l (List.drop i l) i).fst.K = []) ∧ rgH pg (List.drop i l) = true) ∧ (((i64.wrap ((atR l i).flags.tdiv (2 : Int))).tmod (2 : Int) == (0 : Int)) = false → ((0 : Int) ≤ (↑i : Int) ∧ (↑i : Int) < (↑l.length : Int)) ∧ (RL l)[0 + (↑i : Int).toNat * 6 + (1 : Nat)]? = some (int i64 (atR l i).pages) ∧ ((0 : Int) ≤ (↑i : Int) ∧ (↑i : Int) < (↑l.length : Int)) ∧ (RL l)[0 + (↑i : Int).toNat * 6 + (0 : Nat)]? = some (int i64 (atR l i).start) ∧ ((0 : Int) ≤ (↑i : Int) ∧ (↑i : Int) < (↑l.length : Int)) ∧ 1 = 1 ∧ true = true ∧ 0 + (↑i : Int).toNat * 6 + (1 : Nat) + 1 ≤ (RL l).length ∧ ((0 : Int) ≤ (↑i : Int) ∧ (↑i : Int) < (↑l.length : Int)) ∧ 1 = 1 ∧ true = true ∧ 0 + (↑i : Int).toNat * 6 + (0 : Nat) + 1 ≤ (splice (RL l) (0 + (↑i : Int).toNat * 6 + (1 : Nat)) [int i64 (i64.wrap ((atR l i).pages + i64.wrap ((atR l i).start - pg)))]).length ∧ 0 = 0 ∧ (0 = 0 ∧ l.length = l.length ∧ 6 = 6) ∧ (0 : Int) = (0 : Int) ∧ (0 : Int) = (0 : Int) ∧ (0 : Int) = (0 : Int) ∧ (0 : Int) = (0 : Int) ∧ (0 : Int) = (0 : Int) ∧ (0 : Int) = (0 : Int) ∧ (0 : Int) = (0 : Int) ∧ (0 : Int) = (0 : Int) ∧ (0 : Int) = (0 : Int) ∧ (0 : Int) = (0 : Int) ∧ 0 = 0 ∧ ([] : List GV) = [] ∧ PurL [] ∧ splice (splice (RL l) (0 + (↑i : Int).toNat * 6 + (1 : Nat)) [int i64 (i64.wrap ((atR l i).pages + i64.wrap ((atR l i).start - pg)))]) (0 + (↑i : Int).toNat * 6 + (0 : Nat)) [int i64 pg] = RL (l.set i (grR (atR l i) pg)) ∧ PurL (RL (l.set i (grR (atR l i) pg))) ∧ CallSem Try.prog 61 [sl 1 (0 : Nat) l.length (6 : Nat)] [((1 : Nat), blk (RL (l.set i (grR (atR l i) pg))) (23 : Nat))] 2 (tup [(rtreeF (l.set i (grR (atR l i) pg))).fst.v, int i64 (rtreeF (l.set i (grR (atR l i) pg))).snd]) [((1 : Nat), emp)] [] ∧ 11 = 11 ∧ true = true ∧ 11 ≤ 11 ∧ 0 = 0 ∧ (rtreeF (l.set i (grR (atR l i) pg))).snd = (rgF pg l (List.drop i l) i).snd ∧ (rtreeF (l.set i (grR (atR l i) pg))).fst.h = (rgF pg l (List.drop i l) i).fst.h ∧ (rtreeF (l.set i (grR (atR l i) pg))).fst.f = (rgF pg l (List.drop i l) i).fst.f ∧ (rtreeF (l.set i (grR (atR l i) pg))).fst.l = (rgF pg l (List.drop i l) i).fst.l ∧ (rtreeF (l.set i (grR (atR l i) pg))).fst.g = (rgF pg l (List.drop i l) i).fst.g ∧ (rtreeF (l.set i (grR (atR l i) pg))).fst.r.start = (rgF pg l (List.drop i l) i).fst.r.start ∧ (rtreeF (l.set i (grR (atR l i) pg))).fst.r.pages = (rgF pg l (List.drop i l) i).fst.r.pages ∧ (rtreeF (l.set i (grR (atR l i) pg))).fst.r.prot = (rgF pg l (List.drop i l) i).fst.r.prot ∧ (rtreeF (l.set i (grR (atR l i) pg))).fst.r.flags = (rgF pg l (List.drop i l) i).fst.r.flags ∧ (rtreeF (l.set i (grR (atR l i) pg))).fst.r.file = (rgF pg l (List.drop i l) i).fst.r.file ∧ (rtreeF (l.set i (grR (atR l i) pg))).fst.r.index = (rgF pg l (List.drop i l) i).fst.r.index ∧ (rtreeF (l.set i (grR (atR l i) pg))).fst.kids.length = (rgF pg l (List.drop i l) i).fst.kids.length ∧ (rtreeF (l.set i (grR (atR l i) pg))).fst.K = (rgF pg l (List.drop i l) i).fst.K ∧ PurL (rtreeF (l.set i (grR (atR l i) pg))).fst.K ∧ rgH pg (List.drop i l) = true))) ∧ (decide ((↑i : Int) < (↑l.length : Int)) = false → 0 = 0 ∧ (0 : Int) = (0 : Int) ∧ (0 : Int) = (0 : Int) ∧ (0 : Int) = (0 : Int) ∧ (0 : Int) = (0 : Int) ∧ (0 : Int) = (0 : Int) ∧ (0 : Int) = (0 : Int) ∧ (0 : Int) = (0 : Int) ∧ (0 : Int) = (0 : Int) ∧ (0 : Int) = (0 : Int) ∧ (0 : Int) = (0 : Int) ∧ 0 = 0 ∧ ([] : List GV) = [] ∧ PurL [] ∧ rgH pg (List.drop i l) = false)) := by kernel_rfl
theorem rw_loop (l : List Rg) (pg : Int) (hl : l.length ≤ 300000000) (hok : ∀ i, RBOK (rnrm (l.set i (grR (atR l i) pg))) zT) (i : Nat) (hpsi : i ≤ l.length) : GW Try.prog none [] (.loop (loopOf 14 Try.f25)) (rw_S l pg i) (OneOf (rw_O l pg i)) := by
  refine GW.loopF mixedA tabA (β := Nat) (fun z_ => (fun i => rw_S l pg i) z_) (fun z_ => (fun i => i ≤ l.length) z_) (fun z_ => (fun i => l.length - i) z_) (fun z_ => (fun i => i + 1) z_) (fun z_ => (fun i => rw_O l pg i) z_) (fun z_ => (fun i => [(57, tl (.int .i64 (atR l i).start)), (64, tl (.int .i64 (atR l i).flags)), (73, tl (.int .i64 (atR l i).pages)), (78, tl (.int .i64 (atR l i).start)), (500021, .view fun _ => ⟨tmL 94 [(4, .ptr 0 0), (11, .sl 1 0 l.length 6)], [.blk zT.cells 26, .blk (RL (l.set i (grR (atR l i) pg))) 23]⟩), (90, cl [1] (.tup [(rtreeF (l.set i (grR (atR l i) pg))).1.v, .int .i64 (rtreeF (l.set i (grR (atR l i) pg))).2]) [.emp] [])]) z_) ?_ i hpsi
  clear hpsi
  rintro i hpsi
  replace hpsi : i ≤ l.length := hpsi
  refine Eq.mpr (rw_rd l pg i _) ?_
  have ht := rtree_fr2 (l.set i (grR (atR l i) pg)) (by rw [List.length_set]; omega) (hok i)
  rw [List.length_set] at ht
  rcases Nat.lt_or_ge i l.length with hi | hi
  all_goals (try simp only [drop_atR hi, rgH, rgF])
  all_goals (try simp only [List.drop_eq_nil_of_le hi, rgH, rgF])
  repeat' (first | exact ht _ | exact Tr.purK _ | exact RL_pur _ | exact purS (Eq.refl true) | refine And.intro ?_ ?_ | (intro h_; first | (cases h_; done) | rw [h_] | (simp only [Bool.not_eq_true', Bool.not_eq_false'] at h_; rw [h_]) | skip))
  all_goals (try simp only [decide_eq_true_eq, decide_eq_false_iff_not, Bool.not_eq_true', Bool.not_eq_false'] at *)
  all_goals (first | exact Nat.le_of_ble_eq_true (Eq.refl true) | assumption | exact wrap_succ (by omega) | omega | (simp only [bsm]; done) | (simp only [Int.toNat_natCast, Nat.zero_add]; exact RL_getf hi (by decide)) | (simp only [Int.toNat_natCast, Nat.zero_add]; exact grow_splice hi _ _) | (simp only [Int.toNat_natCast, splice, List.length_append, List.length_take, List.length_drop, List.length_cons, List.length_nil, RL_length]; omega) | (rw [show rw_O l pg i = rw_O l pg (i + 1) from by unfold rw_O; rw [drop_atR hi]; simp only [rgH, rgF, *, decide_true, cond_true]]; assumption) | (simp only [*, decide_false, decide_true, cond_true, cond_false]; rfl))
theorem rgF_no {pg : Int} {l : List Rg} : ∀ {xs : List Rg} {i : Nat}, rgH pg xs = false → rgF pg l xs i = (zT, 13)
  | [], _, _ => rfl
  | x :: xs, i, h => by
    unfold rgH at h
    unfold rgF
    cases hb : decide (x.start < pg) with
    | true => rw [hb] at h; exact rgF_no h
    | false => rw [hb] at h; cases h
def rgrowF (t : Tr) (pg : Int) : Tr × Int := bif rcF t != 0 then (zT, rcF t) else bif decide (pg < 0) || decide (pg ≥ 512) then (zT, 2) else bif (rfindF t pg).2 then (zT, 7) else bif (rfindF t (w64 (pg - 1))).2 then (zT, 13) else rgF pg (rlsF t) (rlsF t) 0
theorem rgrow_ok : FnOK Try.prog 25 Try.f25 (bodyOf Try.f25) := ⟨Try.func25, rfl, rfl⟩
open Go.IntKind GV Ent in
theorem rgrow_vc (t : Tr) (pg : Int) : vc Try.prog TA none [] [(14, tl (.int .i64 (rcF t))), (29, tl (.tup [(rfindF t pg).1.v, .bool (rfindF t pg).2])), (38, tl (.tup [(rfindF t (w64 (pg - 1))).1.v, .bool (rfindF t (w64 (pg - 1))).2])), (45, tl (Lv (rlsF t))), (100014, .loop (rw_S (rlsF t) pg 0) (rw_O (rlsF t) pg 0))] (bodyOf Try.f25) ⟨startT Try.f25 [t.v, .int .i64 pg], []⟩ (Fin TA Try.f25 (.tup [(rgrowF t pg).1.v, .int .i64 (rgrowF t pg).2])) = (CallSem Try.prog 29 [t.v] [] 2 (int i64 (rcF t)) [] [] ∧ ((rcF t != (0 : Int)) = true → 11 = 11 ∧ true = true ∧ 11 ≤ 11 ∧ 0 = (rgrowF t pg).fst.h ∧ 0 = (rgrowF t pg).fst.f ∧ 0 = (rgrowF t pg).fst.l ∧ 0 = (rgrowF t pg).fst.g ∧ 0 = (rgrowF t pg).fst.r.start ∧ 0 = (rgrowF t pg).fst.r.pages ∧ 0 = (rgrowF t pg).fst.r.prot ∧ 0 = (rgrowF t pg).fst.r.flags ∧ 0 = (rgrowF t pg).fst.r.file ∧ 0 = (rgrowF t pg).fst.r.index ∧ ((rgrowF t pg).fst.kids.length = (0 : Nat) ∧ (rgrowF t pg).fst.K = []) ∧ rcF t = (rgrowF t pg).snd ∧ True) ∧ ((rcF t != (0 : Int)) = false → (decide (pg < (0 : Int)) = true → 11 = 11 ∧ true = true ∧ 11 ≤ 11 ∧ 0 = (rgrowF t pg).fst.h ∧ 0 = (rgrowF t pg).fst.f ∧ 0 = (rgrowF t pg).fst.l ∧ 0 = (rgrowF t pg).fst.g ∧ 0 = (rgrowF t pg).fst.r.start ∧ 0 = (rgrowF t pg).fst.r.pages ∧ 0 = (rgrowF t pg).fst.r.prot ∧ 0 = (rgrowF t pg).fst.r.flags ∧ 0 = (rgrowF t pg).fst.r.file ∧ 0 = (rgrowF t pg).fst.r.index ∧ ((rgrowF t pg).fst.kids.length = (0 : Nat) ∧ (rgrowF t pg).fst.K = []) ∧ 2 = (rgrowF t pg).snd ∧ True) ∧ (decide (pg < (0 : Int)) = false → (decide (pg ≥ (512 : Int)) = true → 11 = 11 ∧ true = true ∧ 11 ≤ 11 ∧ 0 = (rgrowF t pg).fst.h ∧ 0 = (rgrowF t pg).fst.f ∧ 0 = (rgrowF t pg).fst.l ∧ 0 = (rgrowF t pg).fst.g ∧ 0 = (rgrowF t pg).fst.r.start ∧ 0 = (rgrowF t pg).fst.r.pages ∧ 0 = (rgrowF t pg).fst.r.prot ∧ 0 = (rgrowF t pg).fst.r.flags ∧ 0 = (rgrowF t pg).fst.r.file ∧ 0 = (rgrowF t pg).fst.r.index ∧ ((rgrowF t pg).fst.kids.length = (0 : Nat) ∧ (rgrowF t pg).fst.K = []) ∧ 2 = (rgrowF t pg).snd ∧ True) ∧ (decide (pg ≥ (512 : Int)) = false → CallSem Try.prog 27 [t.v, int i64 pg] [] 2 (tup [(rfindF t pg).fst.v, bool (rfindF t pg).snd]) [] [] ∧ 6 = 6 ∧ true = true ∧ 6 ≤ 6 ∧ ((rfindF t pg).snd = true → 11 = 11 ∧ true = true ∧ 11 ≤ 11 ∧ 0 = (rgrowF t pg).fst.h ∧ 0 = (rgrowF t pg).fst.f ∧ 0 = (rgrowF t pg).fst.l ∧ 0 = (rgrowF t pg).fst.g ∧ 0 = (rgrowF t pg).fst.r.start ∧ 0 = (rgrowF t pg).fst.r.pages ∧ 0 = (rgrowF t pg).fst.r.prot ∧ 0 = (rgrowF t pg).fst.r.flags ∧ 0 = (rgrowF t pg).fst.r.file ∧ 0 = (rgrowF t pg).fst.r.index ∧ ((rgrowF t pg).fst.kids.length = (0 : Nat) ∧ (rgrowF t pg).fst.K = []) ∧ 7 = (rgrowF t pg).snd ∧ True) ∧ ((rfindF t pg).snd = false → CallSem Try.prog 27 [t.v, int i64 (i64.wrap (pg - (1 : Int)))] [] 3 (tup [(rfindF t (w64 (pg - (1 : Int)))).fst.v, bool (rfindF t (w64 (pg - (1 : Int)))).snd]) [] [] ∧ 6 = 6 ∧ true = true ∧ 6 ≤ 6 ∧ ((rfindF t (w64 (pg - (1 : Int)))).snd = true → 11 = 11 ∧ true = true ∧ 11 ≤ 11 ∧ 0 = (rgrowF t pg).fst.h ∧ 0 = (rgrowF t pg).fst.f ∧ 0 = (rgrowF t pg).fst.l ∧ 0 = (rgrowF t pg).fst.g ∧ 0 = (rgrowF t pg).fst.r.start ∧ 0 = (rgrowF t pg).fst.r.pages ∧ 0 = (rgrowF t pg).fst.r.prot ∧ 0 = (rgrowF t pg).fst.r.flags ∧ 0 = (rgrowF t pg).fst.r.file ∧ 0 = (rgrowF t pg).fst.r.index ∧ ((rgrowF t pg).fst.kids.length = (0 : Nat) ∧ (rgrowF t pg).fst.K = []) ∧ 13 = (rgrowF t pg).snd ∧ True) ∧ ((rfindF t (w64 (pg - (1 : Int)))).snd = false → CallSem Try.prog 59 [t.v] [] 5 (im (rlsF t).length (RL (rlsF t))) [] [] ∧ (RL (rlsF t)).length = (rlsF t).length * 6 ∧ 23 = 23 ∧ 0 ≤ 0 ∧ 0 + (rlsF t).length ≤ (1073741824 : Nat) ∧ (RL (rlsF t)).all GV.scalar = true ∧ true = true ∧ ((0 : Nat) < (6 : Nat) ∧ 48 ≤ 65536) ∧ pg = pg ∧ 0 = 0 ∧ (0 = 0 ∧ 0 + (rlsF t).length = (rlsF t).length ∧ 6 = 6) ∧ (0 : Int) = (0 : Int) ∧ (0 : Int) = (0 : Int) ∧ (0 : Int) = (0 : Int) ∧ (0 : Int) = (0 : Int) ∧ (0 : Int) = (0 : Int) ∧ (0 : Int) = (0 : Int) ∧ (0 : Int) = (0 : Int) ∧ (0 : Int) = (0 : Int) ∧ (0 : Int) = (0 : Int) ∧ (0 : Int) = (0 : Int) ∧ (0 : Int) = (0 : Int) ∧ (0 = 0 ∧ ([] : List GV) = []) ∧ RL (rlsF t) = RL (rlsF t) ∧ PurL (RL (rlsF t)) ∧ GW Try.prog none [] (loopOf (14 : Nat) Try.f25).loop (rw_S (rlsF t) pg (0 : Nat)) (OneOf (rw_O (rlsF t) pg (0 : Nat))) ∧ (rgH pg (List.drop 0 (rlsF t)) = true → (rgF pg (rlsF t) (List.drop 0 (rlsF t)) (0 : Nat)).fst.h = (rgrowF t pg).fst.h ∧ (rgF pg (rlsF t) (List.drop 0 (rlsF t)) (0 : Nat)).fst.f = (rgrowF t pg).fst.f ∧ (rgF pg (rlsF t) (List.drop 0 (rlsF t)) (0 : Nat)).fst.l = (rgrowF t pg).fst.l ∧ (rgF pg (rlsF t) (List.drop 0 (rlsF t)) (0 : Nat)).fst.g = (rgrowF t pg).fst.g ∧ (rgF pg (rlsF t) (List.drop 0 (rlsF t)) (0 : Nat)).fst.r.start = (rgrowF t pg).fst.r.start ∧ (rgF pg (rlsF t) (List.drop 0 (rlsF t)) (0 : Nat)).fst.r.pages = (rgrowF t pg).fst.r.pages ∧ (rgF pg (rlsF t) (List.drop 0 (rlsF t)) (0 : Nat)).fst.r.prot = (rgrowF t pg).fst.r.prot ∧ (rgF pg (rlsF t) (List.drop 0 (rlsF t)) (0 : Nat)).fst.r.flags = (rgrowF t pg).fst.r.flags ∧ (rgF pg (rlsF t) (List.drop 0 (rlsF t)) (0 : Nat)).fst.r.file = (rgrowF t pg).fst.r.file ∧ (rgF pg (rlsF t) (List.drop 0 (rlsF t)) (0 : Nat)).fst.r.index = (rgrowF t pg).fst.r.index ∧ (rgF pg (rlsF t) (List.drop 0 (rlsF t)) (0 : Nat)).fst.kids.length = (rgrowF t pg).fst.kids.length ∧ (rgF pg (rlsF t) (List.drop 0 (rlsF t)) (0 : Nat)).fst.K = (rgrowF t pg).fst.K ∧ PurL (rgF pg (rlsF t) (List.drop 0 (rlsF t)) (0 : Nat)).fst.K ∧ (rgF pg (rlsF t) (List.drop 0 (rlsF t)) (0 : Nat)).snd = (rgrowF t pg).snd ∧ True) ∧ (rgH pg (List.drop 0 (rlsF t)) = false → 11 = 11 ∧ true = true ∧ 11 ≤ 11 ∧ 0 = (rgrowF t pg).fst.h ∧ 0 = (rgrowF t pg).fst.f ∧ 0 = (rgrowF t pg).fst.l ∧ 0 = (rgrowF t pg).fst.g ∧ 0 = (rgrowF t pg).fst.r.start ∧ 0 = (rgrowF t pg).fst.r.pages ∧ 0 = (rgrowF t pg).fst.r.prot ∧ 0 = (rgrowF t pg).fst.r.flags ∧ 0 = (rgrowF t pg).fst.r.file ∧ 0 = (rgrowF t pg).fst.r.index ∧ ((rgrowF t pg).fst.kids.length = (0 : Nat) ∧ (rgrowF t pg).fst.K = []) ∧ 13 = (rgrowF t pg).snd ∧ True) ∧ True)))))) := by kernel_rfl
theorem rgrow_ps (t : Tr) (pg : Int) (hn : (nodesF t).length ≤ 300000000) (hok : ∀ i, RBOK (rnrm ((rlsF t).set i (grR (atR (rlsF t) i) pg))) zT) : PS Try.prog 25 [t.v, .int .i64 pg] (.tup [(rgrowF t pg).1.v, .int .i64 (rgrowF t pg).2]) := by
  have hl := rlsF_len hn
  refine .of_vcN mixedA tabA rgrow_ok (by repeat' (first | exact trivial | exact Tr.pur _ | exact Pur.int | refine And.intro ?_ ?_)) (rgrow_vc t pg) ?_
  try simp only [rgrowF, zT, List.drop_zero]
  repeat' (first | exact rc_ps t (Nat.le_trans hn (by decide)) _ | exact rfind_ps t pg (Nat.le_trans hn (by decide)) _ | exact rfind_ps t (w64 (pg - 1)) (Nat.le_trans hn (by decide)) _ | exact rls_ps t (Nat.le_trans hn (by decide)) _ | exact (rw_loop (rlsF t) pg hl hok 0 (Nat.zero_le _)) | exact Tr.purK _ | exact RL_pur _ | refine And.intro ?_ ?_ | (intro h_; first | (cases h_; done) | rw [h_] | (simp only [Bool.not_eq_true', Bool.not_eq_false'] at h_; rw [h_]) | skip))
  all_goals (first | omega | exact RL_scalar _ | (rw [rgF_no (by assumption)]; exact rfl) | exact trivial | (simp only [bsm]; done) | (simp only [bsm]; exact rfl) | (simp [RL_length, RL_takeL, RL_append, RL, rgrowF, zT, List.drop_zero, bsm]; done))
end Go.Proofs.Ytalcipbagidbpaa
end

section
set_option linter.unusedVariables false
namespace Go.Proofs.Ytalcipbagidbpaa
open Go.Proofs
/-! ### Heights -/
inductive Good : Tr → Prop
  | leaf : Good zT
  | node {a b : Tr} (x : Rg) (ha : Good a) (hb : Good b) (h1 : a.h ≤ b.h + 1) (h2 : b.h ≤ a.h + 1) : Good (nodeF a x b)
theorem sz_nodeF (a b : Tr) (x : Rg) : (nodeF a x b).sz = 1 + a.sz + b.sz := by rw [nodeF, Tr.sz_two]
theorem h_nodeF (a b : Tr) (x : Rg) : (nodeF a x b).h = w64 (1 + imax a.h b.h) := rfl
theorem r_nodeF (a b : Tr) (x : Rg) : (nodeF a x b).r = x := rfl
theorem kids_nodeF (a b : Tr) (x : Rg) : (nodeF a x b).kids = [a, b] := rfl
theorem k0_nodeF (a b : Tr) (x : Rg) : k0 (nodeF a x b) = a := rfl
theorem k1_nodeF (a b : Tr) (x : Rg) : k1 (nodeF a x b) = b := rfl
theorem Two_nodeF (a b : Tr) (x : Rg) : Two (nodeF a x b) := ⟨a, b, rfl⟩
theorem sz_zT : zT.sz = 0 := by rw [zT, Tr.sz]; simp
theorem h_zT : zT.h = 0 := rfl
def BIG : Nat := 1000000000
theorem Good.h_le {t : Tr} (hg : Good t) : t.sz ≤ BIG → 0 ≤ t.h ∧ t.h ≤ t.sz := by
  induction hg with
  | leaf => intro _; rw [sz_zT, h_zT]; simp
  | node x ha hb h1 h2 iha ihb =>
    intro hs
    rw [sz_nodeF] at hs ⊢
    have := iha (by omega)
    have := ihb (by omega)
    rw [h_nodeF]
    unfold BIG at hs
    unfold imax
    split
    · rw [show w64 _ = _ from wrap_id (by omega) (by omega)]; omega
    · rw [show w64 _ = _ from wrap_id (by omega) (by omega)]; omega
/-- The height of a node of two good trees. -/
theorem h_node {a b : Tr} (ha : Good a) (hb : Good b) (hs : 1 + a.sz + b.sz ≤ BIG) (x : Rg) : (nodeF a x b).h = 1 + imax a.h b.h := by
  have h1 := ha.h_le (by omega)
  have h2 := hb.h_le (by omega)
  rw [h_nodeF]
  unfold BIG at hs
  unfold imax
  split
  · exact wrap_id (by omega) (by omega)
  · exact wrap_id (by omega) (by omega)
theorem imax_def (a b : Int) : imax a b = max a b := by unfold imax; omega
theorem Good.inv {t : Tr} (hg : Good t) (hs : t.sz ≤ BIG) : t = zT ∨ ∃ a x b, t = nodeF a x b ∧ Good a ∧ Good b ∧ a.h ≤ b.h + 1 ∧ b.h ≤ a.h + 1 ∧ t.sz = 1 + a.sz + b.sz ∧ t.h = 1 + max a.h b.h ∧ 0 ≤ a.h ∧ 0 ≤ b.h := by
  cases hg with
  | leaf => exact .inl rfl
  | node x ha hb h1 h2 =>
    rw [sz_nodeF] at hs
    exact .inr ⟨_, x, _, rfl, ha, hb, h1, h2, sz_nodeF _ _ _, by rw [h_node ha hb hs, imax_def], (ha.h_le (by omega)).1, (hb.h_le (by omega)).1⟩
theorem Good.inv' {t : Tr} (hg : Good t) (hs : t.sz ≤ BIG) (h0 : t.h ≠ 0) : ∃ a x b, t = nodeF a x b ∧ Good a ∧ Good b ∧ a.h ≤ b.h + 1 ∧ b.h ≤ a.h + 1 ∧ t.sz = 1 + a.sz + b.sz ∧ t.h = 1 + max a.h b.h ∧ 0 ≤ a.h ∧ 0 ≤ b.h := by
  rcases hg.inv hs with rfl | h
  · exact absurd rfl h0
  · exact h
/-! ### join -/
theorem dT {p : Prop} [Decidable p] (h : p) : decide p = true := decide_eq_true h
theorem dF {p : Prop} [Decidable p] (h : ¬ p) : decide p = false := decide_eq_false h
theorem w_h {t : Tr} (hg : Good t) (hs : t.sz ≤ BIG) : w64 (t.h + 1) = t.h + 1 := by
  have := hg.h_le hs
  unfold BIG at hs
  exact wrap_id (by omega) (by omega)
structure JoinR (l : Tr) (x : Rg) (r : Tr) : Prop where
  ok : JoinOK l r
  good : Good (joinF l x r)
  sz : (joinF l x r).sz = 1 + l.sz + r.sz
  lo : max l.h r.h ≤ (joinF l x r).h
  hi : (joinF l x r).h ≤ 1 + max l.h r.h
  eq : l.h ≤ r.h + 1 → r.h ≤ l.h + 1 → (joinF l x r).h = 1 + max l.h r.h
theorem joinR_of {l r : Tr} (hl : Good l) (hr : Good r) (x : Rg) (hs : 1 + l.sz + r.sz ≤ BIG) (h1 : l.h ≤ r.h + 2) (h2 : r.h ≤ l.h + 2) : JoinR l x r := by
  have wl := w_h hl (by omega)
  have wr := w_h hr (by omega)
  have bl := hl.h_le (by omega)
  have br := hr.h_le (by omega)
  by_cases c1 : l.h > r.h + 1
  · -- the left one is higher
    obtain ⟨a, y, b, rfl, ha, hb, hab, hba, hsz, hh, h0a, h0b⟩ := hl.inv' (by omega) (by omega)
    have d1 : decide ((nodeF a y b).h > w64 (r.h + 1)) = true := by rw [wr]; exact dT c1
    by_cases c2 : a.h ≥ b.h
    · have d2 : decide ((k0 (nodeF a y b)).h ≥ (k1 (nodeF a y b)).h) = true := dT c2
      have e : joinF (nodeF a y b) x r = nodeF a y (nodeF b x r) := by unfold joinF; rw [d1, cond_true, d2]; rfl
      have hi := h_node hb hr (by omega) x
      rw [imax_def] at hi
      have gi : Good (nodeF b x r) := .node x hb hr (by omega) (by omega)
      have ho := h_node ha gi (by rw [sz_nodeF]; omega) y
      rw [imax_def] at ho
      refine ⟨⟨fun _ => ⟨Two_nodeF _ _ _, (fun h => by rw [d2] at h; cases h)⟩, (fun h => by rw [d1] at h; cases h)⟩, ?_, ?_, ?_, ?_, fun h => by omega⟩
      · rw [e]; exact .node y ha gi (by omega) (by omega)
      · rw [e, sz_nodeF, sz_nodeF]; omega
      · rw [e]; omega
      · rw [e]; omega
    · have d2 : decide ((k0 (nodeF a y b)).h ≥ (k1 (nodeF a y b)).h) = false := dF c2
      obtain ⟨c, z, d, rfl, hc, hd, hcd, hdc, hsz2, hh2, h0c, h0d⟩ := hb.inv' (by omega) (by omega)
      have e : joinF (nodeF a y (nodeF c z d)) x r = nodeF (nodeF a y c) z (nodeF d x r) := by unfold joinF; rw [d1, cond_true, d2]; rfl
      have hi := h_node ha hc (by omega) y
      have hj := h_node hd hr (by omega) x
      rw [imax_def] at hi hj
      have gi : Good (nodeF a y c) := .node y ha hc (by omega) (by omega)
      have gj : Good (nodeF d x r) := .node x hd hr (by omega) (by omega)
      have ho := h_node gi gj (by rw [sz_nodeF, sz_nodeF]; omega) z
      rw [imax_def] at ho
      refine ⟨⟨fun _ => ⟨Two_nodeF _ _ _, fun h => Two_nodeF _ _ _⟩, (fun h => by rw [d1] at h; cases h)⟩, ?_, ?_, ?_, ?_, fun h => by omega⟩
      · rw [e]; exact .node z gi gj (by omega) (by omega)
      · rw [e, sz_nodeF, sz_nodeF, sz_nodeF]; omega
      · rw [e]; omega
      · rw [e]; omega
  · have d1 : decide (l.h > w64 (r.h + 1)) = false := by rw [wr]; exact dF c1
    by_cases c2 : r.h > l.h + 1
    · obtain ⟨a, y, b, rfl, ha, hb, hab, hba, hsz, hh, h0a, h0b⟩ := hr.inv' (by omega) (by omega)
      have d2 : decide ((nodeF a y b).h > w64 (l.h + 1)) = true := by rw [wl]; exact dT c2
      by_cases c3 : b.h ≥ a.h
      · have d3 : decide ((k1 (nodeF a y b)).h ≥ (k0 (nodeF a y b)).h) = true := dT c3
        have e : joinF l x (nodeF a y b) = nodeF (nodeF l x a) y b := by unfold joinF; rw [d1, cond_false, d2, cond_true, d3]; rfl
        have hi := h_node hl ha (by omega) x
        rw [imax_def] at hi
        have gi : Good (nodeF l x a) := .node x hl ha (by omega) (by omega)
        have ho := h_node gi hb (by rw [sz_nodeF]; omega) y
        rw [imax_def] at ho
        refine ⟨⟨(fun h => by rw [d1] at h; cases h), fun _ _ => ⟨Two_nodeF _ _ _, (fun h => by rw [d3] at h; cases h)⟩⟩, ?_, ?_, ?_, ?_, fun h => by omega⟩
        · rw [e]; exact .node y gi hb (by omega) (by omega)
        · rw [e, sz_nodeF, sz_nodeF]; omega
        · rw [e]; omega
        · rw [e]; omega
      · have d3 : decide ((k1 (nodeF a y b)).h ≥ (k0 (nodeF a y b)).h) = false := dF c3
        obtain ⟨c, z, d, rfl, hc, hd, hcd, hdc, hsz2, hh2, h0c, h0d⟩ := ha.inv' (by omega) (by omega)
        have e : joinF l x (nodeF (nodeF c z d) y b) = nodeF (nodeF l x c) z (nodeF d y b) := by unfold joinF; rw [d1, cond_false, d2, cond_true, d3]; rfl
        have hi := h_node hl hc (by omega) x
        have hj := h_node hd hb (by omega) y
        rw [imax_def] at hi hj
        have gi : Good (nodeF l x c) := .node x hl hc (by omega) (by omega)
        have gj : Good (nodeF d y b) := .node y hd hb (by omega) (by omega)
        have ho := h_node gi gj (by rw [sz_nodeF, sz_nodeF]; omega) z
        rw [imax_def] at ho
        refine ⟨⟨(fun h => by rw [d1] at h; cases h), fun _ _ => ⟨Two_nodeF _ _ _, fun h => Two_nodeF _ _ _⟩⟩, ?_, ?_, ?_, ?_, fun h => by omega⟩
        · rw [e]; exact .node z gi gj (by omega) (by omega)
        · rw [e, sz_nodeF, sz_nodeF, sz_nodeF]; omega
        · rw [e]; omega
        · rw [e]; omega
    · have d2 : decide (r.h > w64 (l.h + 1)) = false := by rw [wl]; exact dF c2
      have e : joinF l x r = nodeF l x r := by unfold joinF; rw [d1, cond_false, d2, cond_false]
      have ho := h_node hl hr hs x
      rw [imax_def] at ho
      refine ⟨⟨(fun h => by rw [d1] at h; cases h), (fun _ h => by rw [d2] at h; cases h)⟩, ?_, ?_, ?_, ?_, fun _ _ => ?_⟩
      · rw [e]; exact .node x hl hr (by omega) (by omega)
      · rw [e, sz_nodeF]
      · rw [e]; omega
      · rw [e]; omega
      · rw [e]; omega
/-- The two texts' nodes are the same. -/
theorem node_eq {a b : Tr} (ha : 0 ≤ a.h) (hb : 0 ≤ b.h) (x : Rg) : rnodeF a x b = nodeF a x b := by
  have e1 : (a.h != 0) = decide (a.h > 0) := by rw [Bool.eq_iff_iff]; simp; omega
  have e2 : (b.h != 0) = decide (b.h > 0) := by rw [Bool.eq_iff_iff]; simp; omega
  unfold rnodeF nodeF
  rw [e1, e2]
  simp only [Bool.cond_decide]
theorem joinF_eq {l r : Tr} (hl : Good l) (hr : Good r) (x : Rg) (hs : 1 + l.sz + r.sz ≤ BIG) (h1 : l.h ≤ r.h + 2) (h2 : r.h ≤ l.h + 2) : rbalF l x r = joinF l x r := by
  have wl := w_h hl (by omega)
  have wr := w_h hr (by omega)
  have bl := hl.h_le (by omega)
  have br := hr.h_le (by omega)
  unfold rbalF joinF
  by_cases c1 : l.h > r.h + 1
  · have d1 : decide (l.h > w64 (r.h + 1)) = true := by rw [wr]; exact dT c1
    obtain ⟨a, y, b, rfl, ha, hb, hab, hba, hsz, hh, h0a, h0b⟩ := hl.inv' (by omega) (by omega)
    rw [d1, cond_true, cond_true]
    by_cases c2 : a.h ≥ b.h
    · have d2 : decide ((k0 (nodeF a y b)).h ≥ (k1 (nodeF a y b)).h) = true := dT c2
      rw [d2, cond_true, cond_true, k0_nodeF, k1_nodeF, r_nodeF]
      have hi := h_node hb hr (by omega) x
      rw [imax_def] at hi
      rw [node_eq h0b br.1, node_eq h0a (by omega)]
    · have d2 : decide ((k0 (nodeF a y b)).h ≥ (k1 (nodeF a y b)).h) = false := dF c2
      obtain ⟨c, z, d, rfl, hc, hd, hcd, hdc, hsz2, hh2, h0c, h0d⟩ := hb.inv' (by omega) (by omega)
      have hi := h_node ha hc (by omega) y
      have hj := h_node hd hr (by omega) x
      rw [imax_def] at hi hj
      rw [d2, cond_false, cond_false, k0_nodeF, k1_nodeF, r_nodeF, k0_nodeF, k1_nodeF, r_nodeF, node_eq h0a h0c, node_eq h0d br.1, node_eq (by omega) (by omega)]
  · have d1 : decide (l.h > w64 (r.h + 1)) = false := by rw [wr]; exact dF c1
    rw [d1, cond_false, cond_false]
    by_cases c2 : r.h > l.h + 1
    · have d2 : decide (r.h > w64 (l.h + 1)) = true := by rw [wl]; exact dT c2
      obtain ⟨a, y, b, rfl, ha, hb, hab, hba, hsz, hh, h0a, h0b⟩ := hr.inv' (by omega) (by omega)
      rw [d2, cond_true, cond_true]
      by_cases c3 : b.h ≥ a.h
      · have d3 : decide ((k1 (nodeF a y b)).h ≥ (k0 (nodeF a y b)).h) = true := dT c3
        have hi := h_node hl ha (by omega) x
        rw [imax_def] at hi
        rw [d3, cond_true, cond_true, k0_nodeF, k1_nodeF, r_nodeF, node_eq bl.1 h0a, node_eq (by omega) h0b]
      · have d3 : decide ((k1 (nodeF a y b)).h ≥ (k0 (nodeF a y b)).h) = false := dF c3
        obtain ⟨c, z, d, rfl, hc, hd, hcd, hdc, hsz2, hh2, h0c, h0d⟩ := ha.inv' (by omega) (by omega)
        have hi := h_node hl hc (by omega) x
        have hj := h_node hd hb (by omega) y
        rw [imax_def] at hi hj
        rw [d3, cond_false, cond_false, k0_nodeF, k1_nodeF, r_nodeF, k0_nodeF, k1_nodeF, r_nodeF, node_eq bl.1 h0c, node_eq h0d h0b, node_eq (by omega) (by omega)]
    · have d2 : decide (r.h > w64 (l.h + 1)) = false := by rw [wl]; exact dF c2
      rw [d2, cond_false, cond_false, node_eq bl.1 br.1]
end Go.Proofs.Ytalcipbagidbpaa
end

section
set_option linter.unusedVariables false
namespace Go.Proofs.Ytalcipbagidbpaa
open Go.Proofs
theorem insF_node {a b : Tr} {x r : Rg} (h0 : (nodeF a x b).h ≠ 0) : insF (nodeF a x b) r = bif decide (r.start < x.start) then joinF (insF a r) x b else joinF a x (insF b r) := by
  have h : ((nodeF a x b).h == 0) = false := by simpa using h0
  rw [h_nodeF] at h
  unfold nodeF
  rw [insF_two]
  show (bif (w64 (1 + imax a.h b.h) == 0) then _ else _) = _
  rw [h]; rfl
theorem rinsF_node {a b : Tr} {x r : Rg} (h0 : (nodeF a x b).h ≠ 0) : rinsF (nodeF a x b) r = bif decide (r.start < x.start) then rbalF (rinsF a r) x b else rbalF a x (rinsF b r) := by
  have h : ((nodeF a x b).h == 0) = false := by simpa using h0
  rw [h_nodeF] at h
  unfold nodeF
  rw [rinsF_two]
  show (bif (w64 (1 + imax a.h b.h) == 0) then _ else _) = _
  rw [h]; rfl
structure InsR (r : Rg) (t : Tr) : Prop where
  ok : InsOK r t
  rok : RInsOK r t
  good : Good (insF t r)
  sz : (insF t r).sz = t.sz + 1
  lo : t.h ≤ (insF t r).h
  hi : (insF t r).h ≤ t.h + 1
  eq : rinsF t r = insF t r
theorem good_one (r : Rg) : Good (nodeF zT r zT) := .node r .leaf .leaf (by decide) (by decide)
theorem insR_of (r : Rg) {t : Tr} (hg : Good t) : t.sz + 1 ≤ BIG → InsR r t := by
  induction hg with
  | leaf =>
    intro hs
    have e : insF zT r = nodeF zT r zT := insF_zero zT r rfl
    have e2 : rinsF zT r = rnodeF zT r zT := rinsF_zero zT r rfl
    have hh := h_node .leaf .leaf (by rw [sz_zT]; decide) r
    rw [imax_def, h_zT] at hh
    refine ⟨.zero rfl, .zero rfl, e ▸ good_one r, ?_, ?_, ?_, ?_⟩
    · rw [e, sz_nodeF, sz_zT]
    · rw [e, hh, h_zT]; decide
    · rw [e, hh, h_zT]; decide
    · rw [e, e2, node_eq (Int.le_refl _) (Int.le_refl _)]
  | @node a b x ha hb h1 h2 iha ihb =>
    intro hs
    rw [sz_nodeF] at hs
    have hh := h_node ha hb (by omega) x
    rw [imax_def] at hh
    have la := ha.h_le (by omega)
    have lb := hb.h_le (by omega)
    have h0 : (nodeF a x b).h ≠ 0 := by omega
    have h0' : ((nodeF a x b).h == 0) = false := by simpa using h0
    by_cases c : r.start < x.start
    · have ia := iha (by omega)
      have hj := joinR_of ia.good hb x (by rw [ia.sz]; omega) (by have := ia.hi; omega) (by have := ia.lo; omega)
      have e : insF (nodeF a x b) r = joinF (insF a r) x b := by rw [insF_node h0, dT c, cond_true]
      have e2 : rinsF (nodeF a x b) r = joinF (insF a r) x b := by
        rw [rinsF_node h0, dT c, cond_true, ia.eq]
        exact joinF_eq ia.good hb x (by rw [ia.sz]; omega) (by have := ia.hi; omega) (by have := ia.lo; omega)
      refine ⟨.lt h0' (dT c) ia.ok hj.ok, .lt h0' (dT c) ia.rok (by rw [ia.eq]; exact hj.ok), e ▸ hj.good, ?_, ?_, ?_, by rw [e, e2]⟩
      · rw [e, hj.sz, ia.sz, sz_nodeF]; omega
      · have := ia.lo; have := ia.hi; have := hj.lo; have := hj.hi; have := hj.eq; rw [e]; omega
      · have := ia.lo; have := ia.hi; have := hj.lo; have := hj.hi; have := hj.eq; rw [e]; omega
    · have ib := ihb (by omega)
      have hj := joinR_of ha ib.good x (by rw [ib.sz]; omega) (by have := ib.lo; omega) (by have := ib.hi; omega)
      have e : insF (nodeF a x b) r = joinF a x (insF b r) := by rw [insF_node h0, dF c, cond_false]
      have e2 : rinsF (nodeF a x b) r = joinF a x (insF b r) := by
        rw [rinsF_node h0, dF c, cond_false, ib.eq]
        exact joinF_eq ha ib.good x (by rw [ib.sz]; omega) (by have := ib.lo; omega) (by have := ib.hi; omega)
      refine ⟨.ge h0' (dF c) ib.ok hj.ok, .ge h0' (dF c) ib.rok (by rw [ib.eq]; exact hj.ok), e ▸ hj.good, ?_, ?_, ?_, by rw [e, e2]⟩
      · rw [e, hj.sz, ib.sz, sz_nodeF]; omega
      · have := ib.lo; have := ib.hi; have := hj.lo; have := hj.hi; have := hj.eq; rw [e]; omega
      · have := ib.lo; have := ib.hi; have := hj.lo; have := hj.hi; have := hj.eq; rw [e]; omega
/-! ### The regions of a tree -/
def lst (t : Tr) : List Rg := (nodesF t).map Tr.r
theorem lst_zT : lst zT = [] := by unfold lst; rw [nodesF_zero rfl]; rfl
theorem lst_node {a b : Tr} {x : Rg} (h0 : (nodeF a x b).h ≠ 0) : lst (nodeF a x b) = lst a ++ x :: lst b := by
  have h : ((nodeF a x b).h == 0) = false := by simpa using h0
  rw [h_nodeF] at h
  unfold lst nodeF
  rw [nodesF_two]
  show List.map Tr.r (bif (w64 (1 + imax a.h b.h) == 0) then _ else _) = _
  rw [h]
  simp [Tr.r]
theorem lst_nodeG {a b : Tr} (ha : Good a) (hb : Good b) (hs : 1 + a.sz + b.sz ≤ BIG) (x : Rg) : lst (nodeF a x b) = lst a ++ x :: lst b := by
  have hh := h_node ha hb hs x
  rw [imax_def] at hh
  have la := ha.h_le (by omega)
  exact lst_node (by omega)
end Go.Proofs.Ytalcipbagidbpaa
end

section
set_option linter.unusedVariables false
namespace Go.Proofs.Ytalcipbagidbpaa
open Go.Proofs
/-! ### Building -/
structure BldR (l : List Rg) (t : Tr) : Prop where
  rok : RBOK l t
  ok : ∀ last, BldOK l last t
  good : Good (l.foldl insF t)
  sz : (l.foldl insF t).sz = t.sz + l.length
  eq : l.foldl rinsF t = l.foldl insF t
theorem bldR_of : ∀ (l : List Rg) {t : Tr}, Good t → t.sz + l.length ≤ BIG → BldR l t
  | [], t, hg, hs => ⟨trivial, fun _ => trivial, hg, rfl, rfl⟩
  | r :: rs, t, hg, hs => by
    simp only [List.length_cons] at hs
    have hi := insR_of r hg (by omega)
    have ih := bldR_of rs hi.good (by rw [hi.sz]; omega)
    refine ⟨⟨hi.rok, by rw [hi.eq]; exact ih.rok⟩, fun last _ => ⟨hi.ok, ih.ok _⟩, ih.good, ?_, ?_⟩
    · rw [List.foldl_cons, ih.sz, hi.sz, List.length_cons]; omega
    · rw [List.foldl_cons, List.foldl_cons, hi.eq, ih.eq]
theorem bld0 {l : List Rg} (hs : l.length ≤ BIG) : BldR l zT := bldR_of l .leaf (by rw [sz_zT]; omega)
/-- A region within the address space. -/
def Vd (r : Rg) : Prop := 0 ≤ r.start ∧ 1 ≤ r.pages ∧ r.start + r.pages ≤ 512
theorem validF_iff {r : Rg} : validF r = true ↔ Vd r := by
  unfold validF Vd
  simp only [Bool.and_eq_true, decide_eq_true_eq]
  constructor
  · rintro ⟨h1, h2, h3, h4⟩
    rw [wrap_id (by omega) (by omega)] at h4
    omega
  · rintro ⟨h1, h2, h3⟩
    rw [wrap_id (by omega) (by omega)]
    omega
theorem Vd.end {r : Rg} (h : Vd r) : r.end = r.start + r.pages := by unfold Rg.end Vd at *; exact wrap_id (by omega) (by omega)
/-- One lies before the other. -/
def Bef (a b : Rg) : Prop := a.start + a.pages ≤ b.start
def Ord (l : List Rg) : Prop := (∀ r ∈ l, Vd r) ∧ l.Pairwise Bef
theorem Ord.tail {a : Rg} {l : List Rg} (h : Ord (a :: l)) : Ord l := ⟨fun r hr => h.1 r (by simp [hr]), (List.pairwise_cons.1 h.2).2⟩
theorem Ord.head {a : Rg} {l : List Rg} (h : Ord (a :: l)) : Vd a ∧ ∀ b ∈ l, Bef a b := ⟨h.1 a (by simp), (List.pairwise_cons.1 h.2).1⟩
theorem rl1_iff : ∀ {l : List Rg}, rl1 l = true ↔ ∀ r ∈ l, Vd r
  | [] => by simp [rl1]
  | a :: l => by
    rw [rl1]
    cases h : validF a with
    | true =>
      rw [cond_true, rl1_iff]
      have := validF_iff.1 h
      simp [this]
    | false =>
      simp only [cond_false, Bool.false_eq_true, List.mem_cons, forall_eq_or_imp, false_iff]
      rintro ⟨h1, _⟩
      rw [validF_iff.2 h1] at h
      cases h
theorem rl2_iff : ∀ {l : List Rg}, (∀ r ∈ l, Vd r) → (rl2 l = true ↔ l.Pairwise Bef)
  | [], _ => by simp [rl2]
  | [a], _ => by simp [rl2]
  | a :: b :: l, hv => by
    have ha := hv a (by simp)
    have hb := hv b (by simp)
    have ih := rl2_iff (l := b :: l) (fun r hr => hv r (by simp [hr]))
    rw [rl2, ha.end]
    by_cases c : b.start < a.start + a.pages
    · rw [dT c, cond_true]
      simp only [Bool.false_eq_true, List.pairwise_cons, List.mem_cons, forall_eq_or_imp, false_iff]
      rintro ⟨⟨h1, _⟩, _⟩
      unfold Bef at h1
      omega
    · rw [dF c, cond_false, ih, List.pairwise_cons (a := a) (l := b :: l)]
      constructor
      · intro h
        refine ⟨fun y hy => ?_, h⟩
        rcases List.mem_cons.1 hy with rfl | hy
        · unfold Bef; omega
        · have := (List.pairwise_cons.1 h).1 y hy
          unfold Bef Vd at *
          omega
      · exact fun h => h.2
theorem listed_iff {l : List Rg} : listedF l = 0 ↔ Ord l := by
  unfold listedF Ord
  cases h1 : rl1 l with
  | false =>
    simp only [cond_false]
    constructor
    · intro h; cases h
    · rintro ⟨h, _⟩; rw [rl1_iff.2 h] at h1; cases h1
  | true =>
    have hv := rl1_iff.1 h1
    rw [cond_true]
    cases h2 : rl2 l with
    | true => simp only [cond_true, true_iff]; exact ⟨hv, (rl2_iff hv).1 h2⟩
    | false =>
      simp only [cond_false]
      constructor
      · intro h; cases h
      · rintro ⟨_, h⟩; rw [(rl2_iff hv).2 h] at h2; cases h2
/-- What the program builds out of a list in order. -/
theorem bldF_eq : ∀ (l : List Rg) (last : Int) (t : Tr), Ord l → (∀ r ∈ l, last ≤ r.start) → bldF l last t = (l.foldl insF t, 0)
  | [], _, _, _, _ => rfl
  | r :: rs, last, t, ho, hl => by
    have h1 := hl r (by simp)
    have hh := ho.head
    rw [bldF, dF (show ¬ r.start < last by omega), cond_false, bldF_eq rs _ _ ho.tail (fun y hy => by rw [hh.1.end]; exact hh.2 y hy), List.foldl_cons]
theorem buildF_eq {l : List Rg} (ho : Ord l) : buildF l = (l.foldl insF zT, 0) := by
  have hv : l.all validF = true := List.all_eq_true.2 fun r hr => validF_iff.2 (ho.1 r hr)
  unfold buildF
  rw [hv, bldF_eq l 0 zT ho fun r hr => (ho.1 r hr).1]
  rfl
theorem rbuildF_eq {l : List Rg} (hs : l.length ≤ BIG) (ho : Ord l) : rbuildF l = (l.foldl insF zT, 0) := by
  unfold rbuildF
  rw [listed_iff.2 ho, (bld0 hs).eq]
  rfl
/-! ### Check -/
theorem foldl_and {α : Type} (f : α → Bool) : ∀ (l : List α) (b : Bool), l.foldl (fun b t => b && f t) b = (b && l.all f)
  | [], b => by simp
  | x :: xs, b => by rw [List.foldl_cons, foldl_and f xs, List.all_cons, Bool.and_assoc]
theorem noneF_iff {t : Tr} : noneF t = true ↔ t = zT := by
  cases t with
  | mk h f l g r k =>
    cases r with
    | mk a b c d e i =>
      simp only [noneF, Tr.h, Tr.f, Tr.l, Tr.g, Tr.r, Tr.kids, zT, zR, Bool.and_eq_true, beq_iff_eq, decide_eq_true_eq, Tr.mk.injEq, Rg.mk.injEq, List.cons.injEq, and_true]
      constructor
      · rintro ⟨h1, h2, h3, h4, h5, h6⟩
        exact ⟨h1, h2, h3, h4, h5, List.length_eq_zero_iff.1 (by omega)⟩
      · rintro ⟨h1, h2, h3, h4, h5, rfl⟩
        exact ⟨h1, h2, h3, h4, h5, rfl⟩
theorem formed_zero {t : Tr} (hf : formedF t = true) (h0 : t.h = 0) : t = zT := by
  refine noneF_iff.1 ?_
  cases t with
  | mk h f l g x k =>
    by_cases hk : ∃ a b, k = [a, b]
    · obtain ⟨a, b, rfl⟩ := hk
      have hh : (h == 0) = true := by simpa [Tr.h] using h0
      rw [formedF_two, hh, cond_true] at hf
      exact hf
    · have hh : ((Tr.mk h f l g x k).h == 0) = true := by simpa [Tr.h] using h0
      rw [formedF_else (.mk h f l g x k) (fun a b e => hk ⟨a, b, e⟩), hh, cond_true] at hf
      exact hf
theorem formed_mk {h f l g : Int} {x : Rg} {a b : Tr} (h0 : h ≠ 0) (ha : formedF a = true) (hb : formedF b = true) : formedF (.mk h f l g x [a, b]) = true := by
  rw [formedF_two, show (h == 0) = false by simpa using h0, cond_false, ha, hb]; rfl
theorem nodeF_is (a b : Tr) (x : Rg) : nodeF a x b = .mk (nodeF a x b).h (nodeF a x b).f (nodeF a x b).l (nodeF a x b).g x [a, b] := rfl
theorem Good.formed {t : Tr} (hg : Good t) : t.sz ≤ BIG → formedF t = true := by
  induction hg with
  | leaf => intro _; exact (formedF_else zT (by simp [zT, Tr.kids])).trans (noneF_iff.2 rfl)
  | @node a b x ha hb h1 h2 iha ihb =>
    intro hs
    rw [sz_nodeF] at hs
    have hh := h_node ha hb hs x
    rw [imax_def] at hh
    have la := ha.h_le (by omega)
    rw [nodeF_is]
    exact formed_mk (by omega) (iha (by omega)) (ihb (by omega))
theorem numberedF_mk {h f l g : Int} {x : Rg} {a b : Tr} (h0 : h ≠ 0) : numberedF (.mk h f l g x [a, b]) = (numberedF a && (numF (.mk h f l g x [a, b]) && numberedF b)) := by
  unfold numberedF
  rw [foldl_and, foldl_and, foldl_and, nodesF_two, show (h == 0) = false by simpa using h0]
  simp
theorem numberedF_zT : numberedF zT = true := by unfold numberedF; rw [nodesF_zero rfl]; rfl
theorem sz_mk {h f l g : Int} {x : Rg} {a b : Tr} : (Tr.mk h f l g x [a, b]).sz = 1 + a.sz + b.sz := Tr.sz_two _ _ _ _ _ _ _
theorem w_sub {a b : Tr} (ha : Good a) (hb : Good b) (hs : 1 + a.sz + b.sz ≤ BIG) : w64 (a.h - b.h) = a.h - b.h := by
  have := ha.h_le (by omega)
  have := hb.h_le (by omega)
  unfold BIG at hs
  exact wrap_id (by omega) (by omega)
theorem r_mk (h f l g : Int) (x : Rg) (k : List Tr) : (Tr.mk h f l g x k).r = x := rfl
theorem num_iff {h f l g : Int} {x : Rg} {a b : Tr} (ha : Good a) (hb : Good b) (hs : 1 + a.sz + b.sz ≤ BIG) :
    numF (.mk h f l g x [a, b]) = true ↔ Tr.mk h f l g x [a, b] = nodeF a x b ∧ a.h ≤ b.h + 1 ∧ b.h ≤ a.h + 1 := by
  have e0 : k0 (.mk h f l g x [a, b]) = a := rfl
  have e1 : k1 (.mk h f l g x [a, b]) = b := rfl
  unfold numF
  simp only [e0, e1, w_sub ha hb hs, h_mk, f_mk, l_mk, g_mk, r_mk, Bool.not_eq_true', Bool.or_eq_false_iff, bne_eq_false_iff_eq, decide_eq_false_iff_not]
  rw [nodeF_is]
  simp only [Tr.mk.injEq, and_true, true_and]
  constructor
  · rintro ⟨⟨⟨⟨⟨h1, h2⟩, h3⟩, h4⟩, h5⟩, h6⟩
    exact ⟨⟨h1.symm, h2.symm, h3.symm, h4.symm⟩, by omega, by omega⟩
  · rintro ⟨⟨h1, h2, h3, h4⟩, h5, h6⟩
    exact ⟨⟨⟨⟨⟨h1.symm, h2.symm⟩, h3.symm⟩, h4.symm⟩, by omega⟩, by omega⟩
theorem rnum_iff {h f l g : Int} {x : Rg} {a b : Tr} (ha : Good a) (hb : Good b) (hs : 1 + a.sz + b.sz ≤ BIG) :
    rnumN (.mk h f l g x [a, b]) x a b = true ↔ Tr.mk h f l g x [a, b] = nodeF a x b ∧ a.h ≤ b.h + 1 ∧ b.h ≤ a.h + 1 := by
  unfold rnumN
  simp only [node_eq (ha.h_le (by omega)).1 (hb.h_le (by omega)).1, w_h ha (by omega), w_h hb (by omega), h_mk, f_mk, l_mk, g_mk, Bool.and_eq_true, beq_iff_eq, decide_eq_true_eq]
  rw [nodeF_is]
  simp only [Tr.mk.injEq, and_true, true_and]
  constructor
  · rintro ⟨h1, h2, h3, h4, h5, h6⟩
    exact ⟨⟨h1, h2, h3, h4⟩, h5, h6⟩
  · rintro ⟨⟨h1, h2, h3, h4⟩, h5, h6⟩
    exact ⟨h1, h2, h3, h4, h5, h6⟩
/-- Both texts number alike. -/
theorem num_good (t : Tr) : formedF t = true → t.sz ≤ BIG → (numberedF t = true ↔ Good t) ∧ (rnumF t = true ↔ Good t) := by
  induction t using Tr.ind with
  | h t ih =>
    intro hf hs
    by_cases h0 : t.h = 0
    · rw [formed_zero hf h0]
      exact ⟨⟨fun _ => .leaf, fun _ => numberedF_zT⟩, ⟨fun _ => .leaf, fun _ => rnumF_zero rfl⟩⟩
    · obtain ⟨a, b, hk, ha, hb⟩ := formedF_inv hf h0
      cases t with
      | mk h f l g x k =>
        cases (hk : k = [a, b])
        rw [sz_mk] at hs
        obtain ⟨a1, a2⟩ := ih a (by simp [Tr.kids]) ha (by omega)
        obtain ⟨b1, b2⟩ := ih b (by simp [Tr.kids]) hb (by omega)
        have h0 : h ≠ 0 := h0
        have key : Good (.mk h f l g x [a, b]) ↔ Good a ∧ Good b ∧ Tr.mk h f l g x [a, b] = nodeF a x b ∧ a.h ≤ b.h + 1 ∧ b.h ≤ a.h + 1 := by
          constructor
          · intro hg
            obtain ⟨a', x', b', e, ga, gb, g1, g2, _⟩ := hg.inv' (by rw [sz_mk]; omega) h0
            have e' := e
            rw [nodeF_is] at e'
            simp only [Tr.mk.injEq, List.cons.injEq, and_true] at e'
            obtain ⟨_, _, _, _, rfl, rfl, rfl⟩ := e'
            exact ⟨ga, gb, e, g1, g2⟩
          · rintro ⟨ga, gb, e, g1, g2⟩
            rw [e]; exact .node x ga gb g1 g2
        constructor
        · rw [numberedF_mk h0, Bool.and_eq_true, Bool.and_eq_true, a1, b1, key]
          constructor
          · rintro ⟨ga, hn, gb⟩
            exact ⟨ga, gb, (num_iff ga gb hs).1 hn⟩
          · rintro ⟨ga, gb, hn⟩
            exact ⟨ga, (num_iff ga gb hs).2 hn, gb⟩
        · rw [rnumF_two, show (h == 0) = false by simpa using h0, cond_false, key]
          cases ra : rnumF a with
          | false =>
            simp only [Bool.not_false, Bool.true_or, cond_true, Bool.false_eq_true, false_iff]
            rintro ⟨ga, _⟩
            rw [a2.2 ga] at ra; cases ra
          | true =>
            cases rb : rnumF b with
            | false =>
              simp only [Bool.not_false, Bool.or_true, cond_true, Bool.false_eq_true, false_iff]
              rintro ⟨_, gb, _⟩
              rw [b2.2 gb] at rb; cases rb
            | true =>
              have ga := a2.1 ra
              have gb := b2.1 rb
              simp only [Bool.not_true, Bool.or_self, cond_false]
              rw [rnum_iff ga gb hs]
              exact ⟨fun h => ⟨ga, gb, h⟩, fun h => h.2.2⟩
theorem ord_foldl : ∀ (l : List Tr) (s : Bool × Int), (∀ t ∈ l, Vd t.r) → (∀ t ∈ l.head?, s.2 ≤ t.r.start) → ((l.foldl ordS s).1 = true ↔ s.1 = true ∧ rl2 (l.map Tr.r) = true)
  | [], s, _, _ => by simp [rl2]
  | [a], s, hv, hh => by
    have := hh a (by simp)
    simp [rl2, ordS, this]
  | a :: b :: l, s, hv, hh => by
    have h1 := hh a (by simp)
    rw [List.foldl_cons]
    have e : (ordS s a).1 = s.1 := by simp [ordS, h1]
    by_cases c : b.r.start < a.r.end
    · have key : ∀ (l : List Tr) (s : Bool × Int), s.1 = false → (l.foldl ordS s).1 = false := by
        intro l
        induction l with
        | nil => intro s h; exact h
        | cons x xs ih => intro s h; rw [List.foldl_cons]; exact ih _ (by simp [ordS, h])
      have : ((b :: l).foldl ordS (ordS s a)).1 = false := by
        rw [List.foldl_cons]
        exact key _ _ (by simp [ordS]; intro _ _; omega)
      rw [this, List.map_cons, List.map_cons, rl2, dT c]
      simp
    · have ih := ord_foldl (b :: l) (ordS s a) (fun t ht => hv t (by simp [ht])) (by simp [ordS]; omega)
      have e3 : rl2 (a.r :: b.r :: l.map Tr.r) = rl2 (b.r :: l.map Tr.r) := by rw [rl2, dF c, cond_false]
      rw [ih, e, List.map_cons, List.map_cons, List.map_cons, e3]
theorem rangesF_iff {t : Tr} : rangesF t = rl1 (lst t) := by
  unfold rangesF
  rw [foldl_and, Bool.true_and, Bool.eq_iff_iff, rl1_iff, List.all_eq_true]
  simp only [validF_iff, lst, List.mem_map, forall_exists_index, and_imp, forall_apply_eq_imp_iff₂]
theorem checkF_eq {t : Tr} (hs : t.sz ≤ BIG) : checkF t = rcheckF t := by
  unfold checkF rcheckF
  cases hf : formedF t with
  | false => rfl
  | true =>
    have hn := num_good t hf hs
    have hn' : numberedF t = rnumF t := by rw [Bool.eq_iff_iff, hn.1, hn.2]
    simp only [Bool.not_true, cond_false]
    rw [rangesF_iff, hn']
    unfold listedF
    have e : rregF t = lst t := rfl
    rw [e]
    cases h1 : rl1 (lst t) with
    | false => rfl
    | true =>
      have hv := rl1_iff.1 h1
      have ho : (orderF t).1 = rl2 (lst t) := by
        have := ord_foldl (nodesF t) (true, 0) (fun x hx => hv x.r (List.mem_map_of_mem hx)) (fun x hx => (hv x.r (List.mem_map_of_mem (List.mem_of_mem_head? hx))).1)
        rw [Bool.eq_iff_iff]
        unfold orderF
        rw [this]
        simp [lst]
      rw [ho]
      cases h2 : rl2 (lst t) <;> cases h3 : rnumF t <;> rfl
theorem checkF_iff {t : Tr} (hs : t.sz ≤ BIG) : checkF t = 0 ↔ Good t ∧ Ord (lst t) := by
  rw [checkF_eq hs]
  unfold rcheckF
  cases hf : formedF t with
  | false =>
    simp only [Bool.not_false, cond_true]
    constructor
    · intro h; cases h
    · rintro ⟨hg, _⟩; rw [hg.formed hs] at hf; cases hf
  | true =>
    have hn := (num_good t hf hs).2
    rw [← hn, ← listed_iff]
    show (bif !true then (3 : Int) else bif listedF (lst t) != 0 then listedF (lst t) else bif !rnumF t then 11 else 0) = 0 ↔ _
    simp only [Bool.not_true, cond_false]
    by_cases h1 : listedF (lst t) = 0
    · rw [h1]
      cases h2 : rnumF t <;> simp
    · have : (listedF (lst t) != 0) = true := by simpa using h1
      rw [this, cond_true]
      simp [h1]
theorem listF_eq {t : Tr} (hs : t.sz ≤ BIG) : listF t = rlistF t := by
  unfold listF rlistF
  rw [checkF_eq hs]; rfl
end Go.Proofs.Ytalcipbagidbpaa
end

section
set_option linter.unusedVariables false
namespace Go.Proofs.Ytalcipbagidbpaa
open Go.Proofs
/-! ### Flags -/
theorem hasF_fl {r : Rg} (h0 : 0 ≤ r.flags) (h1 : r.flags ≤ 15) (f : Int) : hasF r f = hasF ⟨0, 0, 0, r.flags.toNat, 0, 0⟩ f := by
  unfold hasF
  rw [show ((r.flags.toNat : Nat) : Int) = r.flags by omega]
theorem flagR_fl {r : Rg} (h0 : 0 ≤ r.flags) (h1 : r.flags ≤ 15) (f : Int) : flagR r f = flagR ⟨0, 0, 0, r.flags.toNat, 0, 0⟩ f := by
  unfold flagR
  rw [show ((r.flags.toNat : Nat) : Int) = r.flags by omega]
theorem fl_tab : ∀ n : Nat, n < 16 → hasF ⟨0, 0, 0, (n : Int), 0, 0⟩ 1 = flagR ⟨0, 0, 0, (n : Int), 0, 0⟩ 1 ∧ hasF ⟨0, 0, 0, (n : Int), 0, 0⟩ 2 = flagR ⟨0, 0, 0, (n : Int), 0, 0⟩ 2 ∧ hasF ⟨0, 0, 0, (n : Int), 0, 0⟩ 4 = flagR ⟨0, 0, 0, (n : Int), 0, 0⟩ 4 ∧
    hasF ⟨0, 0, 0, (n : Int), 0, 0⟩ 10 = (flagR ⟨0, 0, 0, (n : Int), 0, 0⟩ 2 || flagR ⟨0, 0, 0, (n : Int), 0, 0⟩ 8) := by decide +kernel
theorem fl_tab2 : ∀ n : Nat, n < 16 → w64 (BitVec.ofInt IntKind.i64.bits (n : Int) &&& ~~~ BitVec.ofInt IntKind.i64.bits 2).toNat = (bif flagR ⟨0, 0, 0, (n : Int), 0, 0⟩ 2 then w64 ((n : Int) - 2) else (n : Int)) ∧
    w64 (BitVec.ofInt IntKind.i64.bits (n : Int) ^^^ BitVec.ofInt IntKind.i64.bits 4).toNat = (bif flagR ⟨0, 0, 0, (n : Int), 0, 0⟩ 4 then w64 ((n : Int) - 4) else w64 ((n : Int) + 4)) := by decide +kernel
theorem fl_ok {r : Rg} (h0 : 0 ≤ r.flags) (h1 : r.flags ≤ 15) : hasF r 1 = flagR r 1 ∧ hasF r 2 = flagR r 2 ∧ hasF r 4 = flagR r 4 ∧ hasF r 10 = (flagR r 2 || flagR r 8) := by
  have := fl_tab r.flags.toNat (by omega)
  rw [hasF_fl h0 h1, hasF_fl h0 h1 2, hasF_fl h0 h1 4, hasF_fl h0 h1 10, flagR_fl h0 h1 1, flagR_fl h0 h1 2, flagR_fl h0 h1 4, flagR_fl h0 h1 8]
  exact this
theorem fl_ok2 {r : Rg} (h0 : 0 ≤ r.flags) (h1 : r.flags ≤ 15) : w64 (BitVec.ofInt IntKind.i64.bits r.flags &&& ~~~ BitVec.ofInt IntKind.i64.bits 2).toNat = (bif flagR r 2 then w64 (r.flags - 2) else r.flags) ∧
    w64 (BitVec.ofInt IntKind.i64.bits r.flags ^^^ BitVec.ofInt IntKind.i64.bits 4).toNat = (bif flagR r 4 then w64 (r.flags - 4) else w64 (r.flags + 4)) := by
  have := fl_tab2 r.flags.toNat (by omega)
  rw [show ((r.flags.toNat : Nat) : Int) = r.flags by omega] at this
  exact this
/-! ### Check -/
theorem chk_args (r : Rg) : chkA r = (rchkA r || (rchkB r || rchkC r)) := by
  by_cases hf : 0 ≤ r.flags ∧ r.flags ≤ 15 ∧ -1 ≤ r.file ∧ r.file < 4
  · obtain ⟨h0, h1, h2, h3⟩ := hf
    obtain ⟨f1, f2, f4, f10⟩ := fl_ok h0 h1
    unfold chkA rchkA rchkB rchkC
    rw [f1, f10]
    have e1 : (r.file == -1) = decide (r.file < 0) := by rw [Bool.eq_iff_iff]; simp; omega
    have e2 : (r.file != -1) = decide (r.file ≥ 0) := by rw [Bool.eq_iff_iff]; simp; omega
    rw [e1, e2]
    cases decide (r.pages < 1) <;> cases (r.prot != 1) <;> cases (r.prot != 3) <;> cases decide (r.flags < 0) <;> cases decide (r.flags > 15) <;> cases decide (r.file < -1) <;> cases decide (r.file ≥ 4) <;> cases flagR r 1 <;> cases flagR r 2 <;> cases flagR r 8 <;> cases decide (r.file < 0) <;> cases decide (r.file ≥ 0) <;> rfl
  · have e : (decide (r.flags < 0) || decide (r.flags > 15)) || (decide (r.file < -1) || decide (r.file ≥ 4)) = true := by
      simp only [Bool.or_eq_true, decide_eq_true_eq]; omega
    have h1 : rchkB r = true := by
      unfold rchkB
      simp only [Bool.or_eq_true, decide_eq_true_eq] at *; omega
    have h2 : chkA r = true := by
      unfold chkA
      simp only [Bool.or_eq_true, decide_eq_true_eq] at *
      rcases e with e | e
      · exact .inl (.inl (.inl (.inr e)))
      · exact .inl (.inl (.inr e))
    rw [h1, h2]; simp
theorem chk_range (r : Rg) (h : chkA r = false) : chkB r = (rchkD r || rchkE r) := by
  have hp : 1 ≤ r.pages ∧ -1 ≤ r.file := by
    unfold chkA at h
    simp only [Bool.or_eq_false_iff, decide_eq_false_iff_not] at h
    omega
  have w1 : ∀ n : Int, 0 ≤ n → n ≤ 512 → w64 (512 - n) = 512 - n := fun n h1 h2 => wrap_id (by omega) (by omega)
  have w2 : ∀ n : Int, 0 ≤ n → n ≤ 16 → w64 (16 - n) = 16 - n := fun n h1 h2 => wrap_id (by omega) (by omega)
  rw [Bool.eq_iff_iff]
  unfold chkB rchkD rchkE
  simp only [Bool.or_eq_true, Bool.and_eq_true, decide_eq_true_eq, bne_iff_ne, ne_eq, beq_iff_eq]
  have a1 : (((r.start < 0 ∨ r.start > 512) ∨ r.pages > w64 (512 - r.start)) ↔ (r.start < 0 ∨ r.start + r.pages > 512)) := by
    by_cases h1 : 0 ≤ r.start ∧ r.start ≤ 512
    · rw [w1 _ h1.1 h1.2]; omega
    · constructor
      · intro _; omega
      · intro _; omega
  have a2 : ((r.start < 0 ∨ (r.pages > 512 ∨ (r.start > w64 (512 - r.pages) ∨ r.index < 0))) ↔ (r.start < 0 ∨ r.start + r.pages > 512) ∨ r.index < 0) := by
    by_cases h1 : r.pages ≤ 512
    · rw [w1 _ (by omega) h1]; omega
    · constructor
      · intro _; omega
      · intro _; omega
  have a3 : ¬ r.index < 0 → ((r.index > 16 ∨ r.pages > w64 (16 - r.index)) ↔ r.pages + r.index > 16) := by
    intro h0
    by_cases h1 : r.index ≤ 16
    · rw [w2 _ (by omega) h1]; omega
    · constructor
      · intro _; omega
      · intro _; omega
  have a4 : (r.pages > 16 ∨ r.index > w64 (16 - r.pages)) ∨ r.index < 0 ↔ r.pages + r.index > 16 ∨ r.index < 0 := by
    by_cases h1 : r.pages ≤ 16
    · rw [w2 _ (by omega) h1]; omega
    · constructor
      · intro _; omega
      · intro _; omega
  by_cases h0 : r.index < 0
  · simp [h0]
  · have a3 := a3 h0
    constructor
    · rintro (((h1 | h1) | h1) | ⟨h1, h2⟩)
      · exact .inl (a2.2 (.inl (a1.1 h1)))
      · exact absurd h1 h0
      · exact .inr (.inl ⟨by omega, by omega⟩)
      · rcases a4.2 (.inl (a3.1 h2)) with h3 | h3
        · exact .inr (.inr ⟨by omega, h3⟩)
        · exact absurd h3 h0
    · rintro (h1 | ⟨h1, h2⟩ | ⟨h1, h2⟩)
      · rcases a2.1 h1 with h3 | h3
        · exact .inl (.inl (.inl (a1.2 h3)))
        · exact absurd h3 h0
      · exact .inl (.inr ⟨by omega, by omega⟩)
      · rcases a4.1 (.inl h2) with h3 | h3
        · exact .inr ⟨by omega, a3.2 h3⟩
        · exact absurd h3 h0
theorem chk_eq (r : Rg) : chkR r = rchk r := by
  unfold chkR rchk
  rw [chk_args]
  cases h1 : rchkA r with
  | true => rfl
  | false =>
    cases h2 : rchkB r with
    | true => rfl
    | false =>
      cases h3 : rchkC r with
      | true => rfl
      | false =>
        simp only [Bool.or_self, cond_false]
        rw [chk_range r (by rw [chk_args, h1, h2, h3]; rfl)]
        cases rchkD r <;> cases rchkE r <;> rfl
/-- A region that is as it should be. -/
structure Rok (r : Rg) : Prop where
  vd : Vd r
  prot : r.prot = 1 ∨ r.prot = 3
  fl0 : 0 ≤ r.flags
  fl1 : r.flags ≤ 15
  fi0 : -1 ≤ r.file
  fi1 : r.file < 4
  anon : r.file = -1 → flagR r 1 = false ∧ r.index = 0
  filed : r.file ≠ -1 → flagR r 2 = false ∧ flagR r 8 = false ∧ 0 ≤ r.index ∧ r.index + r.pages ≤ 16
theorem rok_iff {r : Rg} : rchk r = 0 ↔ Rok r := by
  have w1 : ∀ n : Int, 1 ≤ n → n ≤ 512 → w64 (512 - n) = 512 - n := fun n h1 h2 => wrap_id (by omega) (by omega)
  have w2 : ∀ n : Int, 1 ≤ n → n ≤ 16 → w64 (16 - n) = 16 - n := fun n h1 h2 => wrap_id (by omega) (by omega)
  have e : rchk r = 0 ↔ rchkA r = false ∧ rchkB r = false ∧ rchkC r = false ∧ rchkD r = false ∧ rchkE r = false := by
    unfold rchk
    cases rchkA r <;> cases rchkB r <;> cases rchkC r <;> cases rchkD r <;> cases rchkE r <;> simp
  rw [e]
  unfold rchkA rchkB rchkC rchkD rchkE
  simp only [Bool.or_eq_false_iff, Bool.and_eq_false_iff, decide_eq_false_iff_not, bne_eq_false_iff_eq]
  constructor
  · rintro ⟨⟨a1, a2⟩, ⟨b1, b2, b3, b4⟩, ⟨c1, c2⟩, ⟨d1, d2, d3, d4⟩, e1, e2⟩
    rw [w1 _ (by omega) (by omega)] at d3
    refine ⟨⟨by omega, by omega, by omega⟩, by omega, by omega, by omega, by omega, by omega, fun h => ?_, fun h => ?_⟩
    · rcases c1 with c1 | c1
      · omega
      · exact ⟨c1, by omega⟩
    · rcases c2 with c2 | c2
      · omega
      · refine ⟨c2.1, c2.2, by omega, ?_⟩
        rcases e2 with e2 | ⟨e2, e3⟩
        · omega
        · rw [w2 _ (by omega) (by omega)] at e3; omega
  · intro h
    have hv := h.vd
    unfold Vd at hv
    have := h.prot; have := h.fl0; have := h.fl1; have := h.fi0; have := h.fi1
    rw [w1 _ (by omega) (by omega)]
    refine ⟨⟨by omega, by omega⟩, ⟨by omega, by omega, by omega, by omega⟩, ?_, ⟨by omega, by omega, by omega, ?_⟩, ?_⟩
    · by_cases hf : r.file = -1
      · exact ⟨.inr (h.anon hf).1, .inl (by omega)⟩
      · exact ⟨.inl (by omega), .inr ⟨(h.filed hf).1, (h.filed hf).2.1⟩⟩
    · by_cases hf : r.file = -1
      · have := (h.anon hf).2; omega
      · have := (h.filed hf).2.2.1; omega
    · by_cases hf : r.file = -1
      · have := (h.anon hf).2; exact ⟨.inr (by omega), .inl (by omega)⟩
      · have := (h.filed hf).2.2
        refine ⟨.inl (by omega), .inr ⟨by omega, ?_⟩⟩
        rw [w2 _ (by omega) (by omega)]; omega
theorem chk0 {r : Rg} (h : Rok r) : chkR r = 0 := by rw [chk_eq]; exact rok_iff.2 h
theorem rchk0 {r : Rg} (h : Rok r) : rchk r = 0 := rok_iff.2 h
theorem endR_is {r : Rg} (h : Rok r) : endR r = r.start + r.pages := by
  have := h.vd
  unfold Vd at this
  unfold endR
  rw [chk0 h]
  exact wrap_id (by omega) (by omega)
theorem w_end {r : Rg} (h : Rok r) : w64 (r.start + r.pages) = r.start + r.pages := by
  have := h.vd
  unfold Vd at this
  exact wrap_id (by omega) (by omega)
end Go.Proofs.Ytalcipbagidbpaa
end

section
set_option linter.unusedVariables false
namespace Go.Proofs.Ytalcipbagidbpaa
open Go.Proofs
/-- b continues a. -/
structure Mg (a b : Rg) : Prop where
  oka : Rok a
  okb : Rok b
  at_ : a.start + a.pages = b.start
  noG : flagR a 2 = false
  prot : a.prot = b.prot
  flags : a.flags = b.flags
  file : a.file = b.file
  index : a.file = -1 ∨ b.index = a.index + a.pages
theorem Rok.idx {r : Rg} (h : Rok r) : 0 ≤ r.index ∧ r.index ≤ 16 := by
  by_cases hf : r.file = -1
  · have := (h.anon hf).2; omega
  · have := (h.filed hf).2.2; have := h.vd; unfold Vd at this; omega
theorem w_idx {a b : Rg} (h : Rok a) (hb : Rok b) : w64 (a.index + b.pages) = a.index + b.pages := by
  have h1 := h.idx
  have h2 := hb.vd
  unfold Vd at h2
  exact wrap_id (by omega) (by omega)
theorem flag_of {a b : Rg} (h : a.flags = b.flags) (f : Int) : flagR a f = flagR b f := by unfold flagR; rw [h]
theorem bne0 {n : Int} : (n != 0) = true ↔ n ≠ 0 := by simp
theorem bne0f {n : Int} : (n != 0) = false ↔ n = 0 := by simp
theorem rmrg_iff {a b : Rg} : rmrg a b = true ↔ Mg a b := by
  unfold rmrg
  by_cases ha : Rok a
  · by_cases hb : Rok b
    · rw [rchk0 ha, rchk0 hb, w_end ha, w_idx ha ha]
      simp only [bne_self_eq_false, Bool.false_or]
      by_cases h1 : a.start + a.pages = b.start
      · rw [show (a.start + a.pages != b.start) = false by simpa using h1, cond_false]
        by_cases h2 : flagR a 2 = false ∧ a.prot = b.prot ∧ a.flags = b.flags ∧ a.file = b.file
        · obtain ⟨h2, h3, h4, h5⟩ := h2
          rw [h2, h3, h4, h5]
          simp only [bne_self_eq_false, Bool.or_self, cond_false, Bool.or_eq_true, decide_eq_true_eq, beq_iff_eq]
          constructor
          · intro h
            exact ⟨ha, hb, h1, h2, h3, h4, h5, by have := hb.fi0; rcases h with h | h <;> omega⟩
          · intro h
            have := hb.fi0
            rcases h.index with h6 | h6 <;> omega
        · have : (flagR a 2 || (a.prot != b.prot || (a.flags != b.flags || a.file != b.file))) = true := by
            cases h6 : flagR a 2
            · simp only [Bool.false_or, Bool.or_eq_true, bne_iff_ne]
              have := fun x y z => h2 ⟨h6, x, y, z⟩
              by_cases h7 : a.prot = b.prot
              · by_cases h8 : a.flags = b.flags
                · exact .inr (.inr (this h7 h8))
                · exact .inr (.inl h8)
              · exact .inl h7
            · rfl
          rw [this]
          simp only [cond_true, Bool.false_eq_true, false_iff]
          exact fun h => h2 ⟨h.noG, h.prot, h.flags, h.file⟩
      · rw [show (a.start + a.pages != b.start) = true by simpa using h1, cond_true]
        simp only [Bool.false_eq_true, false_iff]
        exact fun h => h1 h.at_
    · have : (rchk b != 0) = true := bne0.2 fun h => hb (rok_iff.1 h)
      rw [this]
      simp only [Bool.true_or, Bool.or_true, cond_true, Bool.false_eq_true, false_iff]
      exact fun h => hb h.okb
  · have : (rchk a != 0) = true := bne0.2 fun h => ha (rok_iff.1 h)
    rw [this]
    simp only [Bool.true_or, cond_true, Bool.false_eq_true, false_iff]
    exact fun h => ha h.oka
theorem mrg_iff {a b : Rg} : mrg a b = true ↔ Mg a b := by
  unfold mrg
  by_cases ha : Rok a
  · by_cases hb : Rok b
    · rw [chk0 ha, chk0 hb, w_end ha, w_idx ha ha, (fl_ok ha.fl0 ha.fl1).2.1, (fl_ok hb.fl0 hb.fl1).2.1]
      simp only [bne_self_eq_false, Bool.false_or, Bool.and_eq_true, Bool.not_eq_true', Bool.or_eq_false_iff]
      constructor
      · rintro ⟨⟨h1, h2⟩, h3⟩
        cases hf : a.file != -1 with
        | true =>
          rw [hf, cond_true, decide_eq_true_eq] at h3
          simp only [Rg.ints, List.cons.injEq, and_true] at h3
          exact ⟨ha, hb, h3.1, h1, h3.2.2.1, h3.2.2.2.1, h3.2.2.2.2.1, .inr h3.2.2.2.2.2.symm⟩
        | false =>
          rw [hf, cond_false, decide_eq_true_eq] at h3
          simp only [Rg.ints, List.cons.injEq, and_true] at h3
          exact ⟨ha, hb, h3.1, h1, h3.2.2.1, h3.2.2.2.1, h3.2.2.2.2.1, .inl (by simpa using hf)⟩
      · intro h
        refine ⟨⟨h.noG, by rw [← flag_of h.flags]; exact h.noG⟩, ?_⟩
        cases hf : a.file != -1 with
        | true =>
          rw [cond_true, decide_eq_true_eq, Rg.ints, h.at_, h.prot, h.flags, h.file]
          rcases h.index with h6 | h6
          · rw [h6] at hf; cases hf
          · rw [h6]
        | false =>
          have hf : a.file = -1 := by simpa using hf
          rw [cond_false, decide_eq_true_eq, Rg.ints, h.at_, h.prot, h.flags, h.file, (ha.anon hf).2, (hb.anon (h.file ▸ hf)).2]
    · have : (chkR b != 0) = true := by rw [chk_eq]; exact bne0.2 fun h => hb (rok_iff.1 h)
      rw [this]
      simp only [Bool.true_or, Bool.or_true, Bool.not_true, Bool.false_and, Bool.false_eq_true, false_iff]
      exact fun h => hb h.okb
  · have : (chkR a != 0) = true := by rw [chk_eq]; exact bne0.2 fun h => ha (rok_iff.1 h)
    rw [this]
    simp only [Bool.true_or, Bool.not_true, Bool.false_and, Bool.false_eq_true, false_iff]
    exact fun h => ha h.oka
theorem mrg_eq (a b : Rg) : mrg a b = rmrg a b := by rw [Bool.eq_iff_iff, mrg_iff, rmrg_iff]
theorem mergeR_eq (a b : Rg) : mergeR a b = rmerge a b := by unfold mergeR rmerge; rw [chk_eq, chk_eq, mrg_eq]
/-- What the merging makes. -/
def mgR (a b : Rg) : Rg := { a with pages := a.pages + b.pages }
theorem rmerge_yes {a b : Rg} (h : Mg a b) : rmerge a b = (mgR a b, 0) := by
  unfold rmerge
  rw [rchk0 h.oka, rchk0 h.okb, rmrg_iff.2 h]
  have h1 := h.oka.vd
  have h2 := h.okb.vd
  unfold Vd at h1 h2
  simp only [bne_self_eq_false, cond_false, Bool.not_true, mgR]
  rw [show w64 (a.pages + b.pages) = a.pages + b.pages from wrap_id (by omega) (by omega)]
theorem rmerge_zero {a b : Rg} : ((rmerge a b).2 == 0) = rmrg a b := by
  cases h : rmrg a b with
  | true => rw [rmerge_yes (rmrg_iff.1 h)]; rfl
  | false =>
    unfold rmerge
    rw [h]
    cases h1 : rchk a != 0 with
    | true => have := bne0.1 h1; simpa using this
    | false =>
      cases h2 : rchk b != 0 with
      | true => have := bne0.1 h2; simpa using this
      | false => rfl
theorem nrmS_eq (out : List Rg) (x : Rg) : nrmS out x = rnS out x := by
  unfold nrmS rnS
  rw [mergeR_eq, rmerge_zero]
  cases decide ((out.length : Int) > 0) <;> rfl
theorem nrmL_eq (l : List Rg) : nrmL l = rnrm l := by
  unfold nrmL rnrm
  rw [show nrmS = rnS from funext fun a => funext fun b => nrmS_eq a b]
theorem ac1_eq : ∀ l : List Rg, ac1 l = rc1 l
  | [] => rfl
  | r :: rs => by rw [ac1, rc1, chk_eq, ac1_eq rs]
theorem ac2_eq : ∀ l : List Rg, ac2 l = rc2 l
  | [] => rfl
  | [a] => rfl
  | a :: b :: rs => by rw [ac2, rc2, mrg_eq, ac2_eq (b :: rs)]
theorem acF_eq {t : Tr} (hs : t.sz ≤ BIG) : acF t = rcF t := by
  unfold acF rcF
  rw [checkF_eq hs, listF_eq hs, ac1_eq, ac2_eq]
/-! ### Lists that are as they should be -/
def LOK (l : List Rg) : Prop := (∀ r ∈ l, Rok r) ∧ l.Pairwise Bef
theorem LOK.ord {l : List Rg} (h : LOK l) : Ord l := ⟨fun r hr => (h.1 r hr).vd, h.2⟩
/-- No neighbours that can be merged. -/
def NM (l : List Rg) : Prop := rc2 l = false
theorem rc1_iff : ∀ {l : List Rg}, rc1 l = 0 ↔ ∀ r ∈ l, Rok r
  | [] => by simp [rc1]
  | r :: rs => by
    rw [rc1]
    by_cases h : rchk r = 0
    · rw [h]
      simp only [bne_self_eq_false, cond_false, rc1_iff, List.mem_cons, forall_eq_or_imp]
      exact ⟨fun h2 => ⟨rok_iff.1 h, h2⟩, fun h2 => h2.2⟩
    · rw [bne0.2 h, cond_true]
      simp only [h, List.mem_cons, forall_eq_or_imp, false_iff]
      exact fun h2 => h (rok_iff.2 h2.1)
/-- What a valid address space is. -/
structure Sok (t : Tr) : Prop where
  good : Good t
  lok : LOK (lst t)
  nm : NM (lst t)
  few : (lst t).length ≤ 12
theorem rcF_iff {t : Tr} (hs : t.sz ≤ BIG) : rcF t = 0 ↔ Sok t := by
  unfold rcF
  by_cases h : rcheckF t = 0
  · have hc := (checkF_iff hs).1 (by rw [checkF_eq hs]; exact h)
    have e : rlistF t = lst t := by unfold rlistF; rw [h]; rfl
    rw [h, e]
    simp only [bne_self_eq_false, cond_false]
    by_cases h1 : rc1 (lst t) = 0
    · rw [h1]
      simp only [bne_self_eq_false, cond_false]
      cases h2 : rc2 (lst t) with
      | true =>
        simp only [cond_true]
        exact ⟨(fun h => by cases h), fun h => by have := h.nm; unfold NM at this; rw [h2] at this; cases this⟩
      | false =>
        rw [cond_false]
        by_cases h3 : ((lst t).length : Int) > 12
        · rw [dT h3]
          exact ⟨(fun h => by cases h), fun h => by have := h.few; omega⟩
        · rw [dF h3]
          exact ⟨fun _ => ⟨hc.1, ⟨rc1_iff.1 h1, hc.2.2⟩, h2, by omega⟩, fun _ => rfl⟩
    · rw [bne0.2 h1, cond_true]
      exact ⟨fun h => absurd h h1, fun h => absurd (rc1_iff.2 h.lok.1) h1⟩
  · rw [bne0.2 h, cond_true]
    exact ⟨fun h2 => absurd h2 h, fun h2 => absurd ((checkF_eq hs).symm.trans ((checkF_iff hs).2 ⟨h2.good, h2.lok.ord⟩)) h⟩
theorem rls_sok {t : Tr} (hs : t.sz ≤ BIG) (h : Sok t) : rlsF t = lst t := by
  have h1 := (rcF_iff hs).2 h
  have h2 : rcheckF t = 0 := (checkF_eq hs).symm.trans ((checkF_iff hs).2 ⟨h.good, h.lok.ord⟩)
  unfold rlsF rlistF
  rw [h1, h2]; rfl
theorem list_sok {t : Tr} (hs : t.sz ≤ BIG) (h : Sok t) : listF t = lst t := by
  have h2 : checkF t = 0 := (checkF_iff hs).2 ⟨h.good, h.lok.ord⟩
  unfold listF
  rw [h2]; rfl
/-! ### Merging a list -/
theorem mg_ok {a b : Rg} (h : Mg a b) : Rok (mgR a b) := by
  have h1 := h.oka.vd
  have h2 := h.okb.vd
  unfold Vd at h1 h2
  have := h.at_
  refine ⟨⟨h1.1, ?_, ?_⟩, h.oka.prot, h.oka.fl0, h.oka.fl1, h.oka.fi0, h.oka.fi1, fun hf => h.oka.anon hf, fun hf => ?_⟩
  · show 1 ≤ a.pages + b.pages; omega
  · show a.start + (a.pages + b.pages) ≤ 512; omega
  · obtain ⟨f1, f2, f3, f4⟩ := h.oka.filed hf
    refine ⟨f1, f2, f3, ?_⟩
    have := (h.okb.filed (h.file ▸ hf)).2.2.2
    show a.index + (a.pages + b.pages) ≤ 16
    rcases h.index with h6 | h6
    · exact absurd h6 hf
    · omega
/-- One step, by the last region. -/
theorem rnS_nil (x : Rg) : rnS [] x = [x] := rfl
theorem atR_last (out : List Rg) (y : Rg) : atR (out ++ [y]) ((out ++ [y]).length - 1) = y := by
  simp [atR, List.getD_eq_getElem?_getD]
theorem rnS_snoc (out : List Rg) (y x : Rg) : rnS (out ++ [y]) x = bif rmrg y x then out ++ [(rmerge y x).1] else out ++ [y, x] := by
  unfold rnS
  rw [atR_last, dT (show (((out ++ [y]).length : Int)) > 0 by simp), Bool.true_and]
  cases rmrg y x with
  | true => simp [List.set_append_right]
  | false => simp
theorem snoc_cases {α : Type} (l : List α) : l = [] ∨ ∃ a x, l = a ++ [x] := by
  rcases List.eq_nil_or_concat l with h | ⟨a, x, h⟩
  · exact .inl h
  · exact .inr ⟨a, x, by rw [h]; simp⟩
theorem LOK.step {out xs : List Rg} {x : Rg} (h : LOK (out ++ x :: xs)) : LOK (rnS out x ++ xs) := by
  rcases snoc_cases out with rfl | ⟨a, y, rfl⟩
  · rw [rnS_nil]; simpa using h
  · rw [rnS_snoc]
    cases hm : rmrg y x with
    | false => simpa using h
    | true =>
      have hg := rmrg_iff.1 hm
      rw [cond_true, rmerge_yes hg]
      obtain ⟨h1, h2⟩ := h
      have h2' := h2
      simp only [List.append_assoc, List.cons_append, List.nil_append] at h1 h2
      rw [List.pairwise_append] at h2
      obtain ⟨p1, p2, p3⟩ := h2
      rw [List.pairwise_cons, List.pairwise_cons] at p2
      obtain ⟨q1, q2, q3⟩ := p2
      refine ⟨fun r hr => ?_, ?_⟩
      · simp only [List.append_assoc, List.cons_append, List.nil_append, List.mem_append, List.mem_cons] at hr
        rcases hr with hr | rfl | hr
        · exact h1 r (by simp [hr])
        · exact mg_ok hg
        · exact h1 r (by simp [hr])
      · simp only [List.append_assoc, List.cons_append, List.nil_append]
        rw [List.pairwise_append, List.pairwise_cons]
        refine ⟨p1, ⟨fun z hz => ?_, q3⟩, fun z hz w hw => ?_⟩
        · have := q2 z hz
          have := hg.at_
          unfold Bef at *
          show y.start + (y.pages + x.pages) ≤ z.start
          omega
        · rcases List.mem_cons.1 hw with rfl | hw
          · have := p3 z hz y (by simp)
            exact this
          · exact p3 z hz w (by simp [hw])
theorem LOK.nrm_aux : ∀ (l out : List Rg), LOK (out ++ l) → LOK (l.foldl rnS out)
  | [], out, h => by simpa using h
  | x :: xs, out, h => by rw [List.foldl_cons]; exact nrm_aux xs _ h.step
theorem LOK.nrm {l : List Rg} (h : LOK l) : LOK (rnrm l) := LOK.nrm_aux l [] h
theorem rc2_snoc : ∀ (out : List Rg) (y x : Rg), rc2 (out ++ [y, x]) = (rc2 (out ++ [y]) || rmrg y x)
  | [], y, x => by simp [rc2]
  | [a], y, x => by
    simp only [List.cons_append, List.nil_append, rc2]
    cases rmrg a y <;> cases rmrg y x <;> rfl
  | a :: b :: out, y, x => by
    have ih := rc2_snoc (b :: out) y x
    simp only [List.cons_append] at ih ⊢
    rw [rc2, rc2, ih]
    cases rmrg a b <;> rfl
theorem Mg.lft {p a b : Rg} (hg : Mg a b) (h : Mg p (mgR a b)) : Mg p a :=
  ⟨h.oka, hg.oka, h.at_, h.noG, h.prot, h.flags, h.file, h.index⟩
theorem NM.step {out : List Rg} {x : Rg} (h : NM out) : NM (rnS out x) := by
  rcases snoc_cases out with rfl | ⟨a, y, rfl⟩
  · rfl
  · rw [rnS_snoc]
    unfold NM at *
    cases hm : rmrg y x with
    | false => rw [cond_false, rc2_snoc, h, hm]; rfl
    | true =>
      have hg := rmrg_iff.1 hm
      rw [cond_true, rmerge_yes hg]
      rcases snoc_cases a with rfl | ⟨b, z, rfl⟩
      · rfl
      · rw [List.append_assoc] at h ⊢
        show rc2 (b ++ [z, mgR y x]) = false
        have h : rc2 (b ++ [z, y]) = false := h
        rw [rc2_snoc] at h ⊢
        simp only [Bool.or_eq_false_iff] at h ⊢
        refine ⟨h.1, ?_⟩
        cases hz : rmrg z (mgR y x) with
        | false => rfl
        | true => rw [rmrg_iff.2 (hg.lft (rmrg_iff.1 hz))] at h; cases h.2
theorem NM.nrm_aux : ∀ (l out : List Rg), NM out → NM (l.foldl rnS out)
  | [], out, h => h
  | x :: xs, out, h => by rw [List.foldl_cons]; exact nrm_aux xs _ h.step
theorem NM.nrm (l : List Rg) : NM (rnrm l) := NM.nrm_aux l [] rfl
/-- A merged list that is in order already. -/
theorem nrm_id_aux : ∀ (l out : List Rg), NM (out ++ l) → l.foldl rnS out = out ++ l
  | [], out, _ => by simp
  | x :: xs, out, h => by
    rw [List.foldl_cons]
    have e : rnS out x = out ++ [x] := by
      rcases snoc_cases out with rfl | ⟨a, y, rfl⟩
      · rfl
      · rw [rnS_snoc]
        have : rmrg y x = false := by
          have key : ∀ (a : List Rg), rc2 (a ++ y :: x :: xs) = false → rmrg y x = false := by
            intro a
            induction a with
            | nil => intro h; rw [List.nil_append, rc2] at h; cases hm : rmrg y x <;> rw [hm] at h <;> first | rfl | cases h
            | cons b a ih =>
              intro h
              refine ih ?_
              cases a with
              | nil => simp only [List.cons_append, List.nil_append] at h ⊢; rw [rc2] at h; cases hm : rmrg b y <;> rw [hm] at h <;> first | exact h | cases h
              | cons c a => simp only [List.cons_append] at h ⊢; rw [rc2] at h; cases hm : rmrg b c <;> rw [hm] at h <;> first | exact h | cases h
          exact key a (by have := h; unfold NM at this; simpa using this)
        rw [this]; simp
    rw [e, nrm_id_aux xs _ (by simpa using h)]
    simp
theorem nrm_id {l : List Rg} (h : NM l) : rnrm l = l := nrm_id_aux l [] h
/-! ### Building an address space -/
theorem abuild_eq {l : List Rg} (hs : l.length ≤ BIG) (h : LOK l) : abuildF (rnrm l) = rtreeF l := by
  have ho := h.nrm.ord
  have hl : (rnrm l).length ≤ BIG := Nat.le_trans (rnrm_len l) hs
  unfold abuildF rtreeF
  rw [buildF_eq ho, rbuildF_eq hl ho]
end Go.Proofs.Ytalcipbagidbpaa
end

section
set_option linter.unusedVariables false
namespace Go.Proofs.Ytalcipbagidbpaa
open Go.Proofs
/-! ### Split -/
def clr (r : Rg) : Int := bif flagR r 2 then r.flags - 2 else r.flags
def loR (r : Rg) (q : Int) : Rg := { r with pages := q - r.start }
def hiR (r : Rg) (q : Int) : Rg := { r with start := q, pages := r.start + r.pages - q, flags := clr r, index := bif decide (r.file ≥ 0) then r.index + (q - r.start) else r.index }
theorem clr_tab : ∀ n : Nat, n < 16 → (let r : Rg := ⟨0, 0, 0, (n : Int), 0, 0⟩; 0 ≤ clr r ∧ clr r ≤ 15 ∧ w64 (r.flags - 2) = r.flags - 2 ∧
    flagR { r with flags := clr r } 1 = flagR r 1 ∧ flagR { r with flags := clr r } 4 = flagR r 4 ∧ flagR { r with flags := clr r } 8 = flagR r 8 ∧ flagR { r with flags := clr r } 2 = false) := by decide +kernel
theorem clr_ok {r : Rg} (h0 : 0 ≤ r.flags) (h1 : r.flags ≤ 15) : 0 ≤ clr r ∧ clr r ≤ 15 ∧ w64 (r.flags - 2) = r.flags - 2 ∧
    flagR { r with flags := clr r } 1 = flagR r 1 ∧ flagR { r with flags := clr r } 4 = flagR r 4 ∧ flagR { r with flags := clr r } 8 = flagR r 8 ∧ flagR { r with flags := clr r } 2 = false := by
  have := clr_tab r.flags.toNat (by omega)
  rw [show ((r.flags.toNat : Nat) : Int) = r.flags by omega] at this
  exact this
theorem w_small {n : Int} (h1 : -100000 ≤ n) (h2 : n ≤ 100000) : w64 n = n := wrap_id (by omega) (by omega)
theorem splitH_is {r : Rg} (h : Rok r) {q : Int} (h1 : r.start < q) (h2 : q < r.start + r.pages) : splitH r q = hiR r q := by
  have hv := h.vd
  unfold Vd at hv
  have hi := h.idx
  have hf := h.fi0
  have e : (r.file != -1) = decide (r.file ≥ 0) := by rw [Bool.eq_iff_iff]; simp; omega
  unfold splitH hiR
  rw [(fl_ok2 h.fl0 h.fl1).1, e, w_small (n := q - r.start) (by omega) (by omega), w_small (n := r.pages - (q - r.start)) (by omega) (by omega), w_small (n := r.index + (q - r.start)) (by omega) (by omega), (clr_ok h.fl0 h.fl1).2.2.1]
  simp only [Rg.mk.injEq, true_and, clr, and_self, and_true]
  omega
theorem rsplH_is {r : Rg} (h : Rok r) {q : Int} (h1 : r.start < q) (h2 : q < r.start + r.pages) : rsplH r q = hiR r q := by
  have hv := h.vd
  unfold Vd at hv
  have hi := h.idx
  unfold rsplH hiR
  rw [w_small (n := q - r.start) (by omega) (by omega), w_small (n := r.pages - (q - r.start)) (by omega) (by omega), w_small (n := r.index + (q - r.start)) (by omega) (by omega), (clr_ok h.fl0 h.fl1).2.2.1]
  simp only [Rg.mk.injEq, true_and, clr, and_self, and_true]
  omega
structure SplR (r : Rg) (q : Int) : Prop where
  e : splitE r q = 0
  l : split1 r q = loR r q
  h : split2 r q = hiR r q
  re : rsplE r q = 0
  rl : rspl1 r q = loR r q
  rh : rspl2 r q = hiR r q
theorem spl_in {r : Rg} (h : Rok r) {q : Int} (h1 : r.start < q) (h2 : q < r.start + r.pages) : SplR r q := by
  have hv := h.vd
  unfold Vd at hv
  have hk : splitOK r q = true := by
    unfold splitOK
    rw [endR_is h, dF (by omega), dF (by omega)]; rfl
  have hN : rsplN r q = false := by
    unfold rsplN
    rw [w_end h, dF (by omega), dF (by omega)]; rfl
  have hK : splitK r q = true := by unfold splitK; rw [chk0 h, hk]; rfl
  have hw : w64 (q - r.start) = q - r.start := w_small (by omega) (by omega)
  refine ⟨?_, ?_, ?_, ?_, ?_, ?_⟩
  · unfold splitE; rw [chk0 h, hk]; rfl
  · unfold split1 splitL; rw [hK, hw]; rfl
  · unfold split2; rw [hK, splitH_is h h1 h2]; rfl
  · unfold rsplE; rw [rchk0 h, hN]; rfl
  · unfold rspl1 rsplL; rw [rchk0 h, hN, hw]; rfl
  · unfold rspl2; rw [rchk0 h, hN, rsplH_is h h1 h2]; rfl
theorem spl_out {r : Rg} (h : Rok r) {q : Int} (h1 : ¬ (r.start < q ∧ q < r.start + r.pages)) : splitE r q = 2 := by
  have hk : splitOK r q = false := by
    unfold splitOK
    rw [endR_is h]
    by_cases h2 : q ≤ r.start
    · rw [dT h2]; rfl
    · rw [dT (show q ≥ r.start + r.pages by omega), Bool.or_true]; rfl
  unfold splitE
  rw [chk0 h, hk]; rfl
theorem lo_ok {r : Rg} (h : Rok r) {q : Int} (h1 : r.start < q) (h2 : q < r.start + r.pages) : Rok (loR r q) := by
  have hv := h.vd
  unfold Vd at hv
  refine ⟨⟨hv.1, by show 1 ≤ q - r.start; omega, by show r.start + (q - r.start) ≤ 512; omega⟩, h.prot, h.fl0, h.fl1, h.fi0, h.fi1, h.anon, fun hf => ?_⟩
  obtain ⟨a, b, c, d⟩ := h.filed hf
  exact ⟨a, b, c, by show r.index + (q - r.start) ≤ 16; omega⟩
theorem hi_ok {r : Rg} (h : Rok r) {q : Int} (h1 : r.start < q) (h2 : q < r.start + r.pages) : Rok (hiR r q) := by
  have hv := h.vd
  unfold Vd at hv
  obtain ⟨c0, c1, _, d1, d4, d8, d2⟩ := clr_ok h.fl0 h.fl1
  have hf0 := h.fi0
  refine ⟨⟨by show 0 ≤ q; omega, by show 1 ≤ r.start + r.pages - q; omega, by show q + (r.start + r.pages - q) ≤ 512; omega⟩, h.prot, c0, c1, h.fi0, h.fi1, fun hf => ?_, fun hf => ?_⟩
  · have hf : r.file = -1 := hf
    obtain ⟨a, b⟩ := h.anon hf
    refine ⟨d1.trans a, ?_⟩
    show (bif decide (r.file ≥ 0) then r.index + (q - r.start) else r.index) = 0
    rw [dF (by omega)]; exact b
  · have hf : r.file ≠ -1 := hf
    obtain ⟨a, b, c, d⟩ := h.filed hf
    have e : (hiR r q).index = r.index + (q - r.start) := by
      show (bif decide (r.file ≥ 0) then r.index + (q - r.start) else r.index) = _
      rw [dT (show r.file ≥ 0 by omega)]; rfl
    refine ⟨d2, d8.trans b, ?_, ?_⟩
    · rw [e]; omega
    · rw [e]; show r.index + (q - r.start) + (r.start + r.pages - q) ≤ 16; omega
/-! ### Parts of a region -/
/-- Parts of r, in order. -/
structure Prt (r : Rg) (xs : List Rg) : Prop where
  ok : ∀ x ∈ xs, Rok x
  lo : ∀ x ∈ xs, r.start ≤ x.start
  hi : ∀ x ∈ xs, x.start + x.pages ≤ r.start + r.pages
  pw : xs.Pairwise Bef
theorem LOK.flat {f : Rg → List Rg} : ∀ {l : List Rg}, LOK l → (∀ r ∈ l, Prt r (f r)) → LOK (l.flatMap f)
  | [], _, _ => ⟨fun r hr => by simp at hr, by simp⟩
  | a :: l, h, hf => by
    have ha := hf a (by simp)
    have ih := LOK.flat (l := l) ⟨fun r hr => h.1 r (by simp [hr]), (List.pairwise_cons.1 h.2).2⟩ fun r hr => hf r (by simp [hr])
    refine ⟨fun x hx => ?_, ?_⟩
    · rw [List.flatMap_cons, List.mem_append] at hx
      rcases hx with hx | hx
      · exact ha.ok x hx
      · exact ih.1 x hx
    · rw [List.flatMap_cons, List.pairwise_append]
      refine ⟨ha.pw, ih.2, fun x hx y hy => ?_⟩
      obtain ⟨b, hb, hy⟩ := List.mem_flatMap.1 hy
      have h1 := ha.hi x hx
      have h2 := (hf b (by simp [hb])).lo y hy
      have h3 := (List.pairwise_cons.1 h.2).1 b hb
      unfold Bef at *
      omega
theorem Prt.one {r : Rg} (h : Rok r) : Prt r [r] := ⟨by simp [h], by simp, by simp, by simp⟩
/-! ### Cut -/
/-- Within the address space. -/
def Rin (p c : Int) : Prop := 0 ≤ p ∧ 1 ≤ c ∧ p + c ≤ 512
def cutS (r : Rg) (p c : Int) : List Rg :=
  bif decide (p ≥ r.start + r.pages) || decide (p + c ≤ r.start) then [r] else (bif decide (p > r.start) then [loR r p] else []) ++ (bif decide (p + c < r.start + r.pages) then [hiR r (p + c)] else [])
theorem cutL_is {r : Rg} (h : Rok r) {p c : Int} (hr : Rin p c) : cutL r p c = cutS r p c := by
  have hv := h.vd
  unfold Vd at hv
  unfold Rin at hr
  have wp : w64 (p + c) = p + c := w_small (by omega) (by omega)
  have hA : cutA p c = false := by
    unfold cutA
    rw [w_small (n := 512 - p) (by omega) (by omega), dF (by omega), dF (by omega), dF (by omega)]; rfl
  unfold cutL cutS cutO
  rw [chk0 h, hA, dF (show ¬ c < 1 by omega), endR_is h, wp]
  simp only [bne_self_eq_false, cond_false]
  cases ho : decide (p ≥ r.start + r.pages) || decide (p + c ≤ r.start) with
  | true => rfl
  | false =>
    simp only [Bool.or_eq_false_iff, decide_eq_false_iff_not] at ho
    rw [cond_false, cond_false]
    congr 1
    · by_cases c1 : r.start < p
      · have s := spl_in h c1 (by omega)
        rw [s.e, s.l, dT (show p > r.start by omega)]; rfl
      · rw [spl_out h (by omega), dF (show ¬ p > r.start by omega)]; rfl
    · by_cases c1 : p + c < r.start + r.pages
      · have s := spl_in h (q := p + c) (by omega) c1
        rw [s.e, s.h, dT c1]; rfl
      · rw [spl_out h (by omega), dF c1]; rfl
theorem rcutL_is {r : Rg} (h : Rok r) {p c : Int} (hr : Rin p c) : rcutL r p c = cutS r p c := by
  have hv := h.vd
  unfold Vd at hv
  unfold Rin at hr
  have wp : w64 (p + c) = p + c := w_small (by omega) (by omega)
  have hA : rcutA p c = false := by
    unfold rcutA
    rw [w_small (n := 512 - c) (by omega) (by omega), dF (by omega), dF (by omega), dF (by omega)]; rfl
  unfold rcutL cutS rcutO
  rw [rchk0 h, hA, dF (show ¬ c < 1 by omega), w_end h, wp]
  simp only [bne_self_eq_false, cond_false]
  cases ho : decide (p ≥ r.start + r.pages) || decide (p + c ≤ r.start) with
  | true => rfl
  | false =>
    simp only [Bool.or_eq_false_iff, decide_eq_false_iff_not] at ho
    rw [cond_false, cond_false]
    congr 1
    · by_cases c1 : r.start < p
      · have s := spl_in h c1 (by omega)
        rw [s.rl, dT (show p > r.start by omega)]
      · rw [dF (show ¬ p > r.start by omega)]; rfl
    · by_cases c1 : p + c < r.start + r.pages
      · have s := spl_in h (q := p + c) (by omega) c1
        rw [s.rh, dT c1]
      · rw [dF c1]; rfl
theorem cutS_prt {r : Rg} (h : Rok r) {p c : Int} (hr : Rin p c) : Prt r (cutS r p c) := by
  have hv := h.vd
  unfold Vd at hv
  unfold Rin at hr
  unfold cutS
  cases ho : decide (p ≥ r.start + r.pages) || decide (p + c ≤ r.start) with
  | true => exact .one h
  | false =>
    simp only [Bool.or_eq_false_iff, decide_eq_false_iff_not] at ho
    rw [cond_false]
    have key : ∀ x, x ∈ (bif decide (p > r.start) then [loR r p] else []) → x = loR r p ∧ r.start < p := by
      intro x hx
      by_cases c1 : p > r.start
      · rw [dT c1] at hx; exact ⟨by simpa using hx, by omega⟩
      · rw [dF c1] at hx; simp at hx
    have key2 : ∀ x, x ∈ (bif decide (p + c < r.start + r.pages) then [hiR r (p + c)] else []) → x = hiR r (p + c) ∧ p + c < r.start + r.pages := by
      intro x hx
      by_cases c1 : p + c < r.start + r.pages
      · rw [dT c1] at hx; exact ⟨by simpa using hx, by omega⟩
      · rw [dF c1] at hx; simp at hx
    refine ⟨fun x hx => ?_, fun x hx => ?_, fun x hx => ?_, ?_⟩
    · rcases List.mem_append.1 hx with hx | hx
      · obtain ⟨rfl, c1⟩ := key x hx; exact lo_ok h c1 (by omega)
      · obtain ⟨rfl, c1⟩ := key2 x hx; exact hi_ok h (by omega) c1
    · rcases List.mem_append.1 hx with hx | hx
      · obtain ⟨rfl, c1⟩ := key x hx; exact Int.le_refl _
      · obtain ⟨rfl, c1⟩ := key2 x hx; show r.start ≤ p + c; omega
    · rcases List.mem_append.1 hx with hx | hx
      · obtain ⟨rfl, c1⟩ := key x hx; show r.start + (p - r.start) ≤ _; omega
      · obtain ⟨rfl, c1⟩ := key2 x hx; show p + c + (r.start + r.pages - (p + c)) ≤ _; omega
    · rw [List.pairwise_append]
      refine ⟨by cases decide (p > r.start) <;> simp, by cases decide (p + c < r.start + r.pages) <;> simp, fun x hx y hy => ?_⟩
      obtain ⟨rfl, c1⟩ := key x hx
      obtain ⟨rfl, c2⟩ := key2 y hy
      show r.start + (p - r.start) ≤ p + c
      omega
/-! ### Overlap -/
theorem rhas_iff {b : Rg} {q : Int} : rhas b q = true ↔ Rok b ∧ b.start ≤ q ∧ q < b.start + b.pages := by
  unfold rhas
  by_cases h : Rok b
  · rw [rchk0 h, w_end h]
    simp [h]
  · have : (rchk b == 0) = false := by simpa using fun e => h (rok_iff.1 e)
    rw [this]
    simp [h]
theorem rovN_iff {b : Rg} : ∀ (n : Nat) (p : Int), rovN b n p = true ↔ ∃ i : Nat, i < n ∧ rhas b (p + i) = true
  | 0, p => by simp [rovN]
  | n + 1, p => by
    rw [rovN]
    cases h : rhas b p with
    | true => simp only [cond_true, true_iff]; exact ⟨0, by omega, by simpa using h⟩
    | false =>
      rw [cond_false, rovN_iff n (p + 1)]
      constructor
      · rintro ⟨i, h1, h2⟩
        exact ⟨i + 1, by omega, by rw [show p + ((i + 1 : Nat) : Int) = p + 1 + i by omega]; exact h2⟩
      · rintro ⟨i, h1, h2⟩
        rcases i with _ | i
        · rw [show p + ((0 : Nat) : Int) = p by omega, h] at h2; cases h2
        · exact ⟨i, by omega, by rw [show p + 1 + (i : Int) = p + ((i + 1 : Nat) : Int) by omega]; exact h2⟩
/-- They have a page in common. -/
def Ov (a b : Rg) : Prop := a.start < b.start + b.pages ∧ b.start < a.start + a.pages
theorem rovF_iff {a b : Rg} : rovF a b = true ↔ Rok a ∧ Rok b ∧ Ov a b := by
  unfold rovF
  by_cases ha : Rok a
  · by_cases hb : Rok b
    · rw [rchk0 ha, rchk0 hb]
      simp only [bne_self_eq_false, cond_false]
      rw [rovN_iff]
      have h1 := ha.vd
      have h2 := hb.vd
      unfold Vd at h1 h2
      unfold Ov
      constructor
      · rintro ⟨i, hi, hh⟩
        have := (rhas_iff.1 hh).2
        exact ⟨ha, hb, by omega, by omega⟩
      · rintro ⟨_, _, h3, h4⟩
        by_cases c : a.start ≤ b.start
        · exact ⟨(b.start - a.start).toNat, by omega, rhas_iff.2 ⟨hb, by omega, by omega⟩⟩
        · exact ⟨0, by omega, rhas_iff.2 ⟨hb, by omega, by omega⟩⟩
    · rw [rchk0 ha, bne0.2 fun e => hb (rok_iff.1 e)]
      simp [hb]
  · rw [bne0.2 fun e => ha (rok_iff.1 e)]
    simp [ha]
theorem ovl_iff {a b : Rg} : ovl a b = true ↔ Rok a ∧ Rok b ∧ Ov a b := by
  unfold ovl
  by_cases ha : Rok a
  · by_cases hb : Rok b
    · rw [chk0 ha, chk0 hb, endR_is ha, endR_is hb]
      simp [ha, hb, Ov]
    · have : (chkR b == 0) = false := by rw [chk_eq]; simpa using fun e => hb (rok_iff.1 e)
      rw [this]; simp [hb]
  · have : (chkR a == 0) = false := by rw [chk_eq]; simpa using fun e => ha (rok_iff.1 e)
    rw [this]; simp [ha]
theorem ovl_eq (a b : Rg) : ovl a b = rovF a b := by rw [Bool.eq_iff_iff, ovl_iff, rovF_iff]
theorem mpO_eq (r : Rg) : ∀ l : List Rg, mpO r l = rmO r l
  | [] => rfl
  | x :: xs => by rw [mpO, rmO, ovl_eq, mpO_eq r xs]
theorem rmO_iff {r : Rg} (hr : Rok r) : ∀ {l : List Rg}, LOK l → (rmO r l = true ↔ ∃ x ∈ l, Ov x r)
  | [], _ => by simp [rmO]
  | x :: xs, h => by
    rw [rmO]
    have hx := h.1 x (by simp)
    have ih := rmO_iff hr (l := xs) ⟨fun y hy => h.1 y (by simp [hy]), (List.pairwise_cons.1 h.2).2⟩
    cases ho : rovF x r with
    | true => simp only [cond_true, List.mem_cons, exists_eq_or_imp, true_iff]; exact .inl (rovF_iff.1 ho).2.2
    | false =>
      rw [cond_false, ih]
      simp only [List.mem_cons, exists_eq_or_imp]
      constructor
      · exact fun h => .inr h
      · rintro (h1 | h1)
        · rw [rovF_iff.2 ⟨hx, hr, h1⟩] at ho; cases ho
        · exact h1
/-! ### Insertion into a list -/
def ins (r : Rg) : List Rg → List Rg
  | [] => [r]
  | x :: xs => bif decide (r.start < x.start) then r :: x :: xs else x :: ins r xs
theorem rmL_true (r : Rg) : ∀ (l out : List Rg), rmL r l true out = out ++ l
  | [], out => by simp [rmL]
  | x :: xs, out => by
    rw [rmL, show rmD r true x = true from rfl, rmL_true r xs]
    show (out ++ [x]) ++ xs = _
    simp
theorem rmL_false (r : Rg) : ∀ (l out : List Rg), rmL r l false out = out ++ ins r l
  | [], out => rfl
  | x :: xs, out => by
    rw [rmL, ins]
    by_cases c : r.start < x.start
    · have e1 : rmD r false x = true := by unfold rmD; rw [dT c]; rfl
      have e2 : rmI r false x out = (out ++ [r]) ++ [x] := by unfold rmI; rw [dT c]; rfl
      rw [e1, e2, rmL_true, dT c]; simp
    · have e1 : rmD r false x = false := by unfold rmD; rw [dF c]; rfl
      have e2 : rmI r false x out = out ++ [x] := by unfold rmI; rw [dF c]; rfl
      rw [e1, e2, rmL_false r xs, dF c]; simp
theorem mpA_none (r : Rg) : ∀ (l : List Rg) (i a : Nat), (∀ x ∈ l, ¬ x.start < r.start) → mpA r l i a = a
  | [], i, a, _ => rfl
  | x :: xs, i, a, h => by
    rw [mpA, dF (h x (by simp)), cond_false]
    exact mpA_none r xs (i + 1) a fun y hy => h y (by simp [hy])
theorem mpA_add (r : Rg) : ∀ (l : List Rg) (i : Nat), mpA r l (i + 1) (i + 1) = mpA r l i i + 1
  | [], i => rfl
  | x :: xs, i => by
    rw [mpA, mpA]
    by_cases c : x.start < r.start
    · rw [dT c, cond_true, cond_true]; exact mpA_add r xs (i + 1)
    · rw [dF c, cond_false, cond_false]
      have key : ∀ (l : List Rg) (i a : Nat), mpA r l (i + 1) (a + 1) = mpA r l i a + 1 := by
        intro l
        induction l with
        | nil => intro i a; rfl
        | cons y ys ih =>
          intro i a
          rw [mpA, mpA]
          cases decide (y.start < r.start)
          · exact ih (i + 1) a
          · exact ih (i + 1) (i + 1)
      exact key xs (i + 1) i
theorem insL_is {r : Rg} : ∀ {l : List Rg}, LOK l → (∀ x ∈ l, ¬ Ov x r) → Rok r → insL l r = ins r l
  | [], _, _, _ => rfl
  | x :: xs, h, ho, hr => by
    have hx := h.1 x (by simp)
    have ih := insL_is (l := xs) ⟨fun y hy => h.1 y (by simp [hy]), (List.pairwise_cons.1 h.2).2⟩ (fun y hy => ho y (by simp [hy])) hr
    have hno := ho x (by simp)
    have h1 := hx.vd
    have h2 := hr.vd
    unfold Vd at h1 h2
    unfold Ov at hno
    unfold insL mapAt at ih ⊢
    rw [ins, mpA]
    by_cases c : r.start < x.start
    · rw [dT c, dF (show ¬ x.start < r.start by omega), cond_true, cond_false, mpA_none r xs 1 0 fun y hy => by
        have := (List.pairwise_cons.1 h.2).1 y hy
        unfold Bef at this; omega]
      rfl
    · rw [dF c, dT (show x.start < r.start by omega), cond_true, cond_false, mpA_add]
      rw [← ih]
      rfl
theorem LOK.ins {r : Rg} (hr : Rok r) : ∀ {l : List Rg}, LOK l → (∀ x ∈ l, ¬ Ov x r) → LOK (ins r l) ∧ ∀ y, y ∈ ins r l ↔ y = r ∨ y ∈ l
  | [], _, _ => ⟨⟨by simp [Go.Proofs.Ytalcipbagidbpaa.ins, hr], by simp [Go.Proofs.Ytalcipbagidbpaa.ins]⟩, by simp [Go.Proofs.Ytalcipbagidbpaa.ins]⟩
  | x :: xs, h, ho => by
    have hx := h.1 x (by simp)
    have htl : LOK xs := ⟨fun y hy => h.1 y (by simp [hy]), (List.pairwise_cons.1 h.2).2⟩
    have hhd := (List.pairwise_cons.1 h.2).1
    obtain ⟨ih, im⟩ := LOK.ins hr (l := xs) htl fun y hy => ho y (by simp [hy])
    have hno := ho x (by simp)
    have h1 := hx.vd
    have h2 := hr.vd
    unfold Vd at h1 h2
    unfold Ov at hno
    rw [Go.Proofs.Ytalcipbagidbpaa.ins]
    by_cases c : r.start < x.start
    · rw [dT c, cond_true]
      refine ⟨⟨fun y hy => ?_, ?_⟩, fun y => by simp⟩
      · rcases List.mem_cons.1 hy with rfl | hy
        · exact hr
        · exact h.1 y hy
      · rw [List.pairwise_cons]
        refine ⟨fun y hy => ?_, h.2⟩
        rcases List.mem_cons.1 hy with rfl | hy
        · unfold Bef; omega
        · have := hhd y hy; unfold Bef at *; omega
    · rw [dF c, cond_false]
      refine ⟨⟨fun y hy => ?_, ?_⟩, fun y => by rw [List.mem_cons, im, List.mem_cons]; constructor <;> (intro h; rcases h with h | h | h <;> simp [h])⟩
      · rcases List.mem_cons.1 hy with rfl | hy
        · exact hx
        · exact ih.1 y hy
      · rw [List.pairwise_cons]
        refine ⟨fun y hy => ?_, ih.2⟩
        rcases (im y).1 hy with rfl | hy
        · unfold Bef; omega
        · exact hhd y hy
theorem ins_len (r : Rg) : ∀ l : List Rg, (ins r l).length = l.length + 1
  | [] => rfl
  | x :: xs => by
    rw [ins]
    cases decide (r.start < x.start)
    · simp [ins_len r xs]
    · simp
end Go.Proofs.Ytalcipbagidbpaa
end

section
set_option linter.unusedVariables false
namespace Go.Proofs.Ytalcipbagidbpaa
open Go.Proofs
theorem amap_eq {t : Tr} (hs : t.sz ≤ 1000000) (r : Rg) : amapF t r = rmapF t r := by
  have hs' : t.sz ≤ BIG := Nat.le_trans hs (by decide)
  unfold amapF rmapF
  rw [acF_eq hs', chk_eq, mpO_eq]
  by_cases h : rcF t = 0
  · have hk := (rcF_iff hs').1 h
    rw [h, list_sok hs' hk, rls_sok hs' hk]
    simp only [bne_self_eq_false, cond_false]
    by_cases hr : rchk r = 0
    · have hr' := rok_iff.1 hr
      rw [hr]
      simp only [bne_self_eq_false, cond_false]
      cases ho : rmO r (lst t) with
      | true => rfl
      | false =>
        rw [cond_false, cond_false]
        have hno : ∀ x ∈ lst t, ¬ Ov x r := fun x hx hov => by rw [(rmO_iff hr' hk.lok).2 ⟨x, hx, hov⟩] at ho; cases ho
        have e : rinL t r = ins r (lst t) := by unfold rinL; rw [rls_sok hs' hk, rmL_false]; rfl
        rw [e, insL_is hk.lok hno hr', nrmL_eq]
        exact abuild_eq (by rw [ins_len]; have := hk.few; unfold BIG; omega) (LOK.ins hr' hk.lok hno).1
    · rw [bne0.2 hr]; rfl
  · rw [bne0.2 h]; rfl
theorem acheck_eq {t : Tr} (hs : t.sz ≤ BIG) (p c : Int) : acheckF t p c = bif rcF t != 0 then rcF t else rwiF p c := by
  unfold acheckF rwiF
  rw [acF_eq hs]
  congr 1
  by_cases h : c < 1
  · rw [dT h]; rfl
  · rw [dF h, cond_false, cond_false]
    congr 1
    rw [Bool.eq_iff_iff]
    simp only [Bool.or_eq_true, decide_eq_true_eq]
    by_cases h1 : 0 ≤ p ∧ p ≤ 512
    · rw [w_small (n := 512 - p) (by omega) (by omega)]
      by_cases h2 : c ≤ 512
      · rw [w_small (n := 512 - c) (by omega) (by omega)]; omega
      · omega
    · constructor
      · intro _
        by_cases h2 : c ≤ 512
        · rw [w_small (n := 512 - c) (by omega) (by omega)]; omega
        · omega
      · intro _; omega
theorem rwi_in {p c : Int} (h : rwiF p c = 0) : Rin p c := by
  have h0 := rwi_range (p := p) (c := c) (by rw [h]; rfl)
  refine ⟨h0.1, ?_, h0.2.1⟩
  unfold rwiF at h
  by_cases h2 : c < 1
  · rw [dT h2] at h; cases h
  · omega
theorem flatMap_congr {l : List Rg} {f g : Rg → List Rg} (h : ∀ r ∈ l, f r = g r) : l.flatMap f = l.flatMap g := by
  induction l with
  | nil => rfl
  | cons a l ih => rw [List.flatMap_cons, List.flatMap_cons, h a (by simp), ih fun r hr => h r (by simp [hr])]
theorem unmap_eq {t : Tr} (hs : t.sz ≤ 1000000) (p c : Int) : unmapF t p c = rumF t p c := by
  have hs' : t.sz ≤ BIG := Nat.le_trans hs (by decide)
  unfold unmapF rumF
  rw [acheck_eq hs']
  by_cases h : rcF t = 0
  · have hk := (rcF_iff hs').1 h
    rw [h]
    simp only [bne_self_eq_false, cond_false]
    by_cases hw : rwiF p c = 0
    · have hr := rwi_in hw
      rw [hw]
      simp only [bne_self_eq_false, cond_false]
      have e1 : unL t p c = (lst t).flatMap fun r => cutS r p c := by
        unfold unL; rw [list_sok hs' hk]; exact flatMap_congr fun r h => cutL_is (hk.lok.1 r h) hr
      have e2 : rumL t p c = (lst t).flatMap fun r => cutS r p c := by
        unfold rumL; rw [rls_sok hs' hk]; exact flatMap_congr fun r h => rcutL_is (hk.lok.1 r h) hr
      have hl : (unL t p c).length ≤ BIG := by
        have h1 := flatMap_len (f := fun r => cutL r p c) (fun r => cutL_len r p c) (listF t)
        rw [list_sok hs' hk] at h1
        have h2 := hk.few
        have h3 : (unL t p c).length = ((lst t).flatMap fun r => cutL r p c).length := by unfold unL; rw [list_sok hs' hk]
        unfold BIG; omega
      rw [e2, ← e1, nrmL_eq]
      exact abuild_eq hl (by rw [e1]; exact hk.lok.flat fun r h => cutS_prt (hk.lok.1 r h) hr)
    · rw [bne0.2 hw]; rfl
  · rw [bne0.2 h]
    show (bif rcF t != 0 then (zT, rcF t) else _) = _
    rw [bne0.2 h]; rfl
/-! ### The parts of change -/
/-- What begins in the range. -/
def upR (r : Rg) (p : Int) : Rg := bif decide (p > r.start) then hiR r p else r
def midR (r : Rg) (p c : Int) : Rg := bif decide (p + c < r.start + r.pages) then loR (upR r p) (p + c) else upR r p
def chS (tF : Rg → Rg) (r : Rg) (p c : Int) : List Rg := (bif decide (p > r.start) then [loR r p] else []) ++ (tF (midR r p c) :: (bif decide (p + c < r.start + r.pages) then [hiR (upR r p) (p + c)] else []))
structure UpR (r : Rg) (p : Int) : Prop where
  ok : Rok (upR r p)
  end_ : (upR r p).start + (upR r p).pages = r.start + r.pages
  st : (upR r p).start = max r.start p
  prot : (upR r p).prot = r.prot
  fl : flagR (upR r p) 4 = flagR r 4
theorem up_is {r : Rg} (h : Rok r) {p : Int} (hp : p < r.start + r.pages) : UpR r p := by
  by_cases c : p > r.start
  · have e : upR r p = hiR r p := by unfold upR; rw [dT c]; rfl
    refine ⟨e ▸ hi_ok h c hp, ?_, ?_, by rw [e]; rfl, by rw [e]; exact (clr_ok h.fl0 h.fl1).2.2.2.2.1⟩
    · rw [e]; show p + (r.start + r.pages - p) = _; omega
    · rw [e]; show p = _; omega
  · have e : upR r p = r := by unfold upR; rw [dF c]; rfl
    exact ⟨e.symm ▸ h, by rw [e], by rw [e]; omega, by rw [e], by rw [e]⟩
structure MidR (r : Rg) (p c : Int) : Prop where
  ok : Rok (midR r p c)
  end_ : (midR r p c).start + (midR r p c).pages = min (r.start + r.pages) (p + c)
  st : (midR r p c).start = max r.start p
  prot : (midR r p c).prot = r.prot
  fl : flagR (midR r p c) 4 = flagR r 4
theorem mid_is {r : Rg} (h : Rok r) {p c : Int} (hr : Rin p c) (h1 : p < r.start + r.pages) (h2 : r.start < p + c) : MidR r p c := by
  have hu := up_is h h1
  unfold Rin at hr
  by_cases q : p + c < r.start + r.pages
  · have e : midR r p c = loR (upR r p) (p + c) := by unfold midR; rw [dT q]; rfl
    have := hu.st
    refine ⟨e ▸ lo_ok hu.ok (by omega) (by rw [hu.end_]; exact q), ?_, by rw [e]; exact hu.st, by rw [e]; exact hu.prot, by rw [e]; exact hu.fl⟩
    rw [e]; show (upR r p).start + (p + c - (upR r p).start) = _; omega
  · have e : midR r p c = upR r p := by unfold midR; rw [dF q]; rfl
    exact ⟨e ▸ hu.ok, by rw [e, hu.end_]; omega, by rw [e]; exact hu.st, by rw [e]; exact hu.prot, by rw [e]; exact hu.fl⟩
theorem chS_prt {tF : Rg → Rg} {r : Rg} (h : Rok r) {p c : Int} (hr : Rin p c) (h1 : p < r.start + r.pages) (h2 : r.start < p + c) (ht : Rok (tF (midR r p c))) (hst : (tF (midR r p c)).start = (midR r p c).start) (hpg : (tF (midR r p c)).pages = (midR r p c).pages) : Prt r (chS tF r p c) := by
  have hu := up_is h h1
  have hm := mid_is h hr h1 h2
  have hus := hu.st
  have hue := hu.end_
  have hms := hm.st
  have hme := hm.end_
  unfold Rin at hr
  have key : ∀ x, x ∈ (bif decide (p > r.start) then [loR r p] else []) → x = loR r p ∧ r.start < p := by
    intro x hx
    by_cases c1 : p > r.start
    · rw [dT c1] at hx; exact ⟨by simpa using hx, by omega⟩
    · rw [dF c1] at hx; simp at hx
  have key2 : ∀ x, x ∈ (bif decide (p + c < r.start + r.pages) then [hiR (upR r p) (p + c)] else []) → x = hiR (upR r p) (p + c) ∧ p + c < r.start + r.pages := by
    intro x hx
    by_cases c1 : p + c < r.start + r.pages
    · rw [dT c1] at hx; exact ⟨by simpa using hx, by omega⟩
    · rw [dF c1] at hx; simp at hx
  have fin : ∀ x, x ∈ chS tF r p c → Rok x ∧ r.start ≤ x.start ∧ x.start + x.pages ≤ r.start + r.pages := by
    intro x hx
    rcases List.mem_append.1 hx with hx | hx
    · obtain ⟨rfl, c1⟩ := key x hx
      exact ⟨lo_ok h c1 h1, Int.le_refl _, by show r.start + (p - r.start) ≤ _; omega⟩
    · rcases List.mem_cons.1 hx with rfl | hx
      · rw [hst, hpg]; exact ⟨ht, by omega, by omega⟩
      · obtain ⟨rfl, c1⟩ := key2 x hx
        exact ⟨hi_ok hu.ok (by omega) (by omega), by show r.start ≤ p + c; omega, by show p + c + ((upR r p).start + (upR r p).pages - (p + c)) ≤ _; omega⟩
  refine ⟨fun x hx => (fin x hx).1, fun x hx => (fin x hx).2.1, fun x hx => (fin x hx).2.2, ?_⟩
  unfold chS
  rw [List.pairwise_append, List.pairwise_cons]
  refine ⟨by cases decide (p > r.start) <;> simp, ⟨fun y hy => ?_, by cases decide (p + c < r.start + r.pages) <;> simp⟩, fun x hx y hy => ?_⟩
  · obtain ⟨rfl, c1⟩ := key2 y hy
    unfold Bef
    rw [hst, hpg]
    show _ ≤ p + c
    omega
  · obtain ⟨rfl, c1⟩ := key x hx
    rcases List.mem_cons.1 hy with rfl | hy
    · unfold Bef
      rw [hst]
      show r.start + (p - r.start) ≤ _
      omega
    · obtain ⟨rfl, c2⟩ := key2 y hy
      show r.start + (p - r.start) ≤ p + c
      omega
theorem divL_is {r : Rg} (h : Rok r) {p c : Int} (hr : Rin p c) (h1 : p < r.start + r.pages) (h2 : r.start < p + c) (tF : Rg → Rg) : (divL r p c).map (selF tF) = chS tF r p c := by
  have hu := up_is h h1
  have hus := hu.st
  have hue := hu.end_
  have hr' := hr
  unfold Rin at hr
  have wp : w64 (p + c) = p + c := w_small (by omega) (by omega)
  have hv := h.vd
  unfold Vd at hv
  have e1 : divR r p = upR r p := by
    unfold divR upR
    by_cases c1 : p > r.start
    · have s := spl_in h c1 h1; rw [s.e, s.h, dT c1]; rfl
    · rw [spl_out h (by omega), dF c1]; rfl
  unfold divL chS midR
  rw [e1, wp]
  by_cases c1 : p > r.start
  · have s := spl_in h c1 h1
    rw [s.e, s.l, dT c1]
    by_cases c2 : p + c < r.start + r.pages
    · have s2 := spl_in hu.ok (q := p + c) (by omega) (by omega)
      rw [s2.e, s2.l, s2.h, dT c2]; rfl
    · rw [spl_out hu.ok (q := p + c) (by omega), dF c2]; rfl
  · rw [spl_out h (q := p) (by omega), dF c1]
    by_cases c2 : p + c < r.start + r.pages
    · have s2 := spl_in hu.ok (q := p + c) (by omega) (by omega)
      rw [s2.e, s2.l, s2.h, dT c2]; rfl
    · rw [spl_out hu.ok (q := p + c) (by omega), dF c2]; rfl
theorem rmd_is {r : Rg} (h : Rok r) {p c : Int} (hr : Rin p c) (h1 : p < r.start + r.pages) (h2 : r.start < p + c) (pr : Int) (on : Bool) : rmd pr on r p c = chS (md pr on) r p c := by
  have hu := up_is h h1
  have hus := hu.st
  have hue := hu.end_
  unfold Rin at hr
  have wp : w64 (p + c) = p + c := w_small (by omega) (by omega)
  have hv := h.vd
  unfold Vd at hv
  have e1 : pcR r p = upR r p := by
    unfold pcR upR
    by_cases c1 : p > r.start
    · have s := spl_in h c1 h1; rw [s.rh]
    · rw [dF c1]; rfl
  unfold rmd chS midR
  unfold pcL pcN
  rw [e1, wp, w_end hu.ok, hue]
  by_cases c1 : p > r.start
  · have s := spl_in h c1 h1
    rw [s.rl, dT c1]
    by_cases c2 : p + c < r.start + r.pages
    · have s2 := spl_in hu.ok (q := p + c) (by omega) (by omega)
      rw [s2.rl, s2.rh, dT c2]; rfl
    · rw [dF c2]; rfl
  · rw [dF c1]
    by_cases c2 : p + c < r.start + r.pages
    · have s2 := spl_in hu.ok (q := p + c) (by omega) (by omega)
      rw [s2.rl, s2.rh, dT c2]; rfl
    · rw [dF c2]; rfl
theorem chS_congr {f g : Rg → Rg} {r : Rg} {p c : Int} (h : f (midR r p c) = g (midR r p c)) : chS f r p c = chS g r p c := by unfold chS; rw [h]
/-- Is a region left as it is? -/
def skS (oF : Rg → Bool) (p c : Int) (r : Rg) : Bool := decide (r.start + r.pages ≤ p) || (decide (p + c ≤ r.start) || !oF r)
theorem chgE_is {oF : Rg → Bool} {tF : Rg → Rg} {r : Rg} (h : Rok r) {p c : Int} (hr : Rin p c) : chgE oF tF p c r = bif skS oF p c r then [r] else chS tF r p c := by
  have wp : w64 (p + c) = p + c := by unfold Rin at hr; exact w_small (by omega) (by omega)
  have e : skipF oF p c r = skS oF p c r := by unfold skipF skS; rw [endR_is h, wp]
  unfold chgE
  rw [e]
  cases hs : skS oF p c r with
  | true => rfl
  | false =>
    unfold skS at hs
    simp only [Bool.or_eq_false_iff, decide_eq_false_iff_not] at hs
    exact divL_is h hr (by omega) (by omega) tF
theorem rcgE_is {pr : Int} {on : Bool} {oF : Rg → Bool} {r : Rg} (h : Rok r) {p c : Int} (hr : Rin p c) (ho : ((decide (pr > 0) && (r.prot == pr)) || ((pr == 0) && (flagR r 4 == on))) = !oF r) : rcgE pr on p c r = bif skS oF p c r then [r] else chS (md pr on) r p c := by
  have wp : w64 (p + c) = p + c := by unfold Rin at hr; exact w_small (by omega) (by omega)
  have e : rskA pr on p c r = skS oF p c r := by unfold rskA skS; rw [w_end h, wp, ← ho]; rfl
  unfold rcgE
  rw [e]
  cases hs : skS oF p c r with
  | true => rfl
  | false =>
    unfold skS at hs
    simp only [Bool.or_eq_false_iff, decide_eq_false_iff_not] at hs
    exact rmd_is h hr (by omega) (by omega) pr on
theorem chg_prt {oF : Rg → Bool} {tF : Rg → Rg} {r : Rg} (h : Rok r) {p c : Int} (hr : Rin p c) (ht : oF r = true → Rok (midR r p c) → flagR (midR r p c) 4 = flagR r 4 → Rok (tF (midR r p c))) (hst : ∀ x, (tF x).start = x.start) (hpg : ∀ x, (tF x).pages = x.pages) : Prt r (bif skS oF p c r then [r] else chS tF r p c) := by
  cases hs : skS oF p c r with
  | true => exact .one h
  | false =>
    unfold skS at hs
    simp only [Bool.or_eq_false_iff, decide_eq_false_iff_not, Bool.not_eq_false'] at hs
    have hm := mid_is h hr (by omega) (by omega)
    exact chS_prt h hr (by omega) (by omega) (ht hs.2.2 hm.ok hm.fl) (hst _) (hpg _)
theorem proT_rok {pr : Int} (hpr : pr = 1 ∨ pr = 3) {x : Rg} (h : Rok x) : Rok (proT pr x) := ⟨h.vd, hpr, h.fl0, h.fl1, h.fi0, h.fi1, h.anon, h.filed⟩
theorem lk_tab : ∀ n : Nat, n < 16 → (let x : Rg := ⟨0, 0, 0, (n : Int), 0, 0⟩; 0 ≤ (lockT x).flags ∧ (lockT x).flags ≤ 15 ∧ flagR (lockT x) 1 = flagR x 1 ∧ flagR (lockT x) 2 = flagR x 2 ∧ flagR (lockT x) 8 = flagR x 8 ∧ flagR (lockT x) 4 = !flagR x 4) := by decide +kernel
theorem lk_ok {x : Rg} (h : Rok x) : 0 ≤ (lockT x).flags ∧ (lockT x).flags ≤ 15 ∧ flagR (lockT x) 1 = flagR x 1 ∧ flagR (lockT x) 2 = flagR x 2 ∧ flagR (lockT x) 8 = flagR x 8 ∧ flagR (lockT x) 4 = !flagR x 4 := by
  have h0 := h.fl0
  have h1 := h.fl1
  have := lk_tab x.flags.toNat (by omega)
  rw [show ((x.flags.toNat : Nat) : Int) = x.flags by omega] at this
  exact this
theorem lockT_rok {x : Rg} (h : Rok x) : Rok (lockT x) := by
  obtain ⟨a, b, c, d, e, _⟩ := lk_ok h
  exact ⟨h.vd, h.prot, a, b, h.fi0, h.fi1, fun hf => ⟨c.trans (h.anon hf).1, (h.anon hf).2⟩, fun hf => ⟨d.trans (h.filed hf).1, e.trans (h.filed hf).2.1, (h.filed hf).2.2⟩⟩
theorem proT_md {pr : Int} (hpr : pr = 1 ∨ pr = 3) (on : Bool) (x : Rg) : proT pr x = md pr on x := by
  unfold md; rw [dT (show pr > 0 by omega)]; rfl
theorem lockT_md {x : Rg} (h : Rok x) {on : Bool} (ho : flagR x 4 = !on) : lockT x = md 0 on x := by
  unfold lockT md
  rw [(fl_ok2 h.fl0 h.fl1).2, ho]
  cases on <;> rfl
theorem chgP_list {l : List Rg} (hl : LOK l) {p c : Int} (hr : Rin p c) {pr : Int} (hpr : pr = 1 ∨ pr = 3) : l.flatMap (chgE (proO pr) (proT pr) p c) = rcgL pr false l p c ∧ LOK (rcgL pr false l p c) := by
  have e : ∀ r ∈ l, chgE (proO pr) (proT pr) p c r = rcgE pr false p c r := fun r h => by
    have hk := hl.1 r h
    rw [chgE_is hk hr, rcgE_is (oF := proO pr) hk hr]
    · cases skS (proO pr) p c r
      · exact chS_congr (proT_md hpr false _)
      · rfl
    · unfold proO
      rw [dT (show pr > 0 by omega), show (pr == 0) = false by simp; omega]
      simp [bne]
  have e2 := flatMap_congr e
  refine ⟨e2, ?_⟩
  unfold rcgL
  rw [← e2]
  refine hl.flat fun r h => ?_
  rw [chgE_is (hl.1 r h) hr]
  exact chg_prt (hl.1 r h) hr (fun _ hm _ => proT_rok hpr hm) (fun _ => rfl) fun _ => rfl
theorem chgL_list {l : List Rg} (hl : LOK l) {p c : Int} (hr : Rin p c) (on : Bool) : l.flatMap (chgE (lockO on) lockT p c) = rcgL 0 on l p c ∧ LOK (rcgL 0 on l p c) := by
  have hF : ∀ r ∈ l, lockO on r = !(flagR r 4 == on) := fun r h => by
    have hk := hl.1 r h
    unfold lockO; rw [(fl_ok hk.fl0 hk.fl1).2.2.1]
  have e : ∀ r ∈ l, chgE (lockO on) lockT p c r = rcgE 0 on p c r := fun r h => by
    have hk := hl.1 r h
    rw [chgE_is hk hr, rcgE_is (oF := lockO on) hk hr]
    · cases hs : skS (lockO on) p c r with
      | true => rfl
      | false =>
        unfold skS at hs
        simp only [Bool.or_eq_false_iff, decide_eq_false_iff_not, Bool.not_eq_false'] at hs
        have hm := mid_is hk hr (by omega) (by omega)
        refine chS_congr (lockT_md hm.ok ?_)
        have := hs.2.2
        rw [hF r h] at this
        rw [hm.fl]
        cases hq : flagR r 4 <;> cases on <;> simp_all
    · rw [hF r h]; simp
  have e2 := flatMap_congr e
  refine ⟨e2, ?_⟩
  unfold rcgL
  rw [← e2]
  refine hl.flat fun r h => ?_
  rw [chgE_is (hl.1 r h) hr]
  exact chg_prt (hl.1 r h) hr (fun _ hm _ => lockT_rok hm) (fun _ => rfl) fun _ => rfl
end Go.Proofs.Ytalcipbagidbpaa
end

section
set_option linter.unusedVariables false
namespace Go.Proofs.Ytalcipbagidbpaa
open Go.Proofs
/-! ### The first region that ends behind a page -/
def fa (p : Int) : List Rg → Rg → Bool → Rg × Bool
  | [], r, fd => (r, fd)
  | x :: xs, r, fd => bif decide (x.start + x.pages > p) then (x, true) else fa p xs r fd
theorem fa_yes {p : Int} {x : Rg} (h : x.start + x.pages > p) : ∀ (a b : List Rg) (r : Rg) (fd : Bool), fa p (a ++ x :: b) r fd = fa p a x true
  | [], b, r, fd => by rw [List.nil_append]; show (bif decide (x.start + x.pages > p) then (x, true) else fa p b r fd) = _; rw [dT h]; rfl
  | y :: a, b, r, fd => by
    rw [List.cons_append, fa, fa, fa_yes h a b r fd]
theorem fa_no {p : Int} : ∀ {a : List Rg} (b : List Rg) (r : Rg) (fd : Bool), (∀ y ∈ a, y.start + y.pages ≤ p) → fa p (a ++ b) r fd = fa p b r fd
  | [], b, r, fd, _ => rfl
  | y :: a, b, r, fd, h => by
    rw [List.cons_append, fa, dF (by have := h y (by simp); omega), cond_false, fa_no b r fd fun z hz => h z (by simp [hz])]
theorem afterF_node {p : Int} {a b : Tr} {x r : Rg} {fd : Bool} (h : (nodeF a x b).h > 0) : afterF p (nodeF a x b) r fd = bif decide (x.end > p) then afterF p a x true else afterF p b r fd :=
  afterF_go p (nodeF a x b) a b r fd rfl (dT h)
theorem after_is {t : Tr} (hg : Good t) (p : Int) : t.sz ≤ BIG → Ord (lst t) → ∀ (r : Rg) (fd : Bool), afterF p t r fd = fa p (lst t) r fd := by
  induction hg with
  | leaf => intro _ _ r fd; rw [afterF_stop p zT r fd rfl, lst_zT]; rfl
  | @node a b x ha hb h1 h2 iha ihb =>
    intro hs ho r fd
    rw [sz_nodeF] at hs
    have hh := h_node ha hb (by omega) x
    rw [imax_def] at hh
    have la := ha.h_le (by omega)
    rw [lst_nodeG ha hb hs] at ho ⊢
    rw [afterF_node (by omega)]
    have hv := ho.1 x (by simp)
    have hp := List.pairwise_append.1 ho.2
    have oa : Ord (lst a) := ⟨fun y hy => ho.1 y (by simp [hy]), hp.1⟩
    have ob : Ord (lst b) := ⟨fun y hy => ho.1 y (by simp [hy]), (List.pairwise_cons.1 hp.2.1).2⟩
    rw [hv.end]
    by_cases c : x.start + x.pages > p
    · rw [dT c, cond_true, iha (by omega) oa, fa_yes c]
    · rw [dF c, cond_false, ihb (by omega) ob, fa_no, fa, dF c, cond_false]
      intro y hy
      have := hp.2.2 y hy x (by simp)
      unfold Bef at this
      unfold Vd at hv
      omega
theorem next_is {t : Tr} (hs : t.sz ≤ BIG) (h : Sok t) (p : Int) : nextF t p = fa p (lst t) zR false := by
  have h2 : checkF t = 0 := (checkF_iff hs).2 ⟨h.good, h.lok.ord⟩
  unfold nextF
  rw [h2]
  exact after_is h.good p hs h.lok.ord zR false
theorem rhas_is {x : Rg} (h : Rok x) (p : Int) : rhas x p = decide (x.start ≤ p ∧ p < x.start + x.pages) := by
  rw [Bool.eq_iff_iff, rhas_iff, decide_eq_true_eq]; simp [h]
theorem rfnL_none {p : Int} : ∀ {l : List Rg}, LOK l → (∀ x ∈ l, ¬ (x.start ≤ p ∧ p < x.start + x.pages)) → rfnL p l = (zR, false)
  | [], _, _ => rfl
  | x :: xs, h, hn => by
    rw [rfnL, rhas_is (h.1 x (by simp)), dF (hn x (by simp)), cond_false]
    exact rfnL_none ⟨fun y hy => h.1 y (by simp [hy]), (List.pairwise_cons.1 h.2).2⟩ fun y hy => hn y (by simp [hy])
theorem LOK.tl {x : Rg} {xs : List Rg} (h : LOK (x :: xs)) : LOK xs := ⟨fun y hy => h.1 y (by simp [hy]), (List.pairwise_cons.1 h.2).2⟩
theorem fa_find {p : Int} : ∀ {l : List Rg}, LOK l → (bif !(fa p l zR false).2 then (zR, false) else bif decide ((fa p l zR false).1.start > p) then (zR, false) else ((fa p l zR false).1, true)) = rfnL p l
  | [], _ => rfl
  | x :: xs, h => by
    have hx := h.1 x (by simp)
    rw [fa, rfnL, rhas_is hx]
    by_cases c : x.start + x.pages > p
    · rw [dT c]
      simp only [cond_true, Bool.not_true, cond_false]
      by_cases c2 : x.start ≤ p
      · rw [dF (show ¬ x.start > p by omega), dT (show x.start ≤ p ∧ p < x.start + x.pages from ⟨c2, by omega⟩)]; rfl
      · rw [dT (show x.start > p by omega), dF (show ¬ (x.start ≤ p ∧ p < x.start + x.pages) by omega), cond_true, cond_false, rfnL_none h.tl]
        intro y hy
        have := (List.pairwise_cons.1 h.2).1 y hy
        have := hx.vd
        unfold Bef at *
        unfold Vd at *
        omega
    · rw [dF c, cond_false, dF (show ¬ (x.start ≤ p ∧ p < x.start + x.pages) by omega), cond_false]
      exact fa_find h.tl
theorem find_is {t : Tr} (hs : t.sz ≤ BIG) (h : Sok t) (p : Int) : findF t p = rfnL p (lst t) := by
  unfold findF
  rw [next_is hs h, fa_find h.lok]
theorem rfind_is {t : Tr} (hs : t.sz ≤ BIG) (h : Sok t) (p : Int) : rfindF t p = rfnL p (lst t) := by
  unfold rfindF; rw [rls_sok hs h]
theorem afind_eq {t : Tr} (hs : t.sz ≤ BIG) (p : Int) : afindF t p = rfindF t p := by
  unfold afindF
  rw [acF_eq hs]
  by_cases h : rcF t = 0
  · have hk := (rcF_iff hs).1 h
    rw [h, rfind_is hs hk, ← find_is hs hk]; rfl
  · unfold rfindF rlsF
    rw [bne0.2 h]; rfl
theorem acount_eq {t : Tr} (hs : t.sz ≤ BIG) : acountF t = (rlsF t).length := by
  unfold acountF
  rw [acF_eq hs]
  by_cases h : rcF t = 0
  · have hk := (rcF_iff hs).1 h
    rw [h, list_sok hs hk, rls_sok hs hk]; rfl
  · unfold rlsF
    rw [bne0.2 h]; rfl
theorem rfnL_some {p : Int} : ∀ {l : List Rg}, LOK l → (rfnL p l).2 = true → (rfnL p l).1 ∈ l ∧ (rfnL p l).1.start ≤ p ∧ p < (rfnL p l).1.start + (rfnL p l).1.pages
  | [], _, h => by cases h
  | x :: xs, h, hf => by
    have hx := h.1 x (by simp)
    by_cases c : x.start ≤ p ∧ p < x.start + x.pages
    · have e : rfnL p (x :: xs) = (x, true) := by rw [rfnL, rhas_is hx, dT c]; rfl
      rw [e]; exact ⟨by simp, c⟩
    · have e : rfnL p (x :: xs) = rfnL p xs := by rw [rfnL, rhas_is hx, dF c]; rfl
      rw [e] at hf ⊢
      obtain ⟨a, b⟩ := rfnL_some h.tl hf
      exact ⟨by simp [a], b⟩
theorem rfnL_at {p : Int} : ∀ {l : List Rg}, LOK l → ∀ {x : Rg}, x ∈ l → x.start ≤ p → p < x.start + x.pages → rfnL p l = (x, true)
  | [], _, x, h, _, _ => by simp at h
  | y :: ys, h, x, hx, h1, h2 => by
    have hy := h.1 y (by simp)
    rw [rfnL, rhas_is hy]
    rcases List.mem_cons.1 hx with rfl | hx
    · rw [dT ⟨h1, h2⟩]; rfl
    · have := (List.pairwise_cons.1 h.2).1 x hx
      unfold Bef at this
      rw [dF (by omega), cond_false]
      exact rfnL_at h.tl hx h1 h2
theorem rfnL_iff {p : Int} {l : List Rg} (h : LOK l) : (rfnL p l).2 = true ↔ ∃ x ∈ l, x.start ≤ p ∧ p < x.start + x.pages := by
  constructor
  · intro hf
    obtain ⟨a, b, c⟩ := rfnL_some h hf
    exact ⟨_, a, b, c⟩
  · rintro ⟨x, hx, h1, h2⟩
    rw [rfnL_at h hx h1 h2]
/-! ### covered -/
theorem cov_ok {t : Tr} (hs : t.sz ≤ BIG) (h : Sok t) : CovOK t := by
  intro p h0 h1 hf
  rw [find_is hs h] at hf ⊢
  obtain ⟨a, b, c⟩ := rfnL_some h.lok hf
  have hr := h.lok.1 _ a
  have hv := hr.vd
  unfold Vd at hv
  rw [endR_is hr]
  refine ⟨c, hv.2.2, fun q h2 h3 => ?_⟩
  rw [find_is hs h]
  exact (rfnL_iff h.lok).2 ⟨_, a, by omega, h3⟩
theorem rcvN_iff {t : Tr} : ∀ (n : Nat) (p : Int), rcvN t n p = true ↔ ∀ i : Nat, i < n → (rfindF t (p + i)).2 = true
  | 0, p => by simp [rcvN]
  | n + 1, p => by
    rw [rcvN]
    cases h : (rfindF t p).2 with
    | false =>
      simp only [Bool.not_false, cond_true, Bool.false_eq_true, false_iff]
      intro hh
      have := hh 0 (by omega)
      rw [show p + ((0 : Nat) : Int) = p by omega, h] at this; cases this
    | true =>
      rw [Bool.not_true, cond_false, rcvN_iff n (p + 1)]
      constructor
      · intro hh i hi
        rcases i with _ | i
        · rw [show p + ((0 : Nat) : Int) = p by omega]; exact h
        · have := hh i (by omega)
          rwa [show p + 1 + (i : Int) = p + ((i + 1 : Nat) : Int) by omega] at this
      · intro hh i hi
        have := hh (i + 1) (by omega)
        rwa [show p + 1 + (i : Int) = p + ((i + 1 : Nat) : Int) by omega]
theorem cov_eq {t : Tr} (hs : t.sz ≤ BIG) (h : Sok t) (p c : Int) : covB t p c = rcvN t c.toNat p := by
  rw [Bool.eq_iff_iff, rcvN_iff]
  unfold covB
  rw [List.all_eq_true]
  constructor
  · intro hh i hi
    have := hh i (List.mem_range.2 hi)
    rwa [find_is hs h, ← rfind_is hs h] at this
  · intro hh i hi
    rw [find_is hs h, ← rfind_is hs h]
    exact hh i (List.mem_range.1 hi)
/-! ### Protect, Lock -/
theorem chgL_len' {l : List Rg} {n : Nat} (hl : l.length ≤ n) (oF : Rg → Bool) (tF : Rg → Rg) (p c : Int) : (l.flatMap (chgE oF tF p c)).length ≤ n * 3 := by
  have := flatMap_len3 (chgE_len oF tF p c) l
  omega
theorem protect_eq {t : Tr} (hs : t.sz ≤ BIG) (p c pr : Int) : protectF t p c pr = rproF t p c pr := by
  unfold protectF rproF
  rw [acheck_eq hs]
  by_cases h : rcF t = 0
  · have hk := (rcF_iff hs).1 h
    rw [h]
    simp only [bne_self_eq_false, cond_false]
    by_cases hw : rwiF p c = 0
    · have hr := rwi_in hw
      rw [hw]
      simp only [bne_self_eq_false, cond_false]
      by_cases hpr : pr = 1 ∨ pr = 3
      · have e : ((pr != 1) && (pr != 3)) = false := by rcases hpr with rfl | rfl <;> rfl
        rw [e, cond_false, cond_false]
        unfold changeF
        rw [cov_eq hs hk]
        cases rcvN t c.toNat p with
        | false => rfl
        | true =>
          simp only [Bool.not_true, cond_false]
          obtain ⟨e1, e2⟩ := chgP_list hk.lok hr hpr
          unfold chgL
          rw [list_sok hs hk, rls_sok hs hk, e1, nrmL_eq]
          exact abuild_eq (by rw [← e1]; have := chgL_len' hk.few (proO pr) (proT pr) p c; unfold BIG; omega) e2
      · have e : ((pr != 1) && (pr != 3)) = true := by simp only [Bool.and_eq_true, bne_iff_ne]; omega
        rw [e]; rfl
    · rw [bne0.2 hw]; rfl
  · rw [bne0.2 h]
    show (bif rcF t != 0 then (zT, rcF t) else _) = _
    rw [bne0.2 h]; rfl
theorem lock_eq {t : Tr} (hs : t.sz ≤ BIG) (p c : Int) (on : Bool) : lockF t p c on = rlockF t p c on := by
  unfold lockF rlockF
  rw [acheck_eq hs]
  by_cases h : rcF t = 0
  · have hk := (rcF_iff hs).1 h
    rw [h]
    simp only [bne_self_eq_false, cond_false]
    by_cases hw : rwiF p c = 0
    · have hr := rwi_in hw
      rw [hw]
      simp only [bne_self_eq_false, cond_false]
      unfold changeF
      rw [cov_eq hs hk]
      cases rcvN t c.toNat p with
      | false => rfl
      | true =>
        simp only [Bool.not_true, cond_false]
        obtain ⟨e1, e2⟩ := chgL_list hk.lok hr on
        unfold chgL
        rw [list_sok hs hk, rls_sok hs hk, e1, nrmL_eq]
        exact abuild_eq (by rw [← e1]; have := chgL_len' hk.few (lockO on) lockT p c; unfold BIG; omega) e2
    · rw [bne0.2 hw]; rfl
  · rw [bne0.2 h]
    show (bif rcF t != 0 then (zT, rcF t) else _) = _
    rw [bne0.2 h]; rfl
/-! ### Grow -/
theorem fa_split {p : Int} : ∀ {l : List Rg}, (fa p l zR false).2 = true → ∃ a x b, l = a ++ x :: b ∧ fa p l zR false = (x, true) ∧ x.start + x.pages > p ∧ ∀ y ∈ a, y.start + y.pages ≤ p
  | [], h => by cases h
  | x :: xs, h => by
    by_cases c : x.start + x.pages > p
    · exact ⟨[], x, xs, rfl, by rw [fa, dT c]; rfl, c, by simp⟩
    · rw [fa, dF c, cond_false] at h ⊢
      obtain ⟨a, y, b, e, e2, e3, e4⟩ := fa_split h
      refine ⟨x :: a, y, b, by rw [e]; rfl, e2, e3, fun z hz => ?_⟩
      rcases List.mem_cons.1 hz with rfl | hz
      · omega
      · exact e4 z hz
theorem fa_none {p : Int} : ∀ {l : List Rg}, (fa p l zR false).2 = false → ∀ y ∈ l, y.start + y.pages ≤ p
  | [], _, y, hy => by simp at hy
  | x :: xs, h, y, hy => by
    by_cases c : x.start + x.pages > p
    · rw [fa, dT c] at h; cases h
    · rw [fa, dF c, cond_false] at h
      rcases List.mem_cons.1 hy with rfl | hy
      · omega
      · exact fa_none h y hy
theorem idxF_at (x : Rg) (b : List Rg) : ∀ (a : List Rg) (i : Nat), (∀ y ∈ a, y.start ≠ x.start) → idxF x (a ++ x :: b) i = ((i + a.length : Nat) : Int)
  | [], i, _ => by rw [List.nil_append, idxF, dT rfl]; rfl
  | y :: a, i, h => by
    have : ¬ [x.start, x.pages, x.prot, x.flags, x.file, x.index] = [y.start, y.pages, y.prot, y.flags, y.file, y.index] := by
      simp only [List.cons.injEq, not_and]
      intro e; exact absurd e.symm (h y (by simp))
    rw [List.cons_append, idxF, dF this, cond_false, idxF_at x b a (i + 1) fun z hz => h z (by simp [hz])]
    simp only [List.length_cons]
    omega
theorem atR_mid (a b : List Rg) (x : Rg) : atR (a ++ x :: b) a.length = x := by simp [atR, List.getD_eq_getElem?_getD]
theorem set_mid (a b : List Rg) (x y : Rg) : (a ++ x :: b).set a.length y = a ++ y :: b := by simp
theorem rgF_at {p : Int} {l : List Rg} (x : Rg) (b : List Rg) (hx : ¬ x.start < p) : ∀ (a : List Rg) (i : Nat), (∀ y ∈ a, y.start < p) → rgF p l (a ++ x :: b) i = bif ((w64 (x.flags.tdiv 2)).tmod 2 == 0) then (zT, 13) else rtreeF (l.set (i + a.length) (grR x p))
  | [], i, _ => by rw [List.nil_append, rgF, dF hx]; rfl
  | y :: a, i, h => by
    rw [List.cons_append, rgF, dT (h y (by simp)), cond_true, rgF_at x b hx a (i + 1) fun z hz => h z (by simp [hz])]
    simp only [List.length_cons]
    rw [show i + 1 + a.length = i + (a.length + 1) by omega]
theorem rgF_none' {p : Int} {l : List Rg} : ∀ {xs : List Rg} {i : Nat}, (∀ y ∈ xs, y.start < p) → rgF p l xs i = (zT, 13)
  | [], _, _ => rfl
  | y :: ys, i, h => by rw [rgF, dT (h y (by simp)), cond_true]; exact rgF_none' fun z hz => h z (by simp [hz])
theorem gr_tab : ∀ n : Nat, n < 16 → (let x : Rg := ⟨0, 0, 0, (n : Int), 0, 0⟩; ((w64 (BitVec.ofInt IntKind.i64.bits x.flags &&& BitVec.ofInt IntKind.i64.bits 2).toNat == 0)) = !flagR x 2 ∧ ((w64 (x.flags.tdiv 2)).tmod 2 == 0) = !flagR x 2) := by decide +kernel
theorem gr_fl {x : Rg} (h : Rok x) : ((w64 (BitVec.ofInt IntKind.i64.bits x.flags &&& BitVec.ofInt IntKind.i64.bits 2).toNat == 0)) = !flagR x 2 ∧ ((w64 (x.flags.tdiv 2)).tmod 2 == 0) = !flagR x 2 := by
  have h0 := h.fl0
  have h1 := h.fl1
  have := gr_tab x.flags.toNat (by omega)
  rw [show ((x.flags.toNat : Nat) : Int) = x.flags by omega] at this
  exact this
def growR (x : Rg) (p : Int) : Rg := { x with pages := x.pages + (x.start - p), start := p }
theorem grR_is {x : Rg} (h : Rok x) {p : Int} (h0 : 0 ≤ p) (h1 : p ≤ x.start) : grR x p = growR x p := by
  have hv := h.vd
  unfold Vd at hv
  unfold grR growR
  rw [w_small (n := x.start - p) (by omega) (by omega), w_small (n := x.pages + (x.start - p)) (by omega) (by omega)]
theorem growR_ok {x : Rg} (h : Rok x) {p : Int} (h0 : 0 ≤ p) (h1 : p ≤ x.start) (hf : flagR x 2 = true) : Rok (growR x p) := by
  have hv := h.vd
  unfold Vd at hv
  refine ⟨⟨h0, by show 1 ≤ x.pages + (x.start - p); omega, by show p + (x.pages + (x.start - p)) ≤ 512; omega⟩, h.prot, h.fl0, h.fl1, h.fi0, h.fi1, h.anon, fun hh => ?_⟩
  have := (h.filed hh).1
  rw [hf] at this; cases this
theorem nm_mid : ∀ (a b : List Rg) (x y : Rg), rc2 (a ++ x :: b) = false → (∀ z ∈ a, rmrg z y = false) → (∀ z ∈ b, rmrg y z = false) → rc2 (a ++ y :: b) = false
  | [], [], x, y, _, _, _ => rfl
  | [], z :: b, x, y, h, _, h2 => by
    simp only [List.nil_append] at h ⊢
    rw [rc2] at h ⊢
    rw [h2 z (by simp), cond_false]
    cases hm : rmrg x z <;> rw [hm] at h
    · exact h
    · cases h
  | [z], b, x, y, h, h1, h2 => by
    simp only [List.cons_append, List.nil_append] at h ⊢
    rw [rc2] at h ⊢
    rw [h1 z (by simp), cond_false]
    refine nm_mid [] b x y ?_ (by simp) h2
    cases hm : rmrg z x <;> rw [hm] at h
    · exact h
    · cases h
  | z :: w :: a, b, x, y, h, h1, h2 => by
    simp only [List.cons_append] at h ⊢
    rw [rc2] at h ⊢
    cases hm : rmrg z w <;> rw [hm] at h
    · rw [cond_false]; exact nm_mid (w :: a) b x y h (fun v hv => h1 v (by simp [hv])) h2
    · cases h
/-- What Grow comes to. -/
structure GrowR (t : Tr) (p : Int) (k : Nat) : Prop where
  hk : (acF t != 0) = false → (nextF t p).2 = true → idxF (nextF t p).1 (listF t) 0 = k ∧ k < (listF t).length
  eq : agrowK t p k = rgrowF t p
theorem grow_mid {a b : List Rg} {x : Rg} {p : Int} (hl : LOK (a ++ x :: b)) (h0 : 0 ≤ p) (h1 : p ≤ x.start) (ha : ∀ y ∈ a, y.start + y.pages < p) (hf : flagR x 2 = true) : LOK (a ++ growR x p :: b) := by
  have hx := hl.1 x (by simp)
  have hp := List.pairwise_append.1 hl.2
  refine ⟨fun y hy => ?_, ?_⟩
  · rcases List.mem_append.1 hy with hy | hy
    · exact hl.1 y (by simp [hy])
    · rcases List.mem_cons.1 hy with rfl | hy
      · exact growR_ok hx h0 h1 hf
      · exact hl.1 y (by simp [hy])
  · rw [List.pairwise_append, List.pairwise_cons]
    refine ⟨hp.1, ⟨fun y hy => ?_, (List.pairwise_cons.1 hp.2.1).2⟩, fun y hy z hz => ?_⟩
    · have := (List.pairwise_cons.1 hp.2.1).1 y hy
      unfold Bef at *
      show p + (x.pages + (x.start - p)) ≤ y.start
      omega
    · rcases List.mem_cons.1 hz with rfl | hz
      · have := ha y hy
        show y.start + y.pages ≤ p
        omega
      · exact hp.2.2 y hy z (by simp [hz])
theorem grow_is {t : Tr} (hs : t.sz ≤ BIG) (p : Int) : ∃ k, GrowR t p k := by
  by_cases h : rcF t = 0
  case neg =>
    have e : (acF t != 0) = true := by rw [acF_eq hs]; exact bne0.2 h
    refine ⟨0, (fun h2 => by rw [e] at h2; cases h2), ?_⟩
    unfold agrowK rgrowF
    rw [acF_eq hs, bne0.2 h]; rfl
  have hk := (rcF_iff hs).1 h
  by_cases hp : 0 ≤ p ∧ p < 512
  case neg =>
    have e : (decide (p < 0) || decide (p ≥ 512)) = true := by simp only [Bool.or_eq_true, decide_eq_true_eq]; omega
    cases hn : (nextF t p).2 with
    | false =>
      refine ⟨0, (fun _ h2 => by rw [hn] at h2; cases h2), ?_⟩
      unfold agrowK rgrowF
      rw [acF_eq hs, h, e]; rfl
    | true =>
      have hn' := hn
      rw [next_is hs hk] at hn'
      obtain ⟨a, x, b, e1, e2, e3, e4⟩ := fa_split hn'
      refine ⟨a.length, fun _ _ => ?_, ?_⟩
      · rw [next_is hs hk, list_sok hs hk, e2, e1]
        have hpw := List.pairwise_append.1 (e1 ▸ hk.lok).2
        rw [idxF_at x b a 0 fun y hy => by
          have h1 := hpw.2.2 y hy x (by simp)
          have h2 := (hk.lok.1 y (by rw [e1]; simp [hy])).vd
          unfold Bef Vd at *; omega]
        simp
      · unfold agrowK rgrowF
        rw [acF_eq hs, h, e]; rfl
  have e : (decide (p < 0) || decide (p ≥ 512)) = false := by simp only [Bool.or_eq_false_iff, decide_eq_false_iff_not]; omega
  have wp : w64 (p - 1) = p - 1 := w_small (by omega) (by omega)
  have hfi := fa_find (p := p) hk.lok
  cases hn : (nextF t p).2 with
  | false =>
    have hn' := hn
    rw [next_is hs hk] at hn'
    rw [hn'] at hfi
    have hall := fa_none hn'
    refine ⟨0, (fun _ h2 => by rw [hn] at h2; cases h2), ?_⟩
    unfold agrowK rgrowF
    rw [acF_eq hs, h, e, hn, rfind_is hs hk, ← hfi, rls_sok hs hk]
    simp only [Bool.false_and, bne_self_eq_false, cond_false, Bool.not_false, Bool.true_or, cond_true]
    cases (rfindF t (w64 (p - 1))).2 with
    | true => rfl
    | false =>
      rw [cond_false, rgF_none']
      intro y hy
      have h1 := hall y hy
      have h2 := (hk.lok.1 y hy).vd
      unfold Vd at h2; omega
  | true =>
    have hn' := hn
    rw [next_is hs hk] at hn'
    obtain ⟨a, x, b, e1, e2, e3, e4⟩ := fa_split hn'
    have hpw := List.pairwise_append.1 (e1 ▸ hk.lok).2
    have hx := hk.lok.1 x (by rw [e1]; simp)
    have hid : idxF x (a ++ x :: b) 0 = ((0 + a.length : Nat) : Int) := idxF_at x b a 0 fun y hy => by
      have h1 := hpw.2.2 y hy x (by simp)
      have h2 := (hk.lok.1 y (by rw [e1]; simp [hy])).vd
      unfold Bef Vd at *; omega
    refine ⟨a.length, fun _ _ => ?_, ?_⟩
    · rw [next_is hs hk, list_sok hs hk, e2, e1, hid]; simp
    · unfold agrowK rgrowF
      rw [e2] at hfi
      rw [acF_eq hs, h, e, next_is hs hk, e2, rfind_is hs hk, rfind_is hs hk, ← hfi, find_is hs hk, wp, list_sok hs hk, rls_sok hs hk]
      simp only [bne_self_eq_false, cond_false, Bool.true_and, Bool.not_true, Bool.false_or]
      by_cases c : x.start ≤ p
      · rw [dT c, dF (show ¬ x.start > p by omega)]; rfl
      · rw [dF c, dT (show x.start > p by omega)]
        simp only [cond_true, cond_false]
        cases hb : (rfnL (p - 1) (lst t)).2 with
        | true => simp
        | false =>
          have hlow : ∀ y ∈ a, y.start + y.pages < p := fun y hy => by
            have h1 := e4 y hy
            have h2 := (hk.lok.1 y (by rw [e1]; simp [hy])).vd
            unfold Vd at h2
            have h3 : ¬ (y.start ≤ p - 1 ∧ p - 1 < y.start + y.pages) := fun h4 => by
              rw [(rfnL_iff hk.lok).2 ⟨y, by rw [e1]; simp [hy], h4⟩] at hb; cases hb
            omega
          have hr := rgF_at (l := lst t) (p := p) x b (by omega) a 0 fun y hy => by
            have h2 := (hk.lok.1 y (by rw [e1]; simp [hy])).vd
            have h3 := hlow y hy
            unfold Vd at h2; omega
          rw [show rgF p (lst t) (lst t) 0 = rgF p (lst t) (a ++ x :: b) 0 by rw [← e1], hr, (gr_fl hx).1, (gr_fl hx).2]
          cases hfl : flagR x 2 with
          | false => rfl
          | true =>
            simp only [Bool.not_true, Bool.or_false, cond_false, Nat.zero_add]
            rw [e1, atR_mid, set_mid, grR_is hx hp.1 (by omega)]
            have hg := grow_mid (e1 ▸ hk.lok) hp.1 (by omega) hlow hfl
            have hnm : NM (a ++ growR x p :: b) := nm_mid a b x (growR x p) (by have := hk.nm; rw [e1] at this; exact this) (fun z hz => by
              cases hm : rmrg z (growR x p) with
              | false => rfl
              | true =>
                have h1 := (rmrg_iff.1 hm).at_
                have h2 := hlow z hz
                have h3 : z.start + z.pages = p := h1
                omega) fun z hz => by
              cases hm : rmrg (growR x p) z with
              | false => rfl
              | true =>
                have h1 := (rmrg_iff.1 hm).noG
                have h2 : flagR (growR x p) 2 = flagR x 2 := rfl
                rw [h2, hfl] at h1; cases h1
            have hlen : (a ++ growR x p :: b).length ≤ BIG := by
              have := hk.few
              rw [e1] at this
              simp only [List.length_append, List.length_cons] at this ⊢
              unfold BIG; omega
            have := abuild_eq hlen hg
            rwa [nrm_id hnm] at this
end Go.Proofs.Ytalcipbagidbpaa
end

section
set_option linter.unusedVariables false
namespace Go.Proofs.Ytalcipbagidbpaa
open Go.Proofs
def gl (n : Int) : List Rg → Int → Int → Int
  | [], s, to => if to - s ≥ n then s else -1
  | x :: xs, s, to => if x.start - s ≥ n then s else gl n xs (max s (x.start + x.pages)) to
theorem gl_neg {n : Int} : ∀ {l : List Rg} {s to : Int}, to - s < n → (∀ x ∈ l, x.start ≤ to) → gl n l s to = -1
  | [], s, to, h, _ => by rw [gl, if_neg (by omega)]
  | x :: xs, s, to, h, hx => by
    have := hx x (by simp)
    rw [gl, if_neg (by omega)]
    exact gl_neg (by omega) fun y hy => hx y (by simp [hy])
/-- No gap of n pages. -/
def Tight (n : Int) : List Rg → Int → Int → Prop
  | [], fr, to => to - fr < n
  | x :: xs, fr, to => x.start - fr < n ∧ Tight n xs (x.start + x.pages) to
theorem gl_tight {n : Int} : ∀ {l : List Rg} {fr s to : Int}, Tight n l fr to → fr ≤ s → gl n l s to = -1
  | [], fr, s, to, h, hs => by unfold Tight at h; rw [gl, if_neg (by omega)]
  | x :: xs, fr, s, to, h, hs => by
    obtain ⟨h1, h2⟩ := h
    rw [gl, if_neg (by omega)]
    exact gl_tight h2 (by omega)
theorem Tight.app {n : Int} {y : Rg} : ∀ {a b : List Rg} {fr to : Int}, Tight n a fr y.start → Tight n b (y.start + y.pages) to → Tight n (a ++ y :: b) fr to
  | [], b, fr, to, h1, h2 => ⟨h1, h2⟩
  | x :: a, b, fr, to, h1, h2 => ⟨h1.1, Tight.app h1.2 h2⟩
theorem gl_app {n : Int} {y : Rg} : ∀ {a b : List Rg} {s to : Int}, 0 ≤ s → (∀ x ∈ a, x.start + x.pages ≤ y.start ∧ Vd x) → 1 ≤ y.pages → gl n (a ++ y :: b) s to = if gl n a s y.start ≥ 0 then gl n a s y.start else gl n b (max s (y.start + y.pages)) to
  | [], b, s, to, hs, h, hp => by
    have e2 : gl n ([] ++ y :: b) s to = if y.start - s ≥ n then s else gl n b (max s (y.start + y.pages)) to := rfl
    rw [e2]
    by_cases c : y.start - s ≥ n
    · have e : gl n [] s y.start = s := by rw [gl, if_pos c]
      rw [if_pos c, e, if_pos hs]
    · have e : gl n [] s y.start = -1 := by rw [gl, if_neg c]
      rw [if_neg c, e, if_neg (by omega)]
  | x :: a, b, s, to, hs, h, hp => by
    obtain ⟨h1, h2⟩ := h x (by simp)
    unfold Vd at h2
    have e2 : gl n ((x :: a) ++ y :: b) s to = if x.start - s ≥ n then s else gl n (a ++ y :: b) (max s (x.start + x.pages)) to := rfl
    rw [e2]
    by_cases c : x.start - s ≥ n
    · have e : gl n (x :: a) s y.start = s := by rw [gl, if_pos c]
      rw [if_pos c, e, if_pos hs]
    · have e : gl n (x :: a) s y.start = gl n a (max s (x.start + x.pages)) y.start := by rw [gl, if_neg c]
      rw [if_neg c, e, gl_app (by omega) (fun z hz => h z (by simp [hz])) hp,
        show max (max s (x.start + x.pages)) (y.start + y.pages) = max s (y.start + y.pages) by omega]
/-! ### The numbers of a node -/
structure FLG (t : Tr) : Prop where
  f : 0 ≤ t.f ∧ t.f ≤ 512
  l : 0 ≤ t.l ∧ t.l ≤ 512
  tight : ∀ (n fr to : Int), 1 ≤ n → t.f - fr < n → t.g < n → to - t.l < n → Tight n (lst t) fr to
theorem flg_is {t : Tr} (hg : Good t) : t.sz ≤ BIG → Ord (lst t) → t.h ≠ 0 → FLG t := by
  induction hg with
  | leaf => intro _ _ h; exact absurd rfl h
  | @node a b x ha hb h1 h2 iha ihb =>
    intro hs ho _
    rw [sz_nodeF] at hs
    have la := ha.h_le (by omega)
    have lb := hb.h_le (by omega)
    rw [lst_nodeG ha hb hs] at ho
    have hv := ho.1 x (by simp)
    have hp := List.pairwise_append.1 ho.2
    have oa : Ord (lst a) := ⟨fun y hy => ho.1 y (by simp [hy]), hp.1⟩
    have ob : Ord (lst b) := ⟨fun y hy => ho.1 y (by simp [hy]), (List.pairwise_cons.1 hp.2.1).2⟩
    have hve := hv.end
    unfold Vd at hv
    have ea : ¬ a.h > 0 → a = zT := fun h => by
      rcases ha.inv (by omega) with e | ⟨_, _, _, e, _, _, _, _, _, e2, e3, e4⟩
      · exact e
      · omega
    have eb : ¬ b.h > 0 → b = zT := fun h => by
      rcases hb.inv (by omega) with e | ⟨_, _, _, e, _, _, _, _, _, e2, e3, e4⟩
      · exact e
      · omega
    have ef : (nodeF a x b).f = if a.h > 0 then a.f else x.start := rfl
    have el : (nodeF a x b).l = if b.h > 0 then b.l else x.end := rfl
    have eg : (nodeF a x b).g = (if b.h > 0 then imax (if a.h > 0 then imax (imax a.g b.g) (IntKind.i64.wrap (x.start - a.l)) else imax a.g b.g) (IntKind.i64.wrap (b.f - x.end))
      else if a.h > 0 then imax (imax a.g b.g) (IntKind.i64.wrap (x.start - a.l)) else imax a.g b.g) := rfl
    simp only [imax_def, hve] at eg el
    refine ⟨?_, ?_, ?_⟩
    · rw [ef]
      split
      · exact (iha (by omega) oa (by omega)).f
      · omega
    · rw [el]
      split
      · exact (ihb (by omega) ob (by omega)).l
      · omega
    · intro n fr to hn hf hgn hl
      rw [lst_nodeG ha hb hs]
      have wa : a.h > 0 → IntKind.i64.wrap (x.start - a.l) = x.start - a.l := fun h => by
        have := (iha (by omega) oa (by omega)).l
        exact wrap_id (by omega) (by omega)
      have wb : b.h > 0 → IntKind.i64.wrap (b.f - (x.start + x.pages)) = b.f - (x.start + x.pages) := fun h => by
        have := (ihb (by omega) ob (by omega)).f
        exact wrap_id (by omega) (by omega)
      have gz : zT.g = 0 := rfl
      refine Tight.app ?_ ?_
      · by_cases ca : a.h > 0
        · rw [ef, if_pos ca] at hf
          refine (iha (by omega) oa (by omega)).tight n fr x.start hn hf ?_ ?_
          · by_cases cb : b.h > 0
            · simp only [if_pos ca, if_pos cb, wa ca, wb cb] at eg; omega
            · simp only [if_pos ca, if_neg cb, wa ca] at eg; omega
          · by_cases cb : b.h > 0
            · simp only [if_pos ca, if_pos cb, wa ca, wb cb] at eg; omega
            · simp only [if_pos ca, if_neg cb, wa ca] at eg; omega
        · rw [ef, if_neg ca] at hf
          rw [ea ca, lst_zT]
          exact hf
      · by_cases cb : b.h > 0
        · rw [el, if_pos cb] at hl
          refine (ihb (by omega) ob (by omega)).tight n (x.start + x.pages) to hn ?_ ?_ hl
          · by_cases ca : a.h > 0
            · simp only [if_pos ca, if_pos cb, wa ca, wb cb] at eg; omega
            · simp only [if_neg ca, if_pos cb, wb cb] at eg; omega
          · by_cases ca : a.h > 0
            · simp only [if_pos ca, if_pos cb, wa ca, wb cb] at eg; omega
            · simp only [if_neg ca, if_pos cb, wb cb] at eg; omega
        · rw [el, if_neg cb] at hl
          rw [eb cb, lst_zT]
          exact hl
theorem gapS_is {fr to lo n : Int} (h1 : 0 ≤ fr ∧ fr ≤ 512) (h2 : 0 ≤ to ∧ to ≤ 512) (h3 : 0 ≤ lo ∧ lo ≤ 512) : gapS fr to lo n = gl n [] (max fr lo) to := by
  unfold gapS gl
  have e : (if lo > fr then lo else fr) = max fr lo := by omega
  rw [e, show IntKind.i64.wrap (to - max fr lo) = to - max fr lo from wrap_id (by omega) (by omega)]
  by_cases c : to - max fr lo ≥ n
  · rw [dT c, if_pos c]; rfl
  · rw [dF c, if_neg c]; rfl
theorem gap_is {n lo : Int} (hn : 1 ≤ n ∧ n ≤ 512) (hlo : 0 ≤ lo ∧ lo ≤ 512) {t : Tr} (hg : Good t) : t.sz ≤ BIG → Ord (lst t) → ∀ (fr to : Int), 0 ≤ fr → fr ≤ to → to ≤ 512 → (∀ x ∈ lst t, fr ≤ x.start ∧ x.start + x.pages ≤ to) → gapF n lo t fr to = gl n (lst t) (max fr lo) to := by
  induction hg with
  | leaf =>
    intro _ _ fr to h1 h2 h3 _
    rw [gapF_else n lo zT fr to (fun h => by cases h), lst_zT]
    exact gapS_is ⟨h1, by omega⟩ ⟨by omega, h3⟩ hlo
  | @node a b x ha hb h1 h2 iha ihb =>
    intro hs ho fr to h3 h4 h5 hx
    have hs' := hs
    rw [sz_nodeF] at hs
    have hh := h_node ha hb (by omega) x
    rw [imax_def] at hh
    have la := ha.h_le (by omega)
    have lb := hb.h_le (by omega)
    have wt : w64 (to - lo) = to - lo := w_small (by omega) (by omega)
    have h0 : ((nodeF a x b).h == 0) = false := by simp; omega
    by_cases c : to - lo < n
    · rw [gapF_else n lo _ fr to (fun _ => by rw [wt]; exact dT c), gapS_is ⟨h3, by omega⟩ ⟨by omega, h5⟩ hlo, gl_neg (by omega) (by simp), gl_neg (by omega) fun y hy => by
        have h6 := hx y hy
        have h7 := ho.1 y hy
        unfold Vd at h7; omega]
    · rw [nodeF_is] at h0
      have e := gapF_two n lo (nodeF a x b).h (nodeF a x b).f (nodeF a x b).l (nodeF a x b).g x a b fr to h0 (by rw [wt]; exact dF c)
      rw [← nodeF_is] at e
      rw [e]
      rw [lst_nodeG ha hb hs] at ho hx ⊢
      have hv := ho.1 x (by simp)
      have hp := List.pairwise_append.1 ho.2
      have oa : Ord (lst a) := ⟨fun y hy => ho.1 y (by simp [hy]), hp.1⟩
      have ob : Ord (lst b) := ⟨fun y hy => ho.1 y (by simp [hy]), (List.pairwise_cons.1 hp.2.1).2⟩
      have hve := hv.end
      have hxx := hx x (by simp)
      unfold Vd at hv
      have hba : ∀ y ∈ lst a, y.start + y.pages ≤ x.start ∧ Vd y := fun y hy => ⟨hp.2.2 y hy x (by simp), ho.1 y (by simp [hy])⟩
      rw [gl_app (by omega) hba hv.2.1, hve, ihb (by omega) ob (x.start + x.pages) to (by omega) (by omega) h5 (fun y hy => ⟨(List.pairwise_cons.1 hp.2.1).1 y hy, (hx y (by simp [hy])).2⟩),
        show max (max fr lo) (x.start + x.pages) = max (x.start + x.pages) lo by omega]
      rw [iha (by omega) oa fr x.start h3 (by omega) (by omega) (fun y hy => ⟨(hx y (by simp [hy])).1, (hba y hy).1⟩)]
      have wx : w64 (x.start - lo) = x.start - lo := w_small (by omega) (by omega)
      cases hC : gapC a x fr lo n with
      | true =>
        rw [cond_true]
        by_cases c2 : gl n (lst a) (max fr lo) x.start ≥ 0
        · rw [dT c2, if_pos c2]; rfl
        · rw [dF c2, if_neg c2]; rfl
      | false =>
        rw [cond_false, if_neg]
        have key : gl n (lst a) (max fr lo) x.start = -1 := by
          by_cases c2 : x.start - lo ≥ n
          · unfold gapC at hC
            rw [wx, dT c2, Bool.true_and] at hC
            simp only [Bool.or_eq_false_iff, decide_eq_false_iff_not, beq_eq_false_iff_ne] at hC
            obtain ⟨q1, q2, q3, q4⟩ := hC
            have F := flg_is ha (by omega) oa q1
            have f1 := F.f
            have f2 := F.l
            rw [w_small (n := a.f - fr) (by omega) (by omega)] at q3
            rw [w_small (n := x.start - a.l) (by omega) (by omega)] at q4
            exact gl_tight (F.tight n fr x.start hn.1 (by omega) (by omega) (by omega)) (by omega)
          · exact gl_neg (by omega) fun y hy => by
              have h7 := hba y hy
              unfold Vd at h7; omega
        rw [key]; omega
/-! ### What the lowest gap is -/
/-- The pages from q on are free. -/
def Free (l : List Rg) (q n : Int) : Prop := ∀ x ∈ l, ¬ (x.start < q + n ∧ q < x.start + x.pages)
theorem gl_spec {n : Int} (hn : 1 ≤ n) : ∀ {l : List Rg} {s to : Int}, 0 ≤ s → Ord l → (gl n l s to = -1 ∧ (∀ q, s ≤ q → q + n ≤ to → ¬ Free l q n)) ∨ (s ≤ gl n l s to ∧ (Free l (gl n l s to) n) ∧ (∀ q, s ≤ q → q < gl n l s to → ¬ Free l q n) ∧ ((∀ x ∈ l, x.start ≤ to) → gl n l s to + n ≤ to))
  | [], s, to, hs, ho => by
    rw [gl]
    by_cases c : to - s ≥ n
    · rw [if_pos c]; exact .inr ⟨Int.le_refl _, fun x hx => by simp at hx, fun q h1 h2 => by omega, fun _ => by omega⟩
    · rw [if_neg c]; exact .inl ⟨rfl, fun q h1 h2 => by omega⟩
  | x :: xs, s, to, hs, ho => by
    rw [gl]
    have hd := ho.head
    have hv := hd.1
    unfold Vd at hv
    by_cases c : x.start - s ≥ n
    · rw [if_pos c]
      refine .inr ⟨Int.le_refl _, fun y hy => ?_, fun q h1 h2 => by omega, fun h => by have := h x (by simp); omega⟩
      rcases List.mem_cons.1 hy with rfl | hy
      · omega
      · have := hd.2 y hy
        unfold Bef at this
        omega
    · rw [if_neg c]
      rcases gl_spec hn (l := xs) (s := max s (x.start + x.pages)) (to := to) (by omega) ho.tail with ⟨h1, h2⟩ | ⟨h1, h2, h3, h4⟩
      · refine .inl ⟨h1, fun q h5 h6 hf => ?_⟩
        by_cases c2 : q < x.start + x.pages
        · exact hf x (by simp) ⟨by omega, c2⟩
        · exact h2 q (by omega) h6 fun y hy => hf y (by simp [hy])
      · refine .inr ⟨by omega, fun y hy => ?_, fun q h5 h6 hf => ?_, fun h => h4 fun y hy => h y (by simp [hy])⟩
        · rcases List.mem_cons.1 hy with rfl | hy
          · omega
          · exact h2 y hy
        · by_cases c2 : q < x.start + x.pages
          · exact hf x (by simp) ⟨by omega, c2⟩
          · exact h3 q (by omega) h6 fun y hy => hf y (by simp [hy])
theorem gap_top {t : Tr} (hg : Good t) (hs : t.sz ≤ BIG) (ho : Ord (lst t)) {n lo : Int} (hn : 1 ≤ n ∧ n ≤ 512) (hlo : 0 ≤ lo ∧ lo ≤ 512) : gapF n lo t 0 512 = gl n (lst t) lo 512 := by
  rw [gap_is hn hlo hg hs ho 0 512 (by omega) (by omega) (by omega) fun x hx => by
    have := ho.1 x hx
    unfold Vd at this; omega, show max 0 lo = lo by omega]
/-- Gap, by what it finds. -/
theorem gapT_spec {t : Tr} (hs : t.sz ≤ BIG) (hg : Good t) (ho : Ord (lst t)) {lo hi n : Int} (hn : 1 ≤ n ∧ n ≤ 512) (hlo : 0 ≤ lo ∧ lo ≤ hi ∧ hi ≤ 512) :
    (gapT t lo hi n = -1 ∧ ∀ q, lo ≤ q → q + n ≤ hi → ¬ Free (lst t) q n) ∨ (lo ≤ gapT t lo hi n ∧ gapT t lo hi n + n ≤ hi ∧ Free (lst t) (gapT t lo hi n) n ∧ ∀ q, lo ≤ q → q < gapT t lo hi n → ¬ Free (lst t) q n) := by
  have hA : gapA t lo hi n = false := by
    unfold gapA
    rw [(checkF_iff hs).2 ⟨hg, ho⟩, dF (show ¬ lo < 0 by omega), dF (show ¬ lo > hi by omega), dF (show ¬ hi > 512 by omega), dF (show ¬ n < 1 by omega), dF (show ¬ n > 512 by omega)]; rfl
  unfold gapT
  rw [hA, gap_top hg hs ho hn ⟨hlo.1, by omega⟩, w_small (n := hi - n) (by omega) (by omega), cond_false]
  have h5 : ∀ x ∈ lst t, x.start ≤ 512 := fun x hx => by
    have := ho.1 x hx
    unfold Vd at this; omega
  rcases gl_spec hn.1 (l := lst t) (s := lo) (to := 512) hlo.1 ho with ⟨h1, h2⟩ | ⟨h1, h2, h3, h4⟩
  · rw [h1]
    exact .inl ⟨rfl, fun q h6 h7 => h2 q h6 (by omega)⟩
  · have h4 := h4 h5
    by_cases c : gl n (lst t) lo 512 > hi - n
    · rw [dT c, Bool.or_true, cond_true]
      exact .inl ⟨rfl, fun q h6 h7 => h3 q h6 (by omega)⟩
    · rw [dF c, dF (show ¬ gl n (lst t) lo 512 < 0 by omega)]
      exact .inr ⟨h1, by show gl n (lst t) lo 512 + n ≤ hi; omega, h2, h3⟩
/-! ### Place -/
theorem plR_ok {p n : Int} (h0 : 0 ≤ p) (h1 : 1 ≤ n) (h2 : p + n ≤ 512) : Rok (plR p n) :=
  ⟨⟨h0, h1, h2⟩, .inl rfl, (by decide : (0 : Int) ≤ 0), (by decide : (0 : Int) ≤ 15), (by decide : (-1 : Int) ≤ -1), (by decide : (-1 : Int) < 4), fun _ => ⟨(by decide : flagR ⟨0, 0, 0, 0, 0, 0⟩ 1 = false), rfl⟩, fun h => absurd rfl h⟩
theorem rtree_code {l : List Rg} : (rtreeF l).2 = 0 ∨ (rtreeF l).2 = 9 := by
  unfold rtreeF
  cases decide (((rnrm l).length : Int) > 12)
  · exact .inl rfl
  · exact .inr rfl
theorem rmap_code {t : Tr} (hs : t.sz ≤ BIG) (h : Sok t) {p n : Int} (h0 : 0 ≤ p) (h1 : 1 ≤ n) (h2 : p + n ≤ 512) : ((rmapF t (plR p n)).2 != 7) = true ↔ Free (lst t) p n := by
  have hr := plR_ok h0 h1 h2
  unfold rmapF
  rw [(rcF_iff hs).2 h, rchk0 hr, rls_sok hs h]
  simp only [bne_self_eq_false, cond_false]
  cases ho : rmO (plR p n) (lst t) with
  | true =>
    simp only [cond_true]
    obtain ⟨x, hx, h3⟩ := (rmO_iff hr h.lok).1 ho
    constructor
    · intro hh; cases hh
    · intro hf; exact absurd h3 (hf x hx)
  | false =>
    rw [cond_false]
    constructor
    · intro _ x hx h3
      rw [(rmO_iff hr h.lok).2 ⟨x, hx, h3⟩] at ho; cases ho
    · intro _
      rcases rtree_code (l := rinL t (plR p n)) with e | e <;> rw [e] <;> rfl
theorem rplN_spec {t : Tr} (hs : t.sz ≤ BIG) (h : Sok t) {n : Int} (hn : 1 ≤ n) : ∀ (k : Nat) (p : Int), 0 ≤ p → p + (k : Int) + n ≤ 513 → (rplN t n k p = -1 ∧ ∀ q, p ≤ q → q < p + k → ¬ Free (lst t) q n) ∨ (p ≤ rplN t n k p ∧ rplN t n k p < p + k ∧ Free (lst t) (rplN t n k p) n ∧ ∀ q, p ≤ q → q < rplN t n k p → ¬ Free (lst t) q n)
  | 0, p, h0, h1 => .inl ⟨rfl, fun q h2 h3 => by omega⟩
  | k + 1, p, h0, h1 => by
    have hc := rmap_code hs h (p := p) h0 hn (by omega)
    rw [rplN]
    cases hb : (rmapF t (plR p n)).2 != 7 with
    | true => exact .inr ⟨Int.le_refl _, by show p < _; omega, hc.1 hb, fun q h2 h3 => by have h3 : q < p := h3; omega⟩
    | false =>
      have hno : ¬ Free (lst t) p n := fun hf => by rw [hc.2 hf] at hb; cases hb
      rw [cond_false]
      rcases rplN_spec hs h hn k (p + 1) (by omega) (by omega) with ⟨h2, h3⟩ | ⟨h2, h3, h4, h5⟩
      · refine .inl ⟨h2, fun q h6 h7 => ?_⟩
        by_cases c : q = p
        · rw [c]; exact hno
        · exact h3 q (by omega) (by omega)
      · refine .inr ⟨by omega, by omega, h4, fun q h6 h7 => ?_⟩
        by_cases c : q = p
        · rw [c]; exact hno
        · exact h5 q (by omega) h7
theorem place_eq {t : Tr} (hs : t.sz ≤ BIG) (n : Int) : placeF t n = rplaceF t n := by
  unfold placeF rplaceF
  rw [acF_eq hs]
  by_cases h : rcF t = 0
  · have hk := (rcF_iff hs).1 h
    rw [h]
    simp only [bne_self_eq_false, cond_false, Bool.false_or]
    by_cases hn : 1 ≤ n ∧ n ≤ 512
    · rw [dF (show ¬ n < 1 by omega), dF (show ¬ n > 512 by omega)]
      simp only [Bool.or_self, cond_false]
      rcases gapT_spec hs hk.good hk.lok.ord (lo := 0) (hi := 512) hn (by omega) with ⟨a1, a2⟩ | ⟨a1, a2, a3, a4⟩
      · rcases rplN_spec hs hk hn.1 (512 - n + 1).toNat 0 (by omega) (by omega) with ⟨b1, b2⟩ | ⟨b1, b2, b3, b4⟩
        · rw [a1, b1]
        · exact absurd b3 (a2 _ b1 (by omega))
      · rcases rplN_spec hs hk hn.1 (512 - n + 1).toNat 0 (by omega) (by omega) with ⟨b1, b2⟩ | ⟨b1, b2, b3, b4⟩
        · exact absurd a3 (b2 _ a1 (by omega))
        · rcases Int.lt_trichotomy (gapT t 0 512 n) (rplN t n (512 - n + 1).toNat 0) with c | c | c
          · exact absurd a3 (b4 _ a1 c)
          · exact c
          · exact absurd b3 (a4 _ b1 c)
    · have e : (decide (n < 1) || decide (n > 512)) = true := by simp only [Bool.or_eq_true, decide_eq_true_eq]; omega
      rw [e, cond_true]
      unfold gapT
      have hA : gapA t 0 512 n = true := by
        unfold gapA
        rw [e]; simp
      rw [hA]; rfl
  · rw [bne0.2 h]; rfl
end Go.Proofs.Ytalcipbagidbpaa
end

section
set_option linter.unusedVariables false
namespace Go.Proofs.Ytalcipbagidbpaa
open Go.Proofs
/-! ### Few -/
theorem nodes_le (t : Tr) : (nodesF t).length ≤ t.sz := by
  induction t using Tr.ind with
  | h t ih =>
    cases t with
    | mk h f l g x k =>
      by_cases hk : ∃ a b, k = [a, b]
      · obtain ⟨a, b, rfl⟩ := hk
        have ha := ih a (by simp [Tr.kids])
        have hb := ih b (by simp [Tr.kids])
        rw [nodesF_two, sz_mk]
        cases h == 0
        · simp only [cond_false, List.length_append, List.length_cons]; omega
        · simp
      · rw [nodesF_else]
        · simp
        · intro _
          rcases k with _ | ⟨a, _ | ⟨b, _ | ⟨c, k⟩⟩⟩
          · rfl
          · rfl
          · exact absurd ⟨a, b, rfl⟩ hk
          · simp only [Tr.kids, List.length_cons, bne_iff_ne]; omega
theorem nd_bd (t : Tr) : ∀ lim : Int, 0 ≤ lim → lim ≤ 200 → 1 ≤ ndF t lim ∧ (ndF t lim ≤ lim → (t.sz : Int) + 1 ≤ ndF t lim) ∧ ndF t lim ≤ max 1 (lim + 1) := by
  induction t using Tr.ind with
  | h t ih =>
    intro lim h0 h1
    rw [ndF_eq]
    have key : ∀ (k : List Tr), (∀ x ∈ k, ∀ lim : Int, 0 ≤ lim → lim ≤ 200 → 1 ≤ ndF x lim ∧ (ndF x lim ≤ lim → (x.sz : Int) + 1 ≤ ndF x lim) ∧ ndF x lim ≤ max 1 (lim + 1)) → ∀ n : Int, 1 ≤ n → n ≤ max 1 (lim + 1) →
        n ≤ ndL k n lim ∧ (ndL k n lim ≤ lim → n + (k.map fun x => (x.sz : Int) + 1).sum ≤ ndL k n lim) ∧ ndL k n lim ≤ max 1 (lim + 1) := by
      intro k
      induction k with
      | nil => intro _ n hn hm; rw [ndL]; simp; omega
      | cons x xs ihk =>
        intro hk n hn hm
        rw [ndL]
        by_cases c : n ≤ lim
        · obtain ⟨a1, a2, a3⟩ := hk x (by simp) (lim - n) (by omega) (by omega)
          rw [dT c, cond_true, w_small (n := lim - n) (by omega) (by omega), w_small (n := n + ndF x (lim - n)) (by omega) (by omega)]
          obtain ⟨b1, b2, b3⟩ := ihk (fun y hy => hk y (by simp [hy])) (n + ndF x (lim - n)) (by omega) (by omega)
          refine ⟨by omega, fun h => ?_, b3⟩
          have b2 := b2 h
          have a2 := a2 (by omega)
          simp only [List.map_cons, List.sum_cons]
          omega
        · rw [dF c, cond_false]
          exact ⟨Int.le_refl _, fun h => absurd h c, hm⟩
    obtain ⟨a, b, c⟩ := key t.kids (fun x hx lim => ih x hx lim) 1 (Int.le_refl _) (by omega)
    refine ⟨a, fun h => ?_, c⟩
    have b := b h
    have e : (t.sz : Int) ≤ (t.kids.map fun x => (x.sz : Int) + 1).sum := by
      cases t with
      | mk hh f l g x k =>
        by_cases hk : ∃ a b, k = [a, b]
        · obtain ⟨a, b, rfl⟩ := hk
          rw [sz_mk]
          simp [Tr.kids]; omega
        · have : (Tr.mk hh f l g x k).sz = 0 := by
            unfold Tr.sz
            split
            · rename_i e; simp only [Tr.mk.injEq] at e; exact absurd ⟨_, _, e.2.2.2.2.2⟩ hk
            · rfl
          rw [this]
          have pos : ∀ k : List Tr, 0 ≤ (k.map fun x => (x.sz : Int) + 1).sum := by
            intro k
            induction k with
            | nil => simp
            | cons y ys ihy => simp only [List.map_cons, List.sum_cons]; omega
          exact pos _
    omega
theorem few_sz {t : Tr} (h : fewF t = true) : t.sz ≤ 200 := by
  unfold fewF at h
  rw [decide_eq_true_eq] at h
  have := (nd_bd t 200 (by decide) (by decide)).2.1 h
  omega
/-! ### Same -/
theorem smF_refl (t : Tr) : smF t t = true := by
  induction t using Tr.ind with
  | h t ih =>
    rw [smF_eq]
    have hA : smA t t = false := by unfold smA; simp
    rw [hA, cond_false]
    have key : ∀ k : List Tr, (∀ x ∈ k, smF x x = true) → smL k k = true := by
      intro k
      induction k with
      | nil => intro _; rw [smL]; simp
      | cons x xs ihk =>
        intro hk
        rw [smL, hk x (by simp)]
        exact ihk fun y hy => hk y (by simp [hy])
    exact key _ fun x hx => ih x hx
/-! ### The calls -/
theorem sz_big {t : Tr} (hs : t.sz ≤ 1000000) : t.sz ≤ BIG := Nat.le_trans hs (by decide)
theorem nodes_n {t : Tr} (hs : t.sz ≤ 1000000) : (nodesF t).length ≤ 1000000 := Nat.le_trans (nodes_le t) hs
theorem rb0 {l : List Rg} (hl : l.length ≤ BIG) : RBOK (rnrm l) zT := (bld0 (Nat.le_trans (rnrm_len l) hl)).rok
theorem bl0 {l : List Rg} (hl : l.length ≤ BIG) : (nrmL l).all validF = true → BldOK (nrmL l) 0 zT := fun _ => (bld0 (Nat.le_trans (nrmL_len l) hl)).ok 0
theorem insL_len (l : List Rg) (r : Rg) : (insL l r).length = l.length + 1 := by
  have := mapAt_le l r
  unfold insL; simp; omega
theorem listF_le {t : Tr} {n : Nat} (h : (nodesF t).length ≤ n) : (listF t).length ≤ n := by
  unfold listF
  cases checkF t != 0 <;> simp [h]
section
variable {t : Tr} (hs : t.sz ≤ 1000000)
include hs
theorem map1 (r : Rg) : PS Try.prog 17 [t.v, r.v] (.tup [(rmapF t r).1.v, .int .i64 (rmapF t r).2]) := by
  have hn := nodes_n hs
  rw [← amap_eq hs r]
  exact amap_ps t r (Nat.le_trans hn (by decide)) (bl0 (by rw [insL_len]; have := listF_le hn; unfold BIG; omega))
theorem map2 (r : Rg) : PS Try.prog 18 [t.v, r.v] (.tup [(rmapF t r).1.v, .int .i64 (rmapF t r).2]) := by
  have hn := nodes_n hs
  exact rmap_ps t r (Nat.le_trans hn (by decide)) (rb0 (Nat.le_trans (rinL_len hn) (by decide)))
theorem unmap1 (p c : Int) : PS Try.prog 22 [t.v, .int .i64 p, .int .i64 c] (.tup [(rumF t p c).1.v, .int .i64 (rumF t p c).2]) := by
  have hn := nodes_n hs
  rw [← unmap_eq hs p c]
  exact unmap_ps t p c (Nat.le_trans hn (by decide)) (bl0 (by unfold unL; have := flatMap_len (f := fun r => cutL r p c) (fun r => cutL_len r p c) (listF t); have := listF_le hn; unfold BIG; omega))
theorem unmap2 (p c : Int) : PS Try.prog 23 [t.v, .int .i64 p, .int .i64 c] (.tup [(rumF t p c).1.v, .int .i64 (rumF t p c).2]) := by
  have hn := nodes_n hs
  exact runmap_ps t p c (Nat.le_trans hn (by decide)) (rb0 (Nat.le_trans (rumL_len hn) (by decide)))
theorem prot1 (p c pr : Int) : PS Try.prog 32 [t.v, .int .i64 p, .int .i64 c, .int .i64 pr] (.tup [(rproF t p c pr).1.v, .int .i64 (rproF t p c pr).2]) := by
  have hn := nodes_n hs
  rw [← protect_eq (sz_big hs) p c pr]
  exact protect_ps t p c pr (Nat.le_trans hn (by decide)) (fun h => cov_ok (sz_big hs) ((rcF_iff (sz_big hs)).1 (by rw [acF_eq (sz_big hs)] at h; exact bne0f.1 h))) (bl0 (by unfold chgL; have := chgL_len' (listF_le hn) (proO pr) (proT pr) p c; unfold BIG; omega))
theorem prot2 (p c pr : Int) : PS Try.prog 33 [t.v, .int .i64 p, .int .i64 c, .int .i64 pr] (.tup [(rproF t p c pr).1.v, .int .i64 (rproF t p c pr).2]) := by
  have hn := nodes_n hs
  exact rpro_ps t p c pr (Nat.le_trans hn (by decide)) (rb0 (Nat.le_trans (rcgL_len (rlsF_len hn)) (by decide)))
theorem lock1 (p c : Int) (on : Bool) : PS Try.prog 34 [t.v, .int .i64 p, .int .i64 c, .bool on] (.tup [(rlockF t p c on).1.v, .int .i64 (rlockF t p c on).2]) := by
  have hn := nodes_n hs
  rw [← lock_eq (sz_big hs) p c on]
  exact lock_ps t p c on (Nat.le_trans hn (by decide)) (fun h => cov_ok (sz_big hs) ((rcF_iff (sz_big hs)).1 (by rw [acF_eq (sz_big hs)] at h; exact bne0f.1 h))) (bl0 (by unfold chgL; have := chgL_len' (listF_le hn) (lockO on) lockT p c; unfold BIG; omega))
theorem lock2 (p c : Int) (on : Bool) : PS Try.prog 35 [t.v, .int .i64 p, .int .i64 c, .bool on] (.tup [(rlockF t p c on).1.v, .int .i64 (rlockF t p c on).2]) := by
  have hn := nodes_n hs
  exact rlock_ps t p c on (Nat.le_trans hn (by decide)) (rb0 (Nat.le_trans (rcgL_len (rlsF_len hn)) (by decide)))
theorem grow1 (p : Int) : PS Try.prog 24 [t.v, .int .i64 p] (.tup [(rgrowF t p).1.v, .int .i64 (rgrowF t p).2]) := by
  have hn := nodes_n hs
  obtain ⟨k, hk⟩ := grow_is (sz_big hs) p
  rw [← hk.eq]
  exact agrow_ps t p k (Nat.le_trans hn (by decide)) hk.hk (fun _ => (bld0 (by rw [List.length_set]; exact Nat.le_trans (listF_le hn) (by decide))).ok 0)
theorem grow2 (p : Int) : PS Try.prog 25 [t.v, .int .i64 p] (.tup [(rgrowF t p).1.v, .int .i64 (rgrowF t p).2]) := by
  have hn := nodes_n hs
  exact rgrow_ps t p (Nat.le_trans hn (by decide)) fun i => rb0 (by rw [List.length_set]; exact Nat.le_trans (rlsF_len hn) (by decide))
theorem find1 (p : Int) : PS Try.prog 26 [t.v, .int .i64 p] (.tup [(rfindF t p).1.v, .bool (rfindF t p).2]) := by
  rw [← afind_eq (sz_big hs) p]
  exact afind_ps t p (Nat.le_trans (nodes_n hs) (by decide))
theorem find2 (p : Int) : PS Try.prog 27 [t.v, .int .i64 p] (.tup [(rfindF t p).1.v, .bool (rfindF t p).2]) := rfind_ps t p (Nat.le_trans (nodes_n hs) (by decide))
theorem check1 : PS Try.prog 28 [t.v] (.int .i64 (rcF t)) := by
  rw [← acF_eq (sz_big hs)]
  exact ac_ps t (Nat.le_trans (nodes_n hs) (by decide))
theorem check2 : PS Try.prog 29 [t.v] (.int .i64 (rcF t)) := rc_ps t (Nat.le_trans (nodes_n hs) (by decide))
theorem count1 : PS Try.prog 30 [t.v] (.int .i64 (rlsF t).length) := by
  rw [← acount_eq (sz_big hs)]
  exact acount_ps t (Nat.le_trans (nodes_n hs) (by decide))
theorem count2 : PS Try.prog 31 [t.v] (.int .i64 (rlsF t).length) := rcount_ps t (Nat.le_trans (nodes_n hs) (by decide))
theorem place1 (n : Int) : PS Try.prog 20 [t.v, .int .i64 n] (.int .i64 (rplaceF t n)) := by
  rw [← place_eq (sz_big hs) n]
  exact place_ps t n (Nat.le_trans (nodes_n hs) (by decide))
theorem place2 (n : Int) : PS Try.prog 21 [t.v, .int .i64 n] (.int .i64 (rplaceF t n)) := by
  have hn := nodes_n hs
  exact rplace_ps t n (Nat.le_trans hn (by decide)) fun p => rb0 (Nat.le_trans (rinL_len hn) (by decide))
end
/-! ### The results are small -/
end Go.Proofs.Ytalcipbagidbpaa
end
