/- DERIVED. A part of the proof of a statement of this seat (Lg, Ra, Rb, Rc). No statement of its own; no conditions. -/
import Derived.KernelRfl
import Derived.WalkKit
import Derived.ProofKit
import Derived.OpenShut
import Derived.ChangeOld
import Derived.Below
import Derived.SizedLaws
import Derived.ShutString
import Derived.Carry
import Derived.Test.YtalcipbagidbpaaWe
set_option linter.unusedVariables false
set_option linter.unusedSimpArgs false
set_option linter.unusedSectionVars false
set_option linter.unnecessarySimpa false
section
set_option linter.unusedVariables false
set_option maxHeartbeats 4000000
set_option maxRecDepth 100000
namespace Go.Proofs.Ytalcipbagidbpaa
open Go.Proofs
theorem seen_ok : FnOK Try.prog 43 Try.f43 (bodyOf Try.f43) := ⟨Try.func43, rfl, rfl⟩
theorem seen_vc (t : Tr) (p : Int) : vc Try.prog TA none [] [(11, tl (.tup [(rfindF t p).1.v, .bool (rfindF t p).2]))] (bodyOf Try.f43) ⟨startT Try.f43 [t.v, .int .i64 p], []⟩ (Fin TA Try.f43 (snV t p)) = (CallSem Try.prog (26 : Nat) [GV.agg [GV.int IntKind.i64 t.h, GV.int IntKind.i64 t.f, GV.int IntKind.i64 t.l, GV.int IntKind.i64 t.g, GV.int IntKind.i64 t.r.start, GV.int IntKind.i64 t.r.pages, GV.int IntKind.i64 t.r.prot, GV.int IntKind.i64 t.r.flags, GV.int IntKind.i64 t.r.file, GV.int IntKind.i64 t.r.index, GV.im t.kids.length t.K], GV.int IntKind.i64 p] [] (2 : Nat) (GV.tup [GV.agg [GV.int IntKind.i64 (rfindF t p).fst.start, GV.int IntKind.i64 (rfindF t p).fst.pages, GV.int IntKind.i64 (rfindF t p).fst.prot, GV.int IntKind.i64 (rfindF t p).fst.flags, GV.int IntKind.i64 (rfindF t p).fst.file, GV.int IntKind.i64 (rfindF t p).fst.index], GV.bool (rfindF t p).snd]) [] [] ∧ (6 : Nat) = (6 : Nat) ∧ true = true ∧ (6 : Nat) ≤ (6 : Nat) ∧ ((!(rfindF t p).snd) = true → (5 : Nat) = (5 : Nat) ∧ true = true ∧ (5 : Nat) ≤ (5 : Nat) ∧ (0 : Int) = sn0 t p ∧ (0 : Int) = sn1 t p ∧ (0 : Int) = sn2 t p ∧ (0 : Int) = sn3 t p ∧ (0 : Int) = sn4 t p ∧ True) ∧ ((!(rfindF t p).snd) = false → (decide ((rfindF t p).fst.file ≥ (0 : Int)) = true → (5 : Nat) = (5 : Nat) ∧ true = true ∧ (5 : Nat) ≤ (5 : Nat) ∧ (1 : Int) = sn0 t p ∧ (rfindF t p).fst.prot = sn1 t p ∧ IntKind.i64.wrap (↑(BitVec.ofInt IntKind.i64.bits (rfindF t p).fst.flags &&& ~~~BitVec.ofInt IntKind.i64.bits (2 : Int)).toNat : Int) = sn2 t p ∧ (rfindF t p).fst.file = sn3 t p ∧ IntKind.i64.wrap (IntKind.i64.wrap ((rfindF t p).fst.index + p) - (rfindF t p).fst.start) = sn4 t p ∧ True) ∧ (decide ((rfindF t p).fst.file ≥ (0 : Int)) = false → (5 : Nat) = (5 : Nat) ∧ true = true ∧ (5 : Nat) ≤ (5 : Nat) ∧ (1 : Int) = sn0 t p ∧ (rfindF t p).fst.prot = sn1 t p ∧ IntKind.i64.wrap (↑(BitVec.ofInt IntKind.i64.bits (rfindF t p).fst.flags &&& ~~~BitVec.ofInt IntKind.i64.bits (2 : Int)).toNat : Int) = sn2 t p ∧ (rfindF t p).fst.file = sn3 t p ∧ (0 : Int) = sn4 t p ∧ True))) := by kernel_rfl
theorem seen_ps (t : Tr) (p : Int) (hs : t.sz ≤ 1000000) : PS Try.prog 43 [t.v, .int .i64 p] (snV t p) := by
  refine .of_vcN mixedA tabA seen_ok (by repeat' (first | exact trivial | exact Rg.pur _ | exact Opr.pur _ | exact Pur.im (OL_pur _) | exact Tr.pur _ | exact zG_pur | exact Pur.agg (PurAll.mem ⟨Pur.int, Pur.int, trivial⟩) | exact PurL.eptr (purS (Eq.refl true)) | exact PurL.eptr (Tr.purc _) | exact Pur.int | exact Pur.bool | exact Pur.lit | exact Pur.im (KL_pur _) | exact Pur.im (RL_pur _) | exact PurL.eptr (purS (Eq.refl true)) | exact Pur.fn (PurAll.mem trivial) | exact Pur.fn (PurAll.mem ⟨PurL.eptr (purS (Eq.refl true)), trivial⟩) | refine And.intro ?_ ?_)) (seen_vc t p) ?_
  try simp only [sn0, sn1, sn2, sn3, sn4, noG, w64]
  repeat' (first | exact find1 hs p _ | exact Tr.purK _ | exact KL_pur _ | exact RL_pur _ | exact purS (Eq.refl true) | refine And.intro ?_ ?_ | (intro h_; first | (cases h_; done) | rw [h_] | (simp only [Bool.not_eq_true', Bool.not_eq_false'] at h_; rw [h_]) | skip))
  all_goals (first | exact trivial | with_reducible rfl | exact Nat.le_refl _ | exact Tr.purK _ | exact KL_pur _ | exact RL_pur _ | (simp only [bsm]; done) | (simp only [bsm]; exact rfl) | exact Nat.le_of_ble_eq_true (Eq.refl true) | assumption | (simp only [bsm, *]; done) | (simp [RL_length, RL_takeL, RL_append, RL, sn0, sn1, sn2, sn3, sn4, noG, w64, bsm]; done) | (refine PurAll.mem ?_; repeat' (first | exact trivial | exact Pur.int | exact Pur.bool | exact Pur.nils | exact Pur.im (Tr.purK _) | exact Pur.im (KL_pur _) | exact Pur.im (RL_pur _) | exact PurL.eptr (purS (Eq.refl true)) | exact Pur.fn (PurAll.mem trivial) | exact Pur.fn (PurAll.mem ⟨PurL.eptr (purS (Eq.refl true)), trivial⟩) | refine And.intro ?_ ?_)) | skip)
def lw_S (t : Tr) (n a : Int) (o : Option Int) (p : Int) (r : Int) (k : Nat) : St := ⟨tmL 53 [(2, .ptr 0 0), (4, .bool false), (5, .int .i64 n), (6, .int .i64 a), (7, .int .i64 r), (8, .int .i64 p)], [.blk t.cells 26]⟩
def lw_O (t : Tr) (n a : Int) (o : Option Int) (p : Int) (r : Int) (k : Nat) : List (Prop × Exit × St) := [(True, .ret, ⟨tmL 53 [(4, .bool true)], []⟩), (o = none, .exit 0, ⟨tmL 53 [(4, .bool false), (6, .int .i64 a)], []⟩)]
theorem lw_rd (t : Tr) (n a : Int) (o : Option Int) (p : Int) (r : Int) (k : Nat) (X : Prop) : vc Try.prog TA none [] [(33, tl (snV t p)), (46, tl (.bool true))] (loopOf 7 Try.f12) (lw_S t n a o p r k) (LoopK (lw_S t n a o (p + 1) (bif sn0 t p == 1 then 0 else w64 (r + 1)) (k - 1)) X (lw_O t n a o p r k)) = ((decide (p < (512 : Int)) = true → CallSem Try.prog (43 : Nat) [GV.agg [GV.int IntKind.i64 t.h, GV.int IntKind.i64 t.f, GV.int IntKind.i64 t.l, GV.int IntKind.i64 t.g, GV.int IntKind.i64 t.r.start, GV.int IntKind.i64 t.r.pages, GV.int IntKind.i64 t.r.prot, GV.int IntKind.i64 t.r.flags, GV.int IntKind.i64 t.r.file, GV.int IntKind.i64 t.r.index, GV.im t.kids.length t.K], GV.int IntKind.i64 p] [] (1 : Nat) (GV.agg [GV.int IntKind.i64 (sn0 t p), GV.int IntKind.i64 (sn1 t p), GV.int IntKind.i64 (sn2 t p), GV.int IntKind.i64 (sn3 t p), GV.int IntKind.i64 (sn4 t p)]) [] [] ∧ ((0 : Int) ≤ (0 : Int) ∧ (0 : Int) < (↑(5 : Nat) : Int)) ∧ ((sn0 t p == (1 : Int)) = true → (((0 : Int) == n) = true → ((a == IntKind.i64.wrap (IntKind.i64.wrap (p - n) + (1 : Int))) = true → CallSem Try.prog (16 : Nat) [] [] (1 : Nat) (GV.bool true) [] [] ∧ true = true ∧ True) ∧ ((a == IntKind.i64.wrap (IntKind.i64.wrap (p - n) + (1 : Int))) = false → false = true ∧ True)) ∧ (((0 : Int) == n) = false → (0 : Nat) = (0 : Nat) ∧ false = false ∧ n = n ∧ a = a ∧ ((0 : Int) = bif sn0 t p == (1 : Int) then (0 : Int) else w64 (r + (1 : Int))) ∧ IntKind.i64.wrap (p + (1 : Int)) = p + (1 : Int) ∧ t.h = t.h ∧ t.f = t.f ∧ t.l = t.l ∧ t.g = t.g ∧ t.r.start = t.r.start ∧ t.r.pages = t.r.pages ∧ t.r.prot = t.r.prot ∧ t.r.flags = t.r.flags ∧ t.r.file = t.r.file ∧ t.r.index = t.r.index ∧ t.kids.length = t.kids.length ∧ t.K = t.K ∧ PurL t.K ∧ X)) ∧ ((sn0 t p == (1 : Int)) = false → ((IntKind.i64.wrap (r + (1 : Int)) == n) = true → ((a == IntKind.i64.wrap (IntKind.i64.wrap (p - n) + (1 : Int))) = true → CallSem Try.prog (16 : Nat) [] [] (1 : Nat) (GV.bool true) [] [] ∧ true = true ∧ True) ∧ ((a == IntKind.i64.wrap (IntKind.i64.wrap (p - n) + (1 : Int))) = false → false = true ∧ True)) ∧ ((IntKind.i64.wrap (r + (1 : Int)) == n) = false → (0 : Nat) = (0 : Nat) ∧ false = false ∧ n = n ∧ a = a ∧ (IntKind.i64.wrap (r + (1 : Int)) = bif sn0 t p == (1 : Int) then (0 : Int) else w64 (r + (1 : Int))) ∧ IntKind.i64.wrap (p + (1 : Int)) = p + (1 : Int) ∧ t.h = t.h ∧ t.f = t.f ∧ t.l = t.l ∧ t.g = t.g ∧ t.r.start = t.r.start ∧ t.r.pages = t.r.pages ∧ t.r.prot = t.r.prot ∧ t.r.flags = t.r.flags ∧ t.r.file = t.r.file ∧ t.r.index = t.r.index ∧ t.kids.length = t.kids.length ∧ t.K = t.K ∧ PurL t.K ∧ X))) ∧ (decide (p < (512 : Int)) = false → false = false ∧ a = a ∧ o = none)) := by kernel_rfl
theorem lw_loop (t : Tr) (n a : Int) (o : Option Int) (hs : t.sz ≤ 1000000) (ha : a = o.getD (-1)) (p : Int) (r : Int) (k : Nat) (hpsi : p + ((k : Nat) : Int) = 512 ∧ 0 ≤ p ∧ o = lwN t n k p r) : GW Try.prog none [] (.loop (loopOf 7 Try.f12)) (lw_S t n a o p r k) (OneOf (lw_O t n a o p r k)) := by
  refine GW.loopF mixedA tabA (β := Int × Int × Nat) (fun z_ => (fun p r k => lw_S t n a o p r k) z_.1 z_.2.1 z_.2.2) (fun z_ => (fun p r k => p + ((k : Nat) : Int) = 512 ∧ 0 ≤ p ∧ o = lwN t n k p r) z_.1 z_.2.1 z_.2.2) (fun z_ => (fun p r k => k) z_.1 z_.2.1 z_.2.2) (fun z_ => (fun p r k => (p + 1, bif sn0 t p == 1 then 0 else w64 (r + 1), k - 1)) z_.1 z_.2.1 z_.2.2) (fun z_ => (fun p r k => lw_O t n a o p r k) z_.1 z_.2.1 z_.2.2) (fun z_ => (fun p r k => [(33, tl (snV t p)), (46, tl (.bool true))]) z_.1 z_.2.1 z_.2.2) ?_ (p, r, k) hpsi
  clear hpsi
  rintro ⟨p, r, k⟩ hpsi
  replace hpsi : p + ((k : Nat) : Int) = 512 ∧ 0 ≤ p ∧ o = lwN t n k p r := hpsi
  refine Eq.mpr (lw_rd t n a o p r k _) ?_
  obtain ⟨hp1, hp2, hp3⟩ := hpsi
  rcases k with _ | k
  all_goals (try simp only [lwN] at hp3)
  repeat' (first | exact seen_ps t p hs _ | exact awake_true _ | exact Tr.purK _ | exact KL_pur _ | exact RL_pur _ | exact purS (Eq.refl true) | refine And.intro ?_ ?_ | (intro h_; first | (cases h_; done) | rw [h_] | (simp only [Bool.not_eq_true', Bool.not_eq_false'] at h_; rw [h_]) | skip))
  all_goals (try simp only [decide_eq_true_eq, decide_eq_false_iff_not, Bool.not_eq_true', Bool.not_eq_false'] at *)
  all_goals (first | exact trivial | with_reducible rfl | exact RL_pur _ | exact Nat.le_of_ble_eq_true (Eq.refl true) | exact RL_length _ | exact KL_length _ | assumption | (simp only [Int.toNat_natCast, List.drop_zero]; exact RL_at (by omega)) | (simp only [Int.toNat_natCast, List.drop_zero]; exact KL_at (by omega)) | exact wrap_succ (by omega) | omega | (simp only [bsm]; done) | (exfalso; omega) | (show o = lwN t n k (p + 1) _; rw [hp3]; simp only [*, cond_true, cond_false]; done) | (exfalso; simp_all [w64]; done) | (simp only [*, cond_true, cond_false, w64]; done) | exact wrap_id (by omega) (by omega) | (simp only [bsm]; exact rfl) | skip)
theorem sok_of {t : Tr} (hs : t.sz ≤ 1000000) (h : (rcF t != 0) = false) : Sok t := (rcF_iff (sz_big hs)).1 (by simpa using h)
theorem md40 {b : Int} (h0 : 0 ≤ b) : 0 ≤ b.tmod 40 ∧ b.tmod 40 < 40 := ⟨Int.tmod_nonneg _ h0, Int.tmod_lt_of_pos _ (by decide)⟩
theorem wn {b : Int} (h0 : 0 ≤ b) (h1 : b ≤ 255) : IntKind.i64.wrap (1 + (IntKind.i64.wrap b).tmod 40) = 1 + b.tmod 40 := by
  have := md40 h0
  rw [wrap_id (n := b) (by omega) (by omega), wrap_id (by omega) (by omega)]
theorem lw_law {t : Tr} {b : Int} (h0 : 0 ≤ b) (h : (!fewF t) = false) (hc : (rcF t != 0) = false) : rplaceF t (1 + b.tmod 40) = (lwN t (1 + b.tmod 40) 512 0 0).getD (-1) := by
  have := md40 h0
  exact lw_place (sz_big (few_big h)) (sok_of (few_big h) hc) (by omega) (by omega)
theorem lowest_ok : FnOK Try.prog 12 Try.f12 (bodyOf Try.f12) := ⟨Try.func12, rfl, rfl⟩
theorem lowest_vc (t : Tr) (b : Int) : vc Try.prog TA none [] [(15, tl (.bool (fewF t))), (14, tl (.bool (fewF t))), (18, tl (.int .i64 (rcF t))), (21, tl (.bool true)), (24, tl (.int .i64 (rplaceF t (1 + b.tmod 40)))), (51, tl (.bool true)), (100007, .loop (lw_S t (1 + b.tmod 40) (rplaceF t (1 + b.tmod 40)) (lwN t (1 + b.tmod 40) 512 0 0) 0 0 512) (lw_O t (1 + b.tmod 40) (rplaceF t (1 + b.tmod 40)) (lwN t (1 + b.tmod 40) 512 0 0) 0 0 512))] (bodyOf Try.f12) ⟨startT Try.f12 [t.v, .int .u8 b], []⟩ (Fin TA Try.f12 (.bool true)) = ((40 : Int) ≠ (0 : Int) ∧ CallSem Try.prog (15 : Nat) [GV.agg [GV.int IntKind.i64 t.h, GV.int IntKind.i64 t.f, GV.int IntKind.i64 t.l, GV.int IntKind.i64 t.g, GV.int IntKind.i64 t.r.start, GV.int IntKind.i64 t.r.pages, GV.int IntKind.i64 t.r.prot, GV.int IntKind.i64 t.r.flags, GV.int IntKind.i64 t.r.file, GV.int IntKind.i64 t.r.index, GV.im t.kids.length t.K]] [] (1 : Nat) (GV.bool (fewF t)) [] [] ∧ ((!fewF t) = true → CallSem Try.prog (16 : Nat) [] [] (1 : Nat) (GV.bool true) [] [] ∧ true = true ∧ True) ∧ ((!fewF t) = false → CallSem Try.prog (29 : Nat) [GV.agg [GV.int IntKind.i64 t.h, GV.int IntKind.i64 t.f, GV.int IntKind.i64 t.l, GV.int IntKind.i64 t.g, GV.int IntKind.i64 t.r.start, GV.int IntKind.i64 t.r.pages, GV.int IntKind.i64 t.r.prot, GV.int IntKind.i64 t.r.flags, GV.int IntKind.i64 t.r.file, GV.int IntKind.i64 t.r.index, GV.im t.kids.length t.K]] [] (1 : Nat) (GV.int IntKind.i64 (rcF t)) [] [] ∧ ((rcF t != (0 : Int)) = true → CallSem Try.prog (16 : Nat) [] [] (1 : Nat) (GV.bool true) [] [] ∧ true = true ∧ True) ∧ ((rcF t != (0 : Int)) = false → CallSem Try.prog (20 : Nat) [GV.agg [GV.int IntKind.i64 t.h, GV.int IntKind.i64 t.f, GV.int IntKind.i64 t.l, GV.int IntKind.i64 t.g, GV.int IntKind.i64 t.r.start, GV.int IntKind.i64 t.r.pages, GV.int IntKind.i64 t.r.prot, GV.int IntKind.i64 t.r.flags, GV.int IntKind.i64 t.r.file, GV.int IntKind.i64 t.r.index, GV.im t.kids.length t.K], GV.int IntKind.i64 (IntKind.i64.wrap ((1 : Int) + (IntKind.i64.wrap b).tmod (40 : Int)))] [] (1 : Nat) (GV.int IntKind.i64 (rplaceF t ((1 : Int) + b.tmod (40 : Int)))) [] [] ∧ (0 : Nat) = (0 : Nat) ∧ false = false ∧ IntKind.i64.wrap ((1 : Int) + (IntKind.i64.wrap b).tmod (40 : Int)) = (1 : Int) + b.tmod (40 : Int) ∧ rplaceF t ((1 : Int) + b.tmod (40 : Int)) = rplaceF t ((1 : Int) + b.tmod (40 : Int)) ∧ (0 : Int) = (0 : Int) ∧ (0 : Int) = (0 : Int) ∧ t.h = t.h ∧ t.f = t.f ∧ t.l = t.l ∧ t.g = t.g ∧ t.r.start = t.r.start ∧ t.r.pages = t.r.pages ∧ t.r.prot = t.r.prot ∧ t.r.flags = t.r.flags ∧ t.r.file = t.r.file ∧ t.r.index = t.r.index ∧ t.kids.length = t.kids.length ∧ t.K = t.K ∧ PurL t.K ∧ GW Try.prog none [] (loopOf (7 : Nat) Try.f12).loop { t := [GV.any, GV.any, GV.ptr (0 : Nat) (0 : Nat), GV.any, GV.bool false, GV.int IntKind.i64 ((1 : Int) + b.tmod (40 : Int)), GV.int IntKind.i64 (rplaceF t ((1 : Int) + b.tmod (40 : Int))), GV.int IntKind.i64 (0 : Int), GV.int IntKind.i64 (0 : Int), GV.any, GV.any, GV.any, GV.any, GV.any, GV.any, GV.any, GV.any, GV.any, GV.any, GV.any, GV.any, GV.any, GV.any, GV.any, GV.any, GV.any, GV.any, GV.any, GV.any, GV.any, GV.any, GV.any, GV.any, GV.any, GV.any, GV.any, GV.any, GV.any, GV.any, GV.any, GV.any, GV.any, GV.any, GV.any, GV.any, GV.any, GV.any, GV.any, GV.any, GV.any, GV.any, GV.any, GV.any], h := [Ent.blk [GV.int IntKind.i64 t.h, GV.int IntKind.i64 t.f, GV.int IntKind.i64 t.l, GV.int IntKind.i64 t.g, GV.int IntKind.i64 t.r.start, GV.int IntKind.i64 t.r.pages, GV.int IntKind.i64 t.r.prot, GV.int IntKind.i64 t.r.flags, GV.int IntKind.i64 t.r.file, GV.int IntKind.i64 t.r.index, GV.im t.kids.length t.K] (26 : Nat)] } (OneOf (lw_O t ((1 : Int) + b.tmod (40 : Int)) (rplaceF t ((1 : Int) + b.tmod (40 : Int))) (lwN t ((1 : Int) + b.tmod (40 : Int)) (512 : Nat) (0 : Int) (0 : Int)) (0 : Int) (0 : Int) (512 : Nat))) ∧ (True → true = true ∧ True) ∧ (lwN t ((1 : Int) + b.tmod (40 : Int)) (512 : Nat) (0 : Int) (0 : Int) = none → ((rplaceF t ((1 : Int) + b.tmod (40 : Int)) == (-1 : Int)) = true → CallSem Try.prog (16 : Nat) [] [] (0 : Nat) (GV.bool true) [] [] ∧ true = true ∧ True) ∧ ((rplaceF t ((1 : Int) + b.tmod (40 : Int)) == (-1 : Int)) = false → false = true ∧ True)) ∧ True))) := by kernel_rfl
theorem lowest_ps (t : Tr) (b : Int) (hk : kidsF t) (h0 : 0 ≤ b) (h1 : b ≤ 255) : PS Try.prog 12 [t.v, .int .u8 b] (.bool true) := by
  refine .of_vcN mixedA tabA lowest_ok (by repeat' (first | exact trivial | exact Rg.pur _ | exact Opr.pur _ | exact Pur.im (OL_pur _) | exact Tr.pur _ | exact zG_pur | exact Pur.agg (PurAll.mem ⟨Pur.int, Pur.int, trivial⟩) | exact PurL.eptr (purS (Eq.refl true)) | exact PurL.eptr (Tr.purc _) | exact Pur.int | exact Pur.bool | exact Pur.lit | exact Pur.im (KL_pur _) | exact Pur.im (RL_pur _) | exact PurL.eptr (purS (Eq.refl true)) | exact Pur.fn (PurAll.mem trivial) | exact Pur.fn (PurAll.mem ⟨PurL.eptr (purS (Eq.refl true)), trivial⟩) | refine And.intro ?_ ?_)) (lowest_vc t b) ?_
  rw [wn h0 h1]
  repeat' (first | exact lfew_ps t hk _ | exact awake_true _ | exact check2 (few_big (by assumption)) _ | exact place1 (few_big (by assumption)) (1 + b.tmod 40) _ | exact (lw_loop t _ _ _ (few_big (by assumption)) (lw_law h0 (by assumption) (by assumption)) 0 0 512 ⟨by omega, by omega, rfl⟩) | exact Tr.purK _ | exact KL_pur _ | exact RL_pur _ | exact purS (Eq.refl true) | refine And.intro ?_ ?_ | (intro h_; first | (cases h_; done) | rw [h_] | (simp only [Bool.not_eq_true', Bool.not_eq_false'] at h_; rw [h_]) | skip))
  all_goals (first | (exfalso; have h9 := lw_law h0 ‹(!fewF t) = false› ‹(rcF t != 0) = false›; simp_all; done) | exact trivial | with_reducible rfl | exact Nat.le_refl _ | exact Tr.purK _ | exact KL_pur _ | exact RL_pur _ | (simp only [bsm]; done) | (simp only [bsm]; exact rfl) | exact Nat.le_of_ble_eq_true (Eq.refl true) | assumption | (simp only [bsm, *]; done) | (simp [RL_length, RL_takeL, RL_append, RL, bsm]; done) | (refine PurAll.mem ?_; repeat' (first | exact trivial | exact Pur.int | exact Pur.bool | exact Pur.nils | exact Pur.im (Tr.purK _) | exact Pur.im (KL_pur _) | exact Pur.im (RL_pur _) | exact PurL.eptr (purS (Eq.refl true)) | exact Pur.fn (PurAll.mem trivial) | exact Pur.fn (PurAll.mem ⟨PurL.eptr (purS (Eq.refl true)), trivial⟩) | refine And.intro ?_ ?_)) | skip)
end Go.Proofs.Ytalcipbagidbpaa
end

section
set_option linter.unusedVariables false
namespace Go.Proofs.Ytalcipbagidbpaa
open Go.Proofs Go.ChangeShapes Go.WideShapes
/-- Everything that there is: nobody writes it. -/
def allE (W : World) : Env := { I := fun k => k < W.heap.size, ok := fun _ => False, bk := fun _ => 0, tot := fun _ => 0 }
theorem cells3 : Try.prog.cellsOf 3 = 1 := by simp [Program.cellsOf, info_of Try.typeInfo3, Try.t3]
theorem cells23 : Try.prog.cellsOf 23 = 6 := by simp [Program.cellsOf, info_of Try.typeInfo23, Try.t23]
theorem cells24 : Try.prog.cellsOf 24 = 1 := by simp [Program.cellsOf, info_of Try.typeInfo24, Try.t24]
theorem cells26 : Try.prog.cellsOf 26 = 11 := by simp [Program.cellsOf, info_of Try.typeInfo26, Try.t26]
section
variable {H : Type} {enc : TypeId × Value → H} {W : World} {base : Nat} {spare : Nat → Bool} {held : Bool}
theorem at_take {cs : List Value} {o : Nat} {v : Value} (h : (cs.drop o).take 1 = [v]) : cs[o]? = some v := by
  have := congrArg (·[0]?) h
  simpa using this
theorem int_at {n o : Nat} {cs : List Value} {x : DataW H × List MemPlace} (h : DataW.trod enc Try.prog W base spare held n 3 ((cs.drop o).take (Try.prog.cellsOf 3)) = some x) : ∃ k : Int, cs[o]? = some (.int .i64 k) := by
  obtain ⟨k, e, _⟩ := DataW.trod_int Try.underlying3 h
  rw [cells3] at e
  exact ⟨k, at_take e⟩
theorem rg_read {n : Nat} {cs : List Value} {x : DataW H × List MemPlace} (h : DataW.trod enc Try.prog W base spare held n 23 cs = some x) : ∃ r : Rg, cs = [.int .i64 r.start, .int .i64 r.pages, .int .i64 r.prot, .int .i64 r.flags, .int .i64 r.file, .int .i64 r.index] := by
  obtain ⟨xs, m, _, _, hl, hx, hf⟩ := DataW.trod_struct Try.underlying23 h
  rw [cells23] at hl
  have hx : xs.length = 6 := hx
  have get : ∀ i, i < 6 → ∃ y, xs[i]? = some y := fun i hi => ⟨_, List.getElem?_eq_getElem (by omega)⟩
  obtain ⟨y0, e0⟩ := get 0 (by omega); obtain ⟨y1, e1⟩ := get 1 (by omega); obtain ⟨y2, e2⟩ := get 2 (by omega)
  obtain ⟨y3, e3⟩ := get 3 (by omega); obtain ⟨y4, e4⟩ := get 4 (by omega); obtain ⟨y5, e5⟩ := get 5 (by omega)
  obtain ⟨k0, h0⟩ := int_at ((hf 0 _ rfl).trans e0)
  obtain ⟨k1, h1⟩ := int_at ((hf 1 _ rfl).trans e1)
  obtain ⟨k2, h2⟩ := int_at ((hf 2 _ rfl).trans e2)
  obtain ⟨k3, h3⟩ := int_at ((hf 3 _ rfl).trans e3)
  obtain ⟨k4, h4⟩ := int_at ((hf 4 _ rfl).trans e4)
  obtain ⟨k5, h5⟩ := int_at ((hf 5 _ rfl).trans e5)
  refine ⟨⟨k0, k1, k2, k3, k4, k5⟩, ?_⟩
  apply List.ext_getElem?
  intro j
  rcases Nat.lt_or_ge j 6 with hj | hj
  · rcases (show j = 0 ∨ j = 1 ∨ j = 2 ∨ j = 3 ∨ j = 4 ∨ j = 5 by omega) with e | e | e | e | e | e <;> subst e <;> assumption
  · rw [List.getElem?_eq_none (by omega), List.getElem?_eq_none (by simpa using hj)]
/-- A pointer that is no special spot. -/
theorem cells_at {b : Nat} {a : Addr} {n : Nat} {cs : List Value} (h : W.cells? b a n = some cs) : cs.length = n ∧ ∀ j, j < n → W.cell? (a.add j) = cs[j]? := by
  unfold World.cells? at h
  split at h
  · refine ⟨by simpa using mapM_some_length h, fun j hj => ?_⟩
    have := mapM_some_get h j j (by simp [hj])
    exact this
  · cases h
theorem cell_spot {a : Addr} {v : Value} (h : W.cell? a = some v) : a.spot = none ∧ a.block < W.heap.size := by
  unfold World.cell? at h
  split at h
  · rename_i c _ _ hb
    split at h
    · cases h
    · rename_i hs
      refine ⟨by simpa using hs, ?_⟩
      exact (Array.getElem?_eq_some_iff.1 hb).1
  · cases h
theorem add_is {a : Addr} (h : a.spot = none) (n : Nat) : a.add n = ⟨a.block, a.off + n, none⟩ := by
  unfold Addr.add
  split
  · rename_i e; subst e
    cases a; simp at h; simp [h]
  · rfl
/-- A tree that is read. -/
def Rd (W : World) (gs : List GV) (cs : List Value) : Prop := gs.length = cs.length ∧ ∀ (j : Nat) (c : GV) (v : Value), gs[j]? = some c → cs[j]? = some v → R W (allE W) c v
theorem Rd.append {gs gs' : List GV} {cs cs' : List Value} (h : Rd W gs cs) (h' : Rd W gs' cs') : Rd W (gs ++ gs') (cs ++ cs') := by
  refine ⟨by simp [h.1, h'.1], fun j c v hc hv => ?_⟩
  rcases Nat.lt_or_ge j gs.length with hj | hj
  · rw [List.getElem?_append_left hj] at hc
    rw [List.getElem?_append_left (h.1 ▸ hj)] at hv
    exact h.2 j c v hc hv
  · rw [List.getElem?_append_right hj] at hc
    rw [List.getElem?_append_right (h.1 ▸ hj), ← h.1] at hv
    exact h'.2 _ c v hc hv
theorem tr_read : ∀ (n : Nat) {cs : List Value} {x : DataW H × List MemPlace}, DataW.trod enc Try.prog W base spare held n 26 cs = some x → ∃ t : Tr, Rd W t.cells cs ∧ kidsF t := by
  intro n
  induction n using Nat.strongRecOn with
  | _ n ih =>
    intro cs x h
    obtain ⟨xs, m, rfl, _, hl, hx, hf⟩ := DataW.trod_struct Try.underlying26 h
    rw [cells26] at hl
    have hx : xs.length = 6 := hx
    have get : ∀ i, i < 6 → ∃ y, xs[i]? = some y := fun i hi => ⟨_, List.getElem?_eq_getElem (by omega)⟩
    obtain ⟨y0, e0⟩ := get 0 (by omega); obtain ⟨y1, e1⟩ := get 1 (by omega); obtain ⟨y2, e2⟩ := get 2 (by omega)
    obtain ⟨y3, e3⟩ := get 3 (by omega); obtain ⟨y4, e4⟩ := get 4 (by omega); obtain ⟨y5, e5⟩ := get 5 (by omega)
    obtain ⟨k0, h0⟩ := int_at ((hf 0 _ rfl).trans e0)
    obtain ⟨k1, h1⟩ := int_at ((hf 1 _ rfl).trans e1)
    obtain ⟨k2, h2⟩ := int_at ((hf 2 _ rfl).trans e2)
    obtain ⟨k3, h3⟩ := int_at ((hf 3 _ rfl).trans e3)
    obtain ⟨r, hr⟩ := rg_read ((hf 4 _ rfl).trans e4)
    have hr : (cs.drop 4).take (Try.prog.cellsOf 23) = [.int .i64 r.start, .int .i64 r.pages, .int .i64 r.prot, .int .i64 r.flags, .int .i64 r.file, .int .i64 r.index] := hr
    rw [cells23] at hr
    have h5 := (hf 5 _ rfl).trans e5
    have h5 : DataW.trod enc Try.prog W base spare held m 24 ((cs.drop 10).take (Try.prog.cellsOf 24)) = some y5 := h5
    rw [cells24] at h5
    -- the kids
    have kids : ∃ (ks : List Tr) (v : Value), (cs.drop 10).take 1 = [v] ∧ R W (allE W) (.im ks.length (KL ks)) v ∧ ks.length ≤ 9223372036854775807 ∧ ∀ k ∈ ks, kidsF k := by
      rcases DataW.trod_slice Try.underlying24 h5 with ⟨hc, _⟩ | ⟨a, len, cap, elems, rest, m', rfl, hc, _, _, hle, hm, hel, hget, _⟩
      · exact ⟨[], _, hc, .im0 none 0, by simp, by simp⟩
      · rw [cells26] at hget
        have each : ∀ i, i < len → ∃ t : Tr, (∃ cs', W.cells? base (a.add (i * 11)) 11 = some cs' ∧ Rd W t.cells cs') ∧ kidsF t := by
          intro i hi
          have h6 := hget i hi
          rw [List.getElem?_eq_getElem (by omega), Option.bind_eq_some_iff] at h6
          obtain ⟨cs', h7, h8⟩ := h6
          obtain ⟨t, h9, h10⟩ := ih m' (by omega) h8
          exact ⟨t, ⟨cs', h7, h9⟩, h10⟩
        have all : ∀ k, k ≤ len → ∃ ks : List Tr, ks.length = k ∧ (∀ i, i < k → ∃ cs', W.cells? base (a.add (i * 11)) 11 = some cs' ∧ Rd W (atT ks i).cells cs') ∧ ∀ t ∈ ks, kidsF t := by
          intro k
          induction k with
          | zero => intro _; exact ⟨[], rfl, fun i hi => by omega, by simp⟩
          | succ k ihk =>
            intro hk
            obtain ⟨ks, l1, l2, l3⟩ := ihk (by omega)
            obtain ⟨t, t1, t2⟩ := each k (by omega)
            refine ⟨ks ++ [t], by simp [l1], fun i hi => ?_, fun u hu => ?_⟩
            · rcases Nat.lt_or_ge i k with h | h
              · have e : atT (ks ++ [t]) i = atT ks i := by simp [atT, List.getD_eq_getElem?_getD, List.getElem?_append_left (show i < ks.length by omega)]
                rw [e]; exact l2 i h
              · have e : atT (ks ++ [t]) i = t := by
                  have : i = ks.length := by omega
                  subst this
                  simp [atT, List.getD_eq_getElem?_getD]
                rw [e, show i = k by omega]; exact t1
            · rcases List.mem_append.1 hu with hu | hu
              · exact l3 u hu
              · rw [List.mem_singleton.1 hu]; exact t2
        obtain ⟨ks, l1, l2, l3⟩ := all len (Nat.le_refl _)
        refine ⟨ks, _, hc, ?_, by unfold maxLen at hm; omega, l3⟩
        rcases Nat.eq_zero_or_pos len with hz | hz
        · have : ks = [] := List.length_eq_zero_iff.1 (by omega)
          subst this; subst hz
          exact .im0 (some a) cap
        · obtain ⟨cs0, q1, q2⟩ := l2 0 hz
          obtain ⟨q3, q4⟩ := cells_at q1
          have q5 : W.cell? a = cs0[0]? := by have := q4 0 (by omega); simpa [Addr.add] using this
          rw [List.getElem?_eq_getElem (by omega)] at q5
          obtain ⟨q6, q7⟩ := cell_spot q5
          have ea : a = ⟨a.block, a.off, none⟩ := by cases a; simp at q6; simp [q6]
          rw [ea, l1]
          -- the cells, one by one
          have cell : ∀ (j : Nat) (c : GV), (KL ks)[j]? = some c → ∃ v, W.cell? ⟨a.block, a.off + j, none⟩ = some v ∧ R W (allE W) c v := by
            intro j c hj
            have hj2 : j < ks.length * 11 := by rw [← KL_length]; exact (List.getElem?_eq_some_iff.1 hj).1
            have hi : j / 11 < len := by omega
            obtain ⟨cs', p1, p2⟩ := l2 (j / 11) hi
            obtain ⟨p3, p4⟩ := cells_at p1
            have p5 := p4 (j % 11) (Nat.mod_lt _ (by decide))
            rw [add_is q6, add_is rfl] at p5
            have e1 : a.off + j / 11 * 11 + j % 11 = a.off + j := by omega
            simp only [e1] at p5
            have e2 : (atT ks (j / 11)).cells[j % 11]? = some c := by
              rw [← KL_at (by omega), List.getElem?_take_of_lt (Nat.mod_lt _ (by decide)), List.getElem?_drop, show j / 11 * 11 + j % 11 = j by omega]
              exact hj
            have e3 : cs'[j % 11]? = some cs'[j % 11] := List.getElem?_eq_getElem (by omega)
            exact ⟨_, p5.trans e3, p2.2 _ _ _ e2 e3⟩
          refine .im a.block a.off cap (fun j => (W.cell? ⟨a.block, a.off + j, none⟩).getD (.int .i64 0)) q7 hle (fun j c hj => ?_) fun j c hj => ?_
          · obtain ⟨v, v1, v2⟩ := cell j c hj
            rw [v1]; rfl
          · obtain ⟨v, v1, v2⟩ := cell j c hj
            rw [v1]; exact v2
    obtain ⟨ks, v, hk1, hk2, hk3, hk4⟩ := kids
    refine ⟨.mk k0 k1 k2 k3 r ks, ?_, (kidsF_iff _).2 ⟨hk3, hk4⟩⟩
    have ecs : cs = [.int .i64 k0, .int .i64 k1, .int .i64 k2, .int .i64 k3, .int .i64 r.start, .int .i64 r.pages, .int .i64 r.prot, .int .i64 r.flags, .int .i64 r.file, .int .i64 r.index, v] := by
      apply List.ext_getElem?
      intro j
      have g4 : ∀ i, i < 6 → cs[4 + i]? = [Value.int .i64 r.start, .int .i64 r.pages, .int .i64 r.prot, .int .i64 r.flags, .int .i64 r.file, .int .i64 r.index][i]? := fun i hi => by
        rw [← hr, List.getElem?_take_of_lt hi, List.getElem?_drop]
      rcases Nat.lt_or_ge j 11 with hj | hj
      · rcases (show j = 0 ∨ j = 1 ∨ j = 2 ∨ j = 3 ∨ j = 4 ∨ j = 5 ∨ j = 6 ∨ j = 7 ∨ j = 8 ∨ j = 9 ∨ j = 10 by omega) with e | e | e | e | e | e | e | e | e | e | e <;> subst e
        · exact h0
        · exact h1
        · exact h2
        · exact h3
        · exact g4 0 (by omega)
        · exact g4 1 (by omega)
        · exact g4 2 (by omega)
        · exact g4 3 (by omega)
        · exact g4 4 (by omega)
        · exact g4 5 (by omega)
        · exact at_take hk1
      · rw [List.getElem?_eq_none (by omega), List.getElem?_eq_none (by simpa using hj)]
    rw [ecs]
    refine ⟨rfl, fun j c u hc hu => ?_⟩
    rcases Nat.lt_or_ge j 11 with hj | hj
    · rcases (show j = 0 ∨ j = 1 ∨ j = 2 ∨ j = 3 ∨ j = 4 ∨ j = 5 ∨ j = 6 ∨ j = 7 ∨ j = 8 ∨ j = 9 ∨ j = 10 by omega) with e | e | e | e | e | e | e | e | e | e | e <;> subst e <;>
        (injection hc with hc; injection hu with hu; subst hc; subst hu; first | exact .int | exact hk2)
    · rw [List.getElem?_eq_none (by simpa using hj)] at hu; cases hu
end
end Go.Proofs.Ytalcipbagidbpaa
end

section
set_option linter.unusedVariables false
namespace Go.Proofs.Ytalcipbagidbpaa
open Go.Proofs Go.ChangeShapes Go.WideShapes Go.ChangeAt Go.RowKit
theorem own : ownKnob Try.prog.godebug = none := by kernel_rfl
theorem laidOut : laidOutB Try.prog = true := by kernel_rfl
/-- A contract that says true, as the rows ask for it. -/
theorem law_calls {f : FuncId} {args : List GV} (h : PS Try.prog f args (.bool true)) {W : World} {vs : Array Value} (hl : args.length = vs.size) (hR : ∀ (j : Nat) (g : GV) (v : Value), args[j]? = some g → vs[j]? = some v → R W (allE W) g v) :
    Calls Try.prog f vs W fun e W' => e = .returned (.bool true) ∧ Below W.heap.size W W' := by
  refine ((h 0).run W (allE W) (fun _ _ => False) vs hl hR ⟨fun p e he => by simp at he, fun p e q e' k he => by simp at he, fun p e k he => by simp at he, fun k hk => hk⟩ (fun p _ h => by simp at h)).mono ?_
  rintro e W' ⟨v, E', Bs', rfl, hv, hp⟩
  rw [hv.bool_inv]
  exact ⟨rfl, hp.os, hp.tape, hp.output, hp.size, fun k hk => hp.keep k hk fun p e he => by simp at he⟩
theorem okw_agg {P : Program} {W : World} {r : Reach} {b : Nat} {t : TypeId} {v : Value} {fs : Array Field} (hu : P.underlying t = some (.struct fs)) (hv : Value.okWide P W r b t v) : ∃ cs, v = .agg cs := by
  unfold Value.okWide at hv
  rw [hu] at hv
  obtain ⟨cs, rfl, _⟩ := hv
  exact ⟨cs, rfl⟩
set_option maxRecDepth 100000 in
theorem tr_val {H : Type} {enc : TypeId × Value → H} {W : World} {base base2 : Nat} {spare : Nat → Bool} {held : Bool} {v : Value} {d : DataW H} {ps : List MemPlace} (hv : Value.okWide Try.prog W .any base 26 v) (h : DataW.Trod enc Try.prog W base2 spare held 26 v d ps) : ∃ t : Tr, R W (allE W) t.v v ∧ kidsF t := by
  obtain ⟨cs, rfl⟩ := okw_agg Try.underlying26 hv
  obtain ⟨fuel, hf⟩ := h
  obtain ⟨t, h1, h2⟩ := tr_read fuel hf
  refine ⟨t, .agg cs (by have := h1.1; simpa [Value.cells] using this) (fun j c u hc hu => h1.2 j c u hc (by simpa [Value.cells] using hu)), h2⟩
theorem args2 {W : World} {E : Env} {a b : GV} {v u : Value} (ha : R W E a v) (hb : R W E b u) : ∀ (j : Nat) (g : GV) (w : Value), [a, b][j]? = some g → #[v, u][j]? = some w → R W E g w
  | 0, g, w, h1, h2 => by injection h1 with h1; injection h2 with h2; subst h1 h2; exact ha
  | 1, g, w, h1, h2 => by injection h1 with h1; injection h2 with h2; subst h1 h2; exact hb
  | j + 2, g, w, h1, h2 => by simp at h1
end Go.Proofs.Ytalcipbagidbpaa
end

section
set_option linter.unusedVariables false
namespace Go.Proofs.Ytalcipbagidbpaa
open Go.Proofs Go.ChangeShapes Go.WideShapes Go.ChangeAt Go.RowKit
section
variable {H : Type} {enc : TypeId × Value → H} {W : World} {base : Nat} {spare : Nat → Bool} {held : Bool}
end
theorem u8_of {n : Int} (h : (Lit.int .u8 n).wf = true) : 0 ≤ n ∧ n ≤ 255 := by
  simp [Lit.wf, IntKind.min, IntKind.max, IntKind.signed, IntKind.bits] at h
  omega
end Go.Proofs.Ytalcipbagidbpaa
end
