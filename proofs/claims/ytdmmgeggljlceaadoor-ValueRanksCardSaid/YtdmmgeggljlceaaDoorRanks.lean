/- ValueRanks: the law's own call answers true. No conditions. -/
import Derived.Test.YtdmmgeggljlceaaDoorRanksF
import Derived.Test.YtdmmgeggljlceaaDoorPureB
import Derived.Test.YtdmmgeggljlceaaDoorOpen
namespace Go.Proofs.YtdmmgeggljlceaaDoor.XV
open Go.RowKit Go.Proofs.YtdmmgeggljlceaaDoorW.PrintWords Go.Proofs.YtdmmgeggljlceaaDoorW.PrintLast Go.Proofs.YtdmmgeggljlceaaDoorW.PrintMore
set_option linter.unusedVariables false
structure Ordr {T : Type} (f : T → T → Int) : Prop where
  rng : ∀ x y, f x y = -1 ∨ f x y = 0 ∨ f x y = 1
  anti : ∀ x y, f y x = - f x y
  zero : ∀ x y, f x y = 0 ↔ x = y
  trans : ∀ x y z, f x y ≤ 0 → f y z ≤ 0 → f x z ≤ 0
def lexI {A B : Type} (f : A → A → Int) (g : B → B → Int) (p q : A × B) : Int := if f p.1 q.1 = 0 then g p.2 q.2 else f p.1 q.1
theorem lex_ordr {A B : Type} {f : A → A → Int} {g : B → B → Int} (hf : Ordr f) (hg : Ordr g) : Ordr (lexI f g) := by
  refine ⟨fun x y => ?_, fun x y => ?_, fun x y => ?_, fun x y z h1 h2 => ?_⟩
  · unfold lexI; split
    · exact hg.rng _ _
    · exact hf.rng _ _
  · unfold lexI
    have e := hf.anti x.1 y.1
    by_cases h : f x.1 y.1 = 0
    · rw [if_pos h, if_pos (by omega)]; exact hg.anti _ _
    · rw [if_neg h, if_neg (by omega)]; exact e
  · unfold lexI
    by_cases h : f x.1 y.1 = 0
    · rw [if_pos h, hg.zero]
      have := (hf.zero _ _).1 h
      constructor
      · intro e; exact Prod.ext this e
      · intro e; rw [e]
    · rw [if_neg h]
      constructor
      · intro e; exact absurd e h
      · intro e; exact absurd ((hf.zero x.1 y.1).2 (by rw [e])) h
  · unfold lexI at *
    by_cases hxy : f x.1 y.1 = 0
    · have exy := (hf.zero _ _).1 hxy
      rw [if_pos hxy] at h1
      by_cases hyz : f y.1 z.1 = 0
      · rw [if_pos hyz] at h2
        rw [if_pos (by rw [exy]; exact hyz)]
        exact hg.trans _ _ _ h1 h2
      · rw [if_neg hyz] at h2
        rw [exy, if_neg hyz]; exact h2
    · rw [if_neg hxy] at h1
      by_cases hyz : f y.1 z.1 = 0
      · have eyz := (hf.zero _ _).1 hyz
        rw [← eyz, if_neg hxy]; exact h1
      · rw [if_neg hyz] at h2
        have h3 := hf.trans _ _ _ h1 h2
        by_cases hxz : f x.1 z.1 = 0
        · have exz := (hf.zero _ _).1 hxz
          rw [← exz] at h2 hyz
          have := hf.anti x.1 y.1
          omega
        · rw [if_neg hxz]; exact h3
theorem ordI : Ordr cmpI := by
  refine ⟨fun x y => ?_, fun x y => ?_, fun x y => cmpI_zero, fun x y z h1 h2 => ?_⟩
  · unfold cmpI; repeat' split
    all_goals omega
  · unfold cmpI; repeat' split
    all_goals omega
  · unfold cmpI at *; repeat' split
    all_goals (repeat' split at h1) <;> (repeat' split at h2) <;> omega
def lexL {A : Type} (f : A → A → Int) : List A → List A → Int
  | [], [] => 0
  | [], _ :: _ => -1
  | _ :: _, [] => 1
  | x :: xs, y :: ys => if f x y = 0 then lexL f xs ys else f x y
theorem lexL_rng {A : Type} {f : A → A → Int} (hf : Ordr f) : ∀ l p, lexL f l p = -1 ∨ lexL f l p = 0 ∨ lexL f l p = 1
  | [], [] => by simp [lexL]
  | [], _ :: _ => by simp [lexL]
  | _ :: _, [] => by simp [lexL]
  | x :: xs, y :: ys => by
    simp only [lexL]; split
    · exact lexL_rng hf xs ys
    · exact hf.rng _ _
theorem lexL_anti {A : Type} {f : A → A → Int} (hf : Ordr f) : ∀ l p, lexL f p l = - lexL f l p
  | [], [] => by simp [lexL]
  | [], _ :: _ => by simp [lexL]
  | _ :: _, [] => by simp [lexL]
  | x :: xs, y :: ys => by
    simp only [lexL]
    have e := hf.anti x y
    by_cases h : f x y = 0
    · rw [if_pos h, if_pos (by omega)]; exact lexL_anti hf xs ys
    · rw [if_neg h, if_neg (by omega)]; exact e
theorem lexL_zero {A : Type} {f : A → A → Int} (hf : Ordr f) : ∀ l p, lexL f l p = 0 ↔ l = p
  | [], [] => by simp [lexL]
  | [], _ :: _ => by simp [lexL]
  | _ :: _, [] => by simp [lexL]
  | x :: xs, y :: ys => by
    simp only [lexL, List.cons.injEq]
    by_cases h : f x y = 0
    · rw [if_pos h, lexL_zero hf xs ys]
      have := (hf.zero _ _).1 h
      simp [this]
    · rw [if_neg h]
      have : ¬ x = y := fun e => h ((hf.zero _ _).2 e)
      simp [this, h]
theorem lexL_trans {A : Type} {f : A → A → Int} (hf : Ordr f) : ∀ l p q, lexL f l p ≤ 0 → lexL f p q ≤ 0 → lexL f l q ≤ 0
  | [], _, [], _, _ => by simp [lexL]
  | [], _, _ :: _, _, _ => by simp [lexL]
  | _ :: _, [], _, h, _ => by simp [lexL] at h
  | _ :: _, _ :: _, [], _, h => by simp [lexL] at h
  | x :: xs, y :: ys, z :: zs, h1, h2 => by
    simp only [lexL] at h1 h2 ⊢
    by_cases hxy : f x y = 0
    · have exy := (hf.zero _ _).1 hxy
      rw [if_pos hxy] at h1
      by_cases hyz : f y z = 0
      · rw [if_pos hyz] at h2
        rw [if_pos (by rw [exy]; exact hyz)]
        exact lexL_trans hf xs ys zs h1 h2
      · rw [if_neg hyz] at h2
        rw [exy, if_neg hyz]; exact h2
    · rw [if_neg hxy] at h1
      by_cases hyz : f y z = 0
      · have eyz := (hf.zero _ _).1 hyz
        rw [← eyz, if_neg hxy]; exact h1
      · rw [if_neg hyz] at h2
        have h3 := hf.trans _ _ _ h1 h2
        by_cases hxz : f x z = 0
        · have exz := (hf.zero _ _).1 hxz
          rw [← exz] at h2 hyz
          have := hf.anti x y
          omega
        · rw [if_neg hxz]; exact h3
theorem lexL_ordr {A : Type} {f : A → A → Int} (hf : Ordr f) : Ordr (lexL f) := ⟨lexL_rng hf, lexL_anti hf, lexL_zero hf, lexL_trans hf⟩
theorem ls_eq : ∀ l p : List Int, cmpLs l p = lexL cmpI l p
  | [], [] => rfl
  | [], _ :: _ => rfl
  | _ :: _, [] => rfl
  | x :: xs, y :: ys => by simp only [cmpLs, lexL, ls_eq xs ys]
def cmpU (x y : UInt8) : Int := if x < y then -1 else if y < x then 1 else 0
theorem cmpU_I (x y : UInt8) : cmpU x y = cmpI x.toNat y.toNat := by
  unfold cmpU cmpI; simp only [UInt8.lt_iff_toNat_lt, Int.ofNat_lt]
theorem ordU : Ordr cmpU := by
  refine ⟨fun x y => ?_, fun x y => ?_, fun x y => ?_, fun x y z => ?_⟩
  · rw [cmpU_I]; exact ordI.rng _ _
  · rw [cmpU_I, cmpU_I]; exact ordI.anti _ _
  · rw [cmpU_I, ordI.zero, Int.ofNat_inj, UInt8.toNat_inj]
  · rw [cmpU_I, cmpU_I, cmpU_I]; exact ordI.trans _ _ _
theorem bytes_eq : ∀ l p : List UInt8, Lib.compareBytes l p = lexL cmpU l p
  | [], [] => rfl
  | [], _ :: _ => rfl
  | _ :: _, [] => rfl
  | x :: xs, y :: ys => by
    simp only [Lib.compareBytes, lexL, cmpU, bytes_eq xs ys]
    repeat' split
    all_goals (first | rfl | simp_all)
theorem ordS : Ordr cmpS := by
  have h := lexL_ordr ordU
  refine ⟨fun x y => ?_, fun x y => ?_, fun x y => cmpS_zero x y, fun x y z => ?_⟩
  · unfold cmpS; rw [bytes_eq]; exact h.rng _ _
  · unfold cmpS; rw [bytes_eq, bytes_eq]; exact h.anti _ _
  · unfold cmpS; rw [bytes_eq, bytes_eq, bytes_eq]; exact h.trans _ _ _
theorem ordL : Ordr cmpLs := by
  have h := lexL_ordr ordI
  rw [show cmpLs = lexL cmpI from funext fun l => funext fun p => ls_eq l p]; exact h
def lexV : Int × Int × ByteArray × List Int → Int × Int × ByteArray × List Int → Int := lexI cmpI (lexI cmpI (lexI cmpS cmpLs))
theorem ordV : Ordr lexV := lex_ordr ordI (lex_ordr ordI (lex_ordr ordS ordL))
theorem orderV_lex (a n : Int) (t : ByteArray) (l : List Int) (b m : Int) (u : ByteArray) (p : List Int) : orderV a n t l b m u p = lexV (a, n, t, l) (b, m, u, p) := by
  unfold orderV lexV lexI
  simp only [orI]
  repeat' split
  all_goals (first | rfl | simp_all)
theorem ranks_true (a0 a1 : Int) (a2 : ByteArray) (a3 : List Int) (b0 b1 : Int) (b2 : ByteArray) (b3 : List Int) (c0 c1 : Int) (c2 : ByteArray) (c3 : List Int) (ha : a2.size ≤ 140737488351232) (hb : b2.size ≤ 140737488351232) (hc : c2.size ≤ 140737488351232) (la : a3.length ≤ 4611686018427387904) (lb : b3.length ≤ 4611686018427387904) : ∃ k, switchyardlaw06_ValueRanks.f k a0 a1 a2 a3 b0 b1 b2 b3 c0 c1 c2 c3 = some true := by
  refine Ev.rounds ?_
  have j0 : ∀ b : Bool, Ev (fun k => switchyardlaw06_ValueRanks.j0 k b a0 a1 a2 a3 b0 b1 b2 b3 c0 c1 c2 c3) true := by
    intro b
    refine Ev.step (fun k => by simp only [switchyardlaw06_ValueRanks.j0]; rfl) ?_
    cases b with
    | true => exact Ev.pos rfl (Ev.bind awake_ev (Ev.now _))
    | false =>
      refine Ev.neg (by simp) (Ev.bind (order_ev a0 a1 a2 a3 b0 b1 b2 b3 la) ?_)
      refine Ev.bind (order_ev b0 b1 b2 b3 c0 c1 c2 c3 lb) (Ev.bind (order_ev a0 a1 a2 a3 c0 c1 c2 c3 la) ?_)
      refine Ev.bind awake_ev (Ev.pos rfl ?_)
      refine Ev.bind (order_ev b0 b1 b2 b3 a0 a1 a2 a3 lb) ?_
      simp only [orderV_lex]
      have r1 := ordV.rng (a0, a1, a2, a3) (b0, b1, b2, b3)
      have r2 := ordV.rng (b0, b1, b2, b3) (c0, c1, c2, c3)
      have r3 := ordV.rng (a0, a1, a2, a3) (c0, c1, c2, c3)
      have n1 := ordV.anti (a0, a1, a2, a3) (b0, b1, b2, b3)
      have n2 := ordV.anti (b0, b1, b2, b3) (c0, c1, c2, c3)
      have n3 := ordV.anti (a0, a1, a2, a3) (c0, c1, c2, c3)
      have z := (ordV.zero (a0, a1, a2, a3) (a0, a1, a2, a3)).2 rfl
      have t1 := ordV.trans (a0, a1, a2, a3) (b0, b1, b2, b3) (c0, c1, c2, c3)
      have t2 := ordV.trans (c0, c1, c2, c3) (b0, b1, b2, b3) (a0, a1, a2, a3)
      rw [n1, n2, n3] at t2
      generalize lexV (a0, a1, a2, a3) (b0, b1, b2, b3) = x at *
      generalize lexV (b0, b1, b2, b3) (c0, c1, c2, c3) = y at *
      generalize lexV (a0, a1, a2, a3) (c0, c1, c2, c3) = w at *
      refine Ev.pos (by rw [n1]; unfold wrap64; omega) (Ev.bind (order_ev a0 a1 a2 a3 a0 a1 a2 a3 la) ?_)
      simp only [orderV_lex, z]
      refine Ev.pos (by trivial) (Ev.val' ?_)
      repeat' split
      all_goals (first | rfl | (exfalso; omega) | (congr 1; rw [decide_eq_true_eq]; omega))
  unfold switchyardlaw06_ValueRanks.f
  refine Ev.bind awake_ev (Ev.pos rfl (Ev.bind (right_ev a0 a1 a2 a3 (by omega)) ?_))
  by_cases h : rightB a0 a1 a2 a3 = true
  · refine Ev.pos h (Ev.bind (right_ev b0 b1 b2 b3 (by omega)) ?_)
    by_cases h2 : rightB b0 b1 b2 b3 = true
    · exact Ev.pos h2 (Ev.bind (right_ev c0 c1 c2 c3 (by omega)) (j0 _))
    · exact Ev.neg h2 (j0 _)
  · exact Ev.neg h (j0 _)
theorem ranks_walk (a0_0 : Int) (a0_1 : Int) (a0_2 : ByteArray) (A0_3 : Option Addr) (c0_3 : Nat) (l0_3 : (List Int)) (a1_0 : Int) (a1_1 : Int) (a1_2 : ByteArray) (A1_3 : Option Addr) (c1_3 : Nat) (l1_3 : (List Int)) (a2_0 : Int) (a2_1 : Int) (a2_2 : ByteArray) (A2_3 : Option Addr) (c2_3 : Nat) (l2_3 : (List Int)) (W : World) (hG0_0 : (Lit.int .i64 a0_0).wf = true) (hG0_1 : (Lit.int .i64 a0_1).wf = true) (hG0_2 : a0_2.size ≤ 140737488351232) (hC0_3 : Kd.C (Kd.int .i64) W A0_3 l0_3.length l0_3) (hc0_3 : l0_3.length ≤ c0_3) (hG0_3 : (l0_3.length * Tryd.prog.bytesOf 2 ≤ 140737488351232 ∧ l0_3.length ≤ maxLen ∧ ∀ y ∈ l0_3, (Lit.int .i64 y).wf = true)) (hG1_0 : (Lit.int .i64 a1_0).wf = true) (hG1_1 : (Lit.int .i64 a1_1).wf = true) (hG1_2 : a1_2.size ≤ 140737488351232) (hC1_3 : Kd.C (Kd.int .i64) W A1_3 l1_3.length l1_3) (hc1_3 : l1_3.length ≤ c1_3) (hG1_3 : (l1_3.length * Tryd.prog.bytesOf 2 ≤ 140737488351232 ∧ l1_3.length ≤ maxLen ∧ ∀ y ∈ l1_3, (Lit.int .i64 y).wf = true)) (hG2_0 : (Lit.int .i64 a2_0).wf = true) (hG2_1 : (Lit.int .i64 a2_1).wf = true) (hG2_2 : a2_2.size ≤ 140737488351232) (hC2_3 : Kd.C (Kd.int .i64) W A2_3 l2_3.length l2_3) (hc2_3 : l2_3.length ≤ c2_3) (hG2_3 : (l2_3.length * Tryd.prog.bytesOf 2 ≤ 140737488351232 ∧ l2_3.length ≤ maxLen ∧ ∀ y ∈ l2_3, (Lit.int .i64 y).wf = true)) (hT : Tabs W) :
    Calls Tryd.prog 7 #[.agg #[.int .i64 a0_0, .int .i64 a0_1, .string a0_2, .slice A0_3 l0_3.length c0_3], .agg #[.int .i64 a1_0, .int .i64 a1_1, .string a1_2, .slice A1_3 l1_3.length c1_3], .agg #[.int .i64 a2_0, .int .i64 a2_1, .string a2_2, .slice A2_3 l2_3.length c2_3]] W fun e w' => e = .returned (.bool true) ∧ Below W.heap.size W w' := by
  have e : Tryd.prog.bytesOf 2 = 8 := by kernel_rfl
  obtain ⟨k, hk⟩ := ranks_true a0_0 a0_1 a0_2 l0_3 a1_0 a1_1 a1_2 l1_3 a2_0 a2_1 a2_2 l2_3 hG0_2 hG1_2 hG2_2 (by have := hG0_3.1; rw [e] at this; omega) (by have := hG1_3.1; rw [e] at this; omega)
  exact switchyardlaw06_ValueRanks.calls k a0_0 a0_1 a0_2 A0_3 c0_3 l0_3 a1_0 a1_1 a1_2 A1_3 c1_3 l1_3 a2_0 a2_1 a2_2 A2_3 c2_3 l2_3 true W hC0_3 hc0_3 hC1_3 hc1_3 hC2_3 hc2_3 hk hT
end Go.Proofs.YtdmmgeggljlceaaDoor.XV
