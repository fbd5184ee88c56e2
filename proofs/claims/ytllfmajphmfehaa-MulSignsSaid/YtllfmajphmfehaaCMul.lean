/- Contracts: products and quotients. -/
import Derived.Test.YtllfmajphmfehaaEnv
import Derived.Test.YtllfmajphmfehaaNMul
namespace Go.Proofs.Ytllfmajphmfehaa
open Go Go.Ev
set_option linter.unusedVariables false
set_option linter.unusedSimpArgs false
set_option maxRecDepth 100000
theorem mul_form (f_0 : Bool) (f_1 : Bool) (f_2 : Bool) (f_3 : Bool) (f_4 : Bool) (f_5 : Bool) (a : Int) (b : Int) :
    evF Try.prog Γ0 400 20 [.agg [.v (.bool f_0), .v (.bool f_1), .v (.bool f_2), .v (.bool f_3), .v (.bool f_4), .v (.bool f_5)], .v (.int .u32 a), .v (.int .u32 b)] [] (fun x _ => some x) (fun _ _ => none) =
    (some
      (Sv.tup
        [Sv.v
            (Value.int IntKind.u32
              (IntKind.wrap IntKind.u32
                (Int.fdiv (IntKind.wrap IntKind.u64 (IntKind.wrap IntKind.u64 a * IntKind.wrap IntKind.u64 b))
                  4294967296))),
          Sv.v
            (Value.int IntKind.u32
              (IntKind.wrap IntKind.u32
                (IntKind.wrap IntKind.u64 (IntKind.wrap IntKind.u64 a * IntKind.wrap IntKind.u64 b)))),
          Sv.agg
            [Sv.v
                (Value.bool
                  (IntKind.wrap IntKind.u32
                      (Int.fdiv (IntKind.wrap IntKind.u64 (IntKind.wrap IntKind.u64 a * IntKind.wrap IntKind.u64 b))
                        4294967296) !=
                    0)),
              Sv.v (Value.bool f_1), Sv.v (Value.bool f_2), Sv.v (Value.bool f_3),
              Sv.v
                (Value.bool
                  (IntKind.wrap IntKind.u32
                      (Int.fdiv (IntKind.wrap IntKind.u64 (IntKind.wrap IntKind.u64 a * IntKind.wrap IntKind.u64 b))
                        4294967296) !=
                    0)),
              Sv.v (Value.bool f_5)]])) := by kernel_rfl
theorem mul_nice (f_0 : Bool) (f_1 : Bool) (f_2 : Bool) (f_3 : Bool) (f_4 : Bool) (f_5 : Bool) (a : Int) (b : Int) (hg : (in32 a && (in32 b)) = true) :
    evF Try.prog Γ0 400 20 [.agg [.v (.bool f_0), .v (.bool f_1), .v (.bool f_2), .v (.bool f_3), .v (.bool f_4), .v (.bool f_5)], .v (.int .u32 a), .v (.int .u32 b)] [] (fun x _ => some x) (fun _ _ => none) = some (.tup [.v (.int .u32 (mulHi a b)), .v (.int .u32 (mulLo a b)), .agg [.v (.bool (mulHi a b != 0)), .v (.bool f_1), .v (.bool f_2), .v (.bool f_3), .v (.bool (mulHi a b != 0)), .v (.bool f_5)]]) := by
  rw [mul_form]
  simp only [Bool.and_eq_true, in32_iff] at hg
  obtain ⟨⟨ha, ha'⟩, hb, hb'⟩ := hg
  have hm := mul_bd ha ha' hb hb'
  have e1 : IntKind.wrap IntKind.u64 (IntKind.wrap IntKind.u64 a * IntKind.wrap IntKind.u64 b) = a * b := by
    rw [wr_u64_id ha (by omega), wr_u64_id hb (by omega), wr_u64_id hm.1 (by omega)]
  have e2 : Int.fdiv (a * b) 4294967296 = mulHi a b := Int.fdiv_eq_ediv_of_nonneg _ (by omega)
  have hh := mulHi_bd ha ha' hb hb'
  have e3 : IntKind.wrap IntKind.u32 (mulHi a b) = mulHi a b := wr_u32_id hh.1 hh.2
  have e4 : IntKind.wrap IntKind.u32 (a * b) = mulLo a b := wr_u32 _
  simp only [e1, e2, e3, e4]
def mulS : Nice := fun R args kv => match args with
  | [.agg [.v (.bool f_0), .v (.bool f_1), .v (.bool f_2), .v (.bool f_3), .v (.bool f_4), .v (.bool f_5)], .v (.int .u32 a), .v (.int .u32 b)] => bif in32 a && (in32 b) then kv (.tup [.v (.int .u32 (mulHi a b)), .v (.int .u32 (mulLo a b)), .agg [.v (.bool (mulHi a b != 0)), .v (.bool f_1), .v (.bool f_2), .v (.bool f_3), .v (.bool (mulHi a b != 0)), .v (.bool f_5)]]) else none
  | _ => none
theorem mulS_ok : NiceOk Try.prog Γ0 400 20 mulS := by
  intro R args kv r h
  unfold mulS at h
  split at h
  · obtain ⟨hg, h⟩ := cond_some h
    exact ⟨_, h, rfl, rfl, mul_nice _ _ _ _ _ _ _ _ hg⟩
  · cases h
theorem rmul_form (f_0 : Bool) (f_1 : Bool) (f_2 : Bool) (f_3 : Bool) (f_4 : Bool) (f_5 : Bool) (a : Int) (b : Int) :
    evF Try.prog Γ0 400 24 [.agg [.v (.bool f_0), .v (.bool f_1), .v (.bool f_2), .v (.bool f_3), .v (.bool f_4), .v (.bool f_5)], .v (.int .u32 a), .v (.int .u32 b)] [] (fun x _ => some x) (fun _ _ => none) =
    (some
      (Sv.tup
        [Sv.v
            (Value.int IntKind.u32
              (IntKind.wrap IntKind.u32
                (Int.fdiv (IntKind.wrap IntKind.u64 (IntKind.wrap IntKind.u64 a * IntKind.wrap IntKind.u64 b))
                  4294967296))),
          Sv.v
            (Value.int IntKind.u32
              (IntKind.wrap IntKind.u32
                (IntKind.wrap IntKind.u64 (IntKind.wrap IntKind.u64 a * IntKind.wrap IntKind.u64 b)))),
          Sv.agg
            [Sv.v
                (Value.bool
                  (Int.fdiv (IntKind.wrap IntKind.u64 (IntKind.wrap IntKind.u64 a * IntKind.wrap IntKind.u64 b))
                      4294967296 !=
                    0)),
              Sv.v (Value.bool f_1), Sv.v (Value.bool f_2), Sv.v (Value.bool f_3),
              Sv.v
                (Value.bool
                  (Int.fdiv (IntKind.wrap IntKind.u64 (IntKind.wrap IntKind.u64 a * IntKind.wrap IntKind.u64 b))
                      4294967296 !=
                    0)),
              Sv.v (Value.bool f_5)]])) := by kernel_rfl
theorem rmul_nice (f_0 : Bool) (f_1 : Bool) (f_2 : Bool) (f_3 : Bool) (f_4 : Bool) (f_5 : Bool) (a : Int) (b : Int) (hg : (in32 a && (in32 b)) = true) :
    evF Try.prog Γ0 400 24 [.agg [.v (.bool f_0), .v (.bool f_1), .v (.bool f_2), .v (.bool f_3), .v (.bool f_4), .v (.bool f_5)], .v (.int .u32 a), .v (.int .u32 b)] [] (fun x _ => some x) (fun _ _ => none) = some (.tup [.v (.int .u32 (mulHi a b)), .v (.int .u32 (mulLo a b)), .agg [.v (.bool (mulHi a b != 0)), .v (.bool f_1), .v (.bool f_2), .v (.bool f_3), .v (.bool (mulHi a b != 0)), .v (.bool f_5)]]) := by
  rw [rmul_form]
  simp only [Bool.and_eq_true, in32_iff] at hg
  obtain ⟨⟨ha, ha'⟩, hb, hb'⟩ := hg
  have hm := mul_bd ha ha' hb hb'
  have e1 : IntKind.wrap IntKind.u64 (IntKind.wrap IntKind.u64 a * IntKind.wrap IntKind.u64 b) = a * b := by
    rw [wr_u64_id ha (by omega), wr_u64_id hb (by omega), wr_u64_id hm.1 (by omega)]
  have e2 : Int.fdiv (a * b) 4294967296 = mulHi a b := Int.fdiv_eq_ediv_of_nonneg _ (by omega)
  have hh := mulHi_bd ha ha' hb hb'
  have e3 : IntKind.wrap IntKind.u32 (mulHi a b) = mulHi a b := wr_u32_id hh.1 hh.2
  have e4 : IntKind.wrap IntKind.u32 (a * b) = mulLo a b := wr_u32 _
  simp only [e1, e2, e3, e4]
def rmulS : Nice := fun R args kv => match args with
  | [.agg [.v (.bool f_0), .v (.bool f_1), .v (.bool f_2), .v (.bool f_3), .v (.bool f_4), .v (.bool f_5)], .v (.int .u32 a), .v (.int .u32 b)] => bif in32 a && (in32 b) then kv (.tup [.v (.int .u32 (mulHi a b)), .v (.int .u32 (mulLo a b)), .agg [.v (.bool (mulHi a b != 0)), .v (.bool f_1), .v (.bool f_2), .v (.bool f_3), .v (.bool (mulHi a b != 0)), .v (.bool f_5)]]) else none
  | _ => none
theorem rmulS_ok : NiceOk Try.prog Γ0 400 24 rmulS := by
  intro R args kv r h
  unfold rmulS at h
  split at h
  · obtain ⟨hg, h⟩ := cond_some h
    exact ⟨_, h, rfl, rfl, rmul_nice _ _ _ _ _ _ _ _ hg⟩
  · cases h
theorem imul_form (f_0 : Bool) (f_1 : Bool) (f_2 : Bool) (f_3 : Bool) (f_4 : Bool) (f_5 : Bool) (a : Int) (b : Int) :
    evF Try.prog Γ0 400 25 [.agg [.v (.bool f_0), .v (.bool f_1), .v (.bool f_2), .v (.bool f_3), .v (.bool f_4), .v (.bool f_5)], .v (.int .u32 a), .v (.int .u32 b)] [] (fun x _ => some x) (fun _ _ => none) =
    (some
      (Sv.tup
        [Sv.v
            (Value.int IntKind.u32
              (IntKind.wrap IntKind.u32
                (Int.fdiv
                  (IntKind.wrap IntKind.u64
                    (IntKind.wrap IntKind.i64
                      (IntKind.wrap IntKind.i64 (IntKind.wrap IntKind.i32 a) *
                        IntKind.wrap IntKind.i64 (IntKind.wrap IntKind.i32 b))))
                  4294967296))),
          Sv.v
            (Value.int IntKind.u32
              (IntKind.wrap IntKind.u32
                (IntKind.wrap IntKind.i64
                  (IntKind.wrap IntKind.i64 (IntKind.wrap IntKind.i32 a) *
                    IntKind.wrap IntKind.i64 (IntKind.wrap IntKind.i32 b))))),
          Sv.agg
            [Sv.v
                (Value.bool
                  (IntKind.wrap IntKind.i64
                      (IntKind.wrap IntKind.i64 (IntKind.wrap IntKind.i32 a) *
                        IntKind.wrap IntKind.i64 (IntKind.wrap IntKind.i32 b)) !=
                    IntKind.wrap IntKind.i64
                      (IntKind.wrap IntKind.i32
                        (IntKind.wrap IntKind.i64
                          (IntKind.wrap IntKind.i64 (IntKind.wrap IntKind.i32 a) *
                            IntKind.wrap IntKind.i64 (IntKind.wrap IntKind.i32 b)))))),
              Sv.v (Value.bool f_1), Sv.v (Value.bool f_2), Sv.v (Value.bool f_3),
              Sv.v
                (Value.bool
                  (IntKind.wrap IntKind.i64
                      (IntKind.wrap IntKind.i64 (IntKind.wrap IntKind.i32 a) *
                        IntKind.wrap IntKind.i64 (IntKind.wrap IntKind.i32 b)) !=
                    IntKind.wrap IntKind.i64
                      (IntKind.wrap IntKind.i32
                        (IntKind.wrap IntKind.i64
                          (IntKind.wrap IntKind.i64 (IntKind.wrap IntKind.i32 a) *
                            IntKind.wrap IntKind.i64 (IntKind.wrap IntKind.i32 b)))))),
              Sv.v (Value.bool f_5)]])) := by kernel_rfl
theorem imul_nice (f_0 : Bool) (f_1 : Bool) (f_2 : Bool) (f_3 : Bool) (f_4 : Bool) (f_5 : Bool) (a : Int) (b : Int) (hg : (in32 a && (in32 b)) = true) :
    evF Try.prog Γ0 400 25 [.agg [.v (.bool f_0), .v (.bool f_1), .v (.bool f_2), .v (.bool f_3), .v (.bool f_4), .v (.bool f_5)], .v (.int .u32 a), .v (.int .u32 b)] [] (fun x _ => some x) (fun _ _ => none) = some (.tup [.v (.int .u32 (imulHi a b)), .v (.int .u32 (imulLo a b)), .agg [.v (.bool (imulOver a b)), .v (.bool f_1), .v (.bool f_2), .v (.bool f_3), .v (.bool (imulOver a b)), .v (.bool f_5)]]) := by
  rw [imul_form]
  simp only [Bool.and_eq_true, in32_iff] at hg
  obtain ⟨⟨ha, ha'⟩, hb, hb'⟩ := hg
  have sa := s32_bd ha ha'
  have sb := s32_bd hb hb'
  have hm := smul_bd sa.1 sa.2 sb.1 sb.2
  have e1 : IntKind.wrap IntKind.i64 (IntKind.wrap IntKind.i64 (IntKind.wrap IntKind.i32 a) * IntKind.wrap IntKind.i64 (IntKind.wrap IntKind.i32 b)) = s32 a * s32 b := by
    have ea : IntKind.wrap IntKind.i64 (s32 a) = s32 a := wr_i64_id (by omega) (by omega)
    have eb : IntKind.wrap IntKind.i64 (s32 b) = s32 b := wr_i64_id (by omega) (by omega)
    rw [wr_i32_s ha ha', wr_i32_s hb hb', ea, eb, wr_i64_id (by omega) (by omega)]
  have e2 : IntKind.wrap IntKind.u32 (Int.fdiv (IntKind.wrap IntKind.u64 (s32 a * s32 b)) 4294967296) = imulHi a b := by
    rw [Int.fdiv_eq_ediv_of_nonneg _ (by omega), wr_u64, wr_u32]; unfold imulHi; omega
  have e3 : IntKind.wrap IntKind.u32 (s32 a * s32 b) = imulLo a b := wr_u32 _
  have e4 : IntKind.wrap IntKind.u32 (IntKind.wrap IntKind.u64 (s32 a * s32 b)) = imulLo a b := by rw [wr_u64, wr_u32]; unfold imulLo; omega
  simp only [e1, e2, e3, e4]
  have e5 : ((s32 a * s32 b) != IntKind.wrap IntKind.i64 (IntKind.wrap IntKind.i32 (s32 a * s32 b))) = imulOver a b := by
    unfold imulOver
    generalize s32 a * s32 b = p at hm
    rw [wr_i32, wr_i64, Bool.eq_iff_iff]
    simp
    omega
  simp only [e5]
def imulS : Nice := fun R args kv => match args with
  | [.agg [.v (.bool f_0), .v (.bool f_1), .v (.bool f_2), .v (.bool f_3), .v (.bool f_4), .v (.bool f_5)], .v (.int .u32 a), .v (.int .u32 b)] => bif in32 a && (in32 b) then kv (.tup [.v (.int .u32 (imulHi a b)), .v (.int .u32 (imulLo a b)), .agg [.v (.bool (imulOver a b)), .v (.bool f_1), .v (.bool f_2), .v (.bool f_3), .v (.bool (imulOver a b)), .v (.bool f_5)]]) else none
  | _ => none
theorem imulS_ok : NiceOk Try.prog Γ0 400 25 imulS := by
  intro R args kv r h
  unfold imulS at h
  split at h
  · obtain ⟨hg, h⟩ := cond_some h
    exact ⟨_, h, rfl, rfl, imul_nice _ _ _ _ _ _ _ _ hg⟩
  · cases h
theorem rimul_form (f_0 : Bool) (f_1 : Bool) (f_2 : Bool) (f_3 : Bool) (f_4 : Bool) (f_5 : Bool) (a : Int) (b : Int) :
    evF Try.prog Γ0 400 26 [.agg [.v (.bool f_0), .v (.bool f_1), .v (.bool f_2), .v (.bool f_3), .v (.bool f_4), .v (.bool f_5)], .v (.int .u32 a), .v (.int .u32 b)] [] (fun x _ => some x) (fun _ _ => none) =
    (bif
        decide
          (IntKind.wrap IntKind.i64
              (IntKind.wrap IntKind.i64 (IntKind.wrap IntKind.i32 a) *
                IntKind.wrap IntKind.i64 (IntKind.wrap IntKind.i32 b)) <
            -2147483648) then
      some
        (Sv.tup
          [Sv.v
              (Value.int IntKind.u32
                (IntKind.wrap IntKind.u32
                  (Int.fdiv
                    (IntKind.wrap IntKind.u64
                      (IntKind.wrap IntKind.i64
                        (IntKind.wrap IntKind.i64 (IntKind.wrap IntKind.i32 a) *
                          IntKind.wrap IntKind.i64 (IntKind.wrap IntKind.i32 b))))
                    4294967296))),
            Sv.v
              (Value.int IntKind.u32
                (IntKind.wrap IntKind.u32
                  (IntKind.wrap IntKind.u64
                    (IntKind.wrap IntKind.i64
                      (IntKind.wrap IntKind.i64 (IntKind.wrap IntKind.i32 a) *
                        IntKind.wrap IntKind.i64 (IntKind.wrap IntKind.i32 b)))))),
            Sv.agg
              [Sv.v (Value.bool true), Sv.v (Value.bool f_1), Sv.v (Value.bool f_2), Sv.v (Value.bool f_3),
                Sv.v (Value.bool true), Sv.v (Value.bool f_5)]])
    else
      some
        (Sv.tup
          [Sv.v
              (Value.int IntKind.u32
                (IntKind.wrap IntKind.u32
                  (Int.fdiv
                    (IntKind.wrap IntKind.u64
                      (IntKind.wrap IntKind.i64
                        (IntKind.wrap IntKind.i64 (IntKind.wrap IntKind.i32 a) *
                          IntKind.wrap IntKind.i64 (IntKind.wrap IntKind.i32 b))))
                    4294967296))),
            Sv.v
              (Value.int IntKind.u32
                (IntKind.wrap IntKind.u32
                  (IntKind.wrap IntKind.u64
                    (IntKind.wrap IntKind.i64
                      (IntKind.wrap IntKind.i64 (IntKind.wrap IntKind.i32 a) *
                        IntKind.wrap IntKind.i64 (IntKind.wrap IntKind.i32 b)))))),
            Sv.agg
              [Sv.v
                  (Value.bool
                    (decide
                      (IntKind.wrap IntKind.i64
                          (IntKind.wrap IntKind.i64 (IntKind.wrap IntKind.i32 a) *
                            IntKind.wrap IntKind.i64 (IntKind.wrap IntKind.i32 b)) >
                        2147483647))),
                Sv.v (Value.bool f_1), Sv.v (Value.bool f_2), Sv.v (Value.bool f_3),
                Sv.v
                  (Value.bool
                    (decide
                      (IntKind.wrap IntKind.i64
                          (IntKind.wrap IntKind.i64 (IntKind.wrap IntKind.i32 a) *
                            IntKind.wrap IntKind.i64 (IntKind.wrap IntKind.i32 b)) >
                        2147483647))),
                Sv.v (Value.bool f_5)]])) := by kernel_rfl
theorem rimul_nice (f_0 : Bool) (f_1 : Bool) (f_2 : Bool) (f_3 : Bool) (f_4 : Bool) (f_5 : Bool) (a : Int) (b : Int) (hg : (in32 a && (in32 b)) = true) :
    evF Try.prog Γ0 400 26 [.agg [.v (.bool f_0), .v (.bool f_1), .v (.bool f_2), .v (.bool f_3), .v (.bool f_4), .v (.bool f_5)], .v (.int .u32 a), .v (.int .u32 b)] [] (fun x _ => some x) (fun _ _ => none) = some (.tup [.v (.int .u32 (imulHi a b)), .v (.int .u32 (imulLo a b)), .agg [.v (.bool (imulOver a b)), .v (.bool f_1), .v (.bool f_2), .v (.bool f_3), .v (.bool (imulOver a b)), .v (.bool f_5)]]) := by
  rw [rimul_form]
  simp only [Bool.and_eq_true, in32_iff] at hg
  obtain ⟨⟨ha, ha'⟩, hb, hb'⟩ := hg
  have sa := s32_bd ha ha'
  have sb := s32_bd hb hb'
  have hm := smul_bd sa.1 sa.2 sb.1 sb.2
  have e1 : IntKind.wrap IntKind.i64 (IntKind.wrap IntKind.i64 (IntKind.wrap IntKind.i32 a) * IntKind.wrap IntKind.i64 (IntKind.wrap IntKind.i32 b)) = s32 a * s32 b := by
    have ea : IntKind.wrap IntKind.i64 (s32 a) = s32 a := wr_i64_id (by omega) (by omega)
    have eb : IntKind.wrap IntKind.i64 (s32 b) = s32 b := wr_i64_id (by omega) (by omega)
    rw [wr_i32_s ha ha', wr_i32_s hb hb', ea, eb, wr_i64_id (by omega) (by omega)]
  have e2 : IntKind.wrap IntKind.u32 (Int.fdiv (IntKind.wrap IntKind.u64 (s32 a * s32 b)) 4294967296) = imulHi a b := by
    rw [Int.fdiv_eq_ediv_of_nonneg _ (by omega), wr_u64, wr_u32]; unfold imulHi; omega
  have e3 : IntKind.wrap IntKind.u32 (s32 a * s32 b) = imulLo a b := wr_u32 _
  have e4 : IntKind.wrap IntKind.u32 (IntKind.wrap IntKind.u64 (s32 a * s32 b)) = imulLo a b := by rw [wr_u64, wr_u32]; unfold imulLo; omega
  simp only [e1, e2, e3, e4]
  have e5 : ∀ x y : Sv, (bif decide (s32 a * s32 b < -2147483648) then some x else some y) = some (bif decide (s32 a * s32 b < -2147483648) then x else y) := fun x y => by cases decide (s32 a * s32 b < -2147483648) <;> rfl
  rw [e5]
  unfold imulOver
  generalize s32 a * s32 b = p at *
  by_cases h1 : p < -2147483648
  · have h2 : ¬ (-2147483648 ≤ p) := by omega
    simp [h1, h2]
  · have h2 : -2147483648 ≤ p := by omega
    have h3 : decide (p > 2147483647) = !decide (p < 2147483648) := by rw [Bool.eq_iff_iff]; simp; omega
    simp [h1, h2, h3]
def rimulS : Nice := fun R args kv => match args with
  | [.agg [.v (.bool f_0), .v (.bool f_1), .v (.bool f_2), .v (.bool f_3), .v (.bool f_4), .v (.bool f_5)], .v (.int .u32 a), .v (.int .u32 b)] => bif in32 a && (in32 b) then kv (.tup [.v (.int .u32 (imulHi a b)), .v (.int .u32 (imulLo a b)), .agg [.v (.bool (imulOver a b)), .v (.bool f_1), .v (.bool f_2), .v (.bool f_3), .v (.bool (imulOver a b)), .v (.bool f_5)]]) else none
  | _ => none
theorem rimulS_ok : NiceOk Try.prog Γ0 400 26 rimulS := by
  intro R args kv r h
  unfold rimulS at h
  split at h
  · obtain ⟨hg, h⟩ := cond_some h
    exact ⟨_, h, rfl, rfl, rimul_nice _ _ _ _ _ _ _ _ hg⟩
  · cases h
theorem div_form (a : Int) (b : Int) (c : Int) :
    evF Try.prog Γ0 400 21 [.v (.int .u32 a), .v (.int .u32 b), .v (.int .u32 c)] [] (fun x _ => some x) (fun _ _ => none) =
    (bif decide (a ≥ c) then
      some (Sv.tup [Sv.v (Value.int IntKind.u32 0), Sv.v (Value.int IntKind.u32 0), Sv.v (Value.bool false)])
    else
      bif IntKind.wrap IntKind.u64 c == 0 then none
      else
        bif IntKind.wrap IntKind.u64 c == 0 then none
        else
          some
            (Sv.tup
              [Sv.v
                  (Value.int IntKind.u32
                    (IntKind.wrap IntKind.u32
                      (IntKind.wrap IntKind.u64
                        (Int.tdiv
                          (bits BinOp.or IntKind.u64 (IntKind.wrap IntKind.u64 (IntKind.wrap IntKind.u64 a * 4294967296))
                            (IntKind.wrap IntKind.u64 b))
                          (IntKind.wrap IntKind.u64 c))))),
                Sv.v
                  (Value.int IntKind.u32
                    (IntKind.wrap IntKind.u32
                      (Int.tmod
                        (bits BinOp.or IntKind.u64 (IntKind.wrap IntKind.u64 (IntKind.wrap IntKind.u64 a * 4294967296))
                          (IntKind.wrap IntKind.u64 b))
                        (IntKind.wrap IntKind.u64 c)))),
                Sv.v (Value.bool true)])) := by kernel_rfl
theorem div_nice (a : Int) (b : Int) (c : Int) (hg : (in32 a && (in32 b && (in32 c))) = true) :
    evF Try.prog Γ0 400 21 [.v (.int .u32 a), .v (.int .u32 b), .v (.int .u32 c)] [] (fun x _ => some x) (fun _ _ => none) = some (.tup [.v (.int .u32 (divQ a b c)), .v (.int .u32 (divR a b c)), .v (.bool (decide (a < c)))]) := by
  rw [div_form]
  simp only [Bool.and_eq_true, in32_iff] at hg
  obtain ⟨⟨ha, ha'⟩, ⟨hb, hb'⟩, hc, hc'⟩ := hg
  by_cases h : a < c
  · have hq := div_lt ha h hb hb'
    have e0 : decide (a ≥ c) = false := by simp; omega
    have e1 : IntKind.wrap IntKind.u64 c = c := wr_u64_id hc (by omega)
    have e2 : (c == 0) = false := by simp; omega
    have e3 : bits BinOp.or IntKind.u64 (IntKind.wrap IntKind.u64 (IntKind.wrap IntKind.u64 a * 4294967296)) (IntKind.wrap IntKind.u64 b) = a * 4294967296 + b := by
      rw [wr_u64_id ha (by omega), wr_u64_id hb (by omega), wr_u64_id (by omega) (by omega), or_halves ha ha' hb hb']
    have e4 : IntKind.wrap IntKind.u32 (IntKind.wrap IntKind.u64 (Int.tdiv (a * 4294967296 + b) c)) = divQ a b c := by
      rw [Int.tdiv_eq_ediv_of_nonneg (by omega), wr_u64_id hq.1 (by omega), wr_u32_id hq.1 hq.2]
      unfold divQ; rw [if_pos h]
    have hr : 0 ≤ (a * 4294967296 + b) % c ∧ (a * 4294967296 + b) % c < c := ⟨Int.emod_nonneg _ (by omega), Int.emod_lt_of_pos _ (by omega)⟩
    have e5 : IntKind.wrap IntKind.u32 (Int.tmod (a * 4294967296 + b) c) = divR a b c := by
      rw [Int.tmod_eq_emod_of_nonneg (by omega), wr_u32_id hr.1 (by omega)]
      unfold divR; rw [if_pos h]
    simp only [e0, e1, e2, e3, e4, e5, cond_false, decide_eq_true h]
  · have e0 : decide (a ≥ c) = true := by simp; omega
    simp only [e0, cond_true, divQ, divR, if_neg h, decide_eq_false h, Bool.cond_self]
def divS : Nice := fun R args kv => match args with
  | [.v (.int .u32 a), .v (.int .u32 b), .v (.int .u32 c)] => bif in32 a && (in32 b && (in32 c)) then kv (.tup [.v (.int .u32 (divQ a b c)), .v (.int .u32 (divR a b c)), .v (.bool (decide (a < c)))]) else none
  | _ => none
theorem divS_ok : NiceOk Try.prog Γ0 400 21 divS := by
  intro R args kv r h
  unfold divS at h
  split at h
  · obtain ⟨hg, h⟩ := cond_some h
    exact ⟨_, h, rfl, rfl, div_nice _ _ _ hg⟩
  · cases h
theorem rdiv_form (a : Int) (b : Int) (c : Int) :
    evF Try.prog Γ0 400 32 [.v (.int .u32 a), .v (.int .u32 b), .v (.int .u32 c)] [] (fun x _ => some x) (fun _ _ => none) =
    (bif c == 0 then some (Sv.tup [Sv.v (Value.int IntKind.u32 0), Sv.v (Value.int IntKind.u32 0), Sv.v (Value.bool false)])
    else
      bif decide (a ≥ c) then
        some (Sv.tup [Sv.v (Value.int IntKind.u32 0), Sv.v (Value.int IntKind.u32 0), Sv.v (Value.bool false)])
      else
        bif IntKind.wrap IntKind.u64 c == 0 then none
        else
          bif IntKind.wrap IntKind.u64 c == 0 then none
          else
            some
              (Sv.tup
                [Sv.v
                    (Value.int IntKind.u32
                      (IntKind.wrap IntKind.u32
                        (IntKind.wrap IntKind.u64
                          (Int.tdiv
                            (bits BinOp.or IntKind.u64 (IntKind.wrap IntKind.u64 (IntKind.wrap IntKind.u64 a * 4294967296))
                              (IntKind.wrap IntKind.u64 b))
                            (IntKind.wrap IntKind.u64 c))))),
                  Sv.v
                    (Value.int IntKind.u32
                      (IntKind.wrap IntKind.u32
                        (Int.tmod
                          (bits BinOp.or IntKind.u64 (IntKind.wrap IntKind.u64 (IntKind.wrap IntKind.u64 a * 4294967296))
                            (IntKind.wrap IntKind.u64 b))
                          (IntKind.wrap IntKind.u64 c)))),
                  Sv.v (Value.bool true)])) := by kernel_rfl
theorem rdiv_nice (a : Int) (b : Int) (c : Int) (hg : (in32 a && (in32 b && (in32 c))) = true) :
    evF Try.prog Γ0 400 32 [.v (.int .u32 a), .v (.int .u32 b), .v (.int .u32 c)] [] (fun x _ => some x) (fun _ _ => none) = some (.tup [.v (.int .u32 (divQ a b c)), .v (.int .u32 (divR a b c)), .v (.bool (decide (a < c)))]) := by
  rw [rdiv_form]
  simp only [Bool.and_eq_true, in32_iff] at hg
  obtain ⟨⟨ha, ha'⟩, ⟨hb, hb'⟩, hc, hc'⟩ := hg
  by_cases h : a < c
  · have hq := div_lt ha h hb hb'
    have e0 : decide (a ≥ c) = false := by simp; omega
    have e1 : IntKind.wrap IntKind.u64 c = c := wr_u64_id hc (by omega)
    have e2 : (c == 0) = false := by simp; omega
    have e3 : bits BinOp.or IntKind.u64 (IntKind.wrap IntKind.u64 (IntKind.wrap IntKind.u64 a * 4294967296)) (IntKind.wrap IntKind.u64 b) = a * 4294967296 + b := by
      rw [wr_u64_id ha (by omega), wr_u64_id hb (by omega), wr_u64_id (by omega) (by omega), or_halves ha ha' hb hb']
    have e4 : IntKind.wrap IntKind.u32 (IntKind.wrap IntKind.u64 (Int.tdiv (a * 4294967296 + b) c)) = divQ a b c := by
      rw [Int.tdiv_eq_ediv_of_nonneg (by omega), wr_u64_id hq.1 (by omega), wr_u32_id hq.1 hq.2]
      unfold divQ; rw [if_pos h]
    have hr : 0 ≤ (a * 4294967296 + b) % c ∧ (a * 4294967296 + b) % c < c := ⟨Int.emod_nonneg _ (by omega), Int.emod_lt_of_pos _ (by omega)⟩
    have e5 : IntKind.wrap IntKind.u32 (Int.tmod (a * 4294967296 + b) c) = divR a b c := by
      rw [Int.tmod_eq_emod_of_nonneg (by omega), wr_u32_id hr.1 (by omega)]
      unfold divR; rw [if_pos h]
    simp only [e0, e1, e2, e3, e4, e5, cond_false, decide_eq_true h]
  · have e0 : decide (a ≥ c) = true := by simp; omega
    simp only [e0, cond_true, divQ, divR, if_neg h, decide_eq_false h, Bool.cond_self]
def rdivS : Nice := fun R args kv => match args with
  | [.v (.int .u32 a), .v (.int .u32 b), .v (.int .u32 c)] => bif in32 a && (in32 b && (in32 c)) then kv (.tup [.v (.int .u32 (divQ a b c)), .v (.int .u32 (divR a b c)), .v (.bool (decide (a < c)))]) else none
  | _ => none
theorem rdivS_ok : NiceOk Try.prog Γ0 400 32 rdivS := by
  intro R args kv r h
  unfold rdivS at h
  split at h
  · obtain ⟨hg, h⟩ := cond_some h
    exact ⟨_, h, rfl, rfl, rdiv_nice _ _ _ hg⟩
  · cases h
theorem idiv_form (a : Int) (b : Int) (c : Int) :
    evF Try.prog Γ0 400 33 [.v (.int .u32 a), .v (.int .u32 b), .v (.int .u32 c)] [] (fun x _ => some x) (fun _ _ => none) =
    (bif IntKind.wrap IntKind.i64 (IntKind.wrap IntKind.i32 c) == 0 then
      some (Sv.tup [Sv.v (Value.int IntKind.u32 0), Sv.v (Value.int IntKind.u32 0), Sv.v (Value.bool false)])
    else
      bif IntKind.wrap IntKind.i64 (IntKind.wrap IntKind.i32 c) == -1 then
        bif
            IntKind.wrap IntKind.i64
                (bits BinOp.or IntKind.u64 (IntKind.wrap IntKind.u64 (IntKind.wrap IntKind.u64 a * 4294967296))
                  (IntKind.wrap IntKind.u64 b)) ==
              -9223372036854775808 then
          some (Sv.tup [Sv.v (Value.int IntKind.u32 0), Sv.v (Value.int IntKind.u32 0), Sv.v (Value.bool false)])
        else
          bif IntKind.wrap IntKind.i64 (IntKind.wrap IntKind.i32 c) == 0 then none
          else
            bif
                IntKind.wrap IntKind.i64
                    (Int.tdiv
                      (IntKind.wrap IntKind.i64
                        (bits BinOp.or IntKind.u64 (IntKind.wrap IntKind.u64 (IntKind.wrap IntKind.u64 a * 4294967296))
                          (IntKind.wrap IntKind.u64 b)))
                      (IntKind.wrap IntKind.i64 (IntKind.wrap IntKind.i32 c))) !=
                  IntKind.wrap IntKind.i64
                    (IntKind.wrap IntKind.i32
                      (IntKind.wrap IntKind.i64
                        (Int.tdiv
                          (IntKind.wrap IntKind.i64
                            (bits BinOp.or IntKind.u64 (IntKind.wrap IntKind.u64 (IntKind.wrap IntKind.u64 a * 4294967296))
                              (IntKind.wrap IntKind.u64 b)))
                          (IntKind.wrap IntKind.i64 (IntKind.wrap IntKind.i32 c))))) then
              some (Sv.tup [Sv.v (Value.int IntKind.u32 0), Sv.v (Value.int IntKind.u32 0), Sv.v (Value.bool false)])
            else
              bif IntKind.wrap IntKind.i64 (IntKind.wrap IntKind.i32 c) == 0 then none
              else
                some
                  (Sv.tup
                    [Sv.v
                        (Value.int IntKind.u32
                          (IntKind.wrap IntKind.u32
                            (IntKind.wrap IntKind.i64
                              (Int.tdiv
                                (IntKind.wrap IntKind.i64
                                  (bits BinOp.or IntKind.u64
                                    (IntKind.wrap IntKind.u64 (IntKind.wrap IntKind.u64 a * 4294967296))
                                    (IntKind.wrap IntKind.u64 b)))
                                (IntKind.wrap IntKind.i64 (IntKind.wrap IntKind.i32 c)))))),
                      Sv.v
                        (Value.int IntKind.u32
                          (IntKind.wrap IntKind.u32
                            (Int.tmod
                              (IntKind.wrap IntKind.i64
                                (bits BinOp.or IntKind.u64
                                  (IntKind.wrap IntKind.u64 (IntKind.wrap IntKind.u64 a * 4294967296))
                                  (IntKind.wrap IntKind.u64 b)))
                              (IntKind.wrap IntKind.i64 (IntKind.wrap IntKind.i32 c))))),
                      Sv.v (Value.bool true)])
      else
        bif IntKind.wrap IntKind.i64 (IntKind.wrap IntKind.i32 c) == 0 then none
        else
          bif
              IntKind.wrap IntKind.i64
                  (Int.tdiv
                    (IntKind.wrap IntKind.i64
                      (bits BinOp.or IntKind.u64 (IntKind.wrap IntKind.u64 (IntKind.wrap IntKind.u64 a * 4294967296))
                        (IntKind.wrap IntKind.u64 b)))
                    (IntKind.wrap IntKind.i64 (IntKind.wrap IntKind.i32 c))) !=
                IntKind.wrap IntKind.i64
                  (IntKind.wrap IntKind.i32
                    (IntKind.wrap IntKind.i64
                      (Int.tdiv
                        (IntKind.wrap IntKind.i64
                          (bits BinOp.or IntKind.u64 (IntKind.wrap IntKind.u64 (IntKind.wrap IntKind.u64 a * 4294967296))
                            (IntKind.wrap IntKind.u64 b)))
                        (IntKind.wrap IntKind.i64 (IntKind.wrap IntKind.i32 c))))) then
            some (Sv.tup [Sv.v (Value.int IntKind.u32 0), Sv.v (Value.int IntKind.u32 0), Sv.v (Value.bool false)])
          else
            bif IntKind.wrap IntKind.i64 (IntKind.wrap IntKind.i32 c) == 0 then none
            else
              some
                (Sv.tup
                  [Sv.v
                      (Value.int IntKind.u32
                        (IntKind.wrap IntKind.u32
                          (IntKind.wrap IntKind.i64
                            (Int.tdiv
                              (IntKind.wrap IntKind.i64
                                (bits BinOp.or IntKind.u64
                                  (IntKind.wrap IntKind.u64 (IntKind.wrap IntKind.u64 a * 4294967296))
                                  (IntKind.wrap IntKind.u64 b)))
                              (IntKind.wrap IntKind.i64 (IntKind.wrap IntKind.i32 c)))))),
                    Sv.v
                      (Value.int IntKind.u32
                        (IntKind.wrap IntKind.u32
                          (Int.tmod
                            (IntKind.wrap IntKind.i64
                              (bits BinOp.or IntKind.u64
                                (IntKind.wrap IntKind.u64 (IntKind.wrap IntKind.u64 a * 4294967296))
                                (IntKind.wrap IntKind.u64 b)))
                            (IntKind.wrap IntKind.i64 (IntKind.wrap IntKind.i32 c))))),
                    Sv.v (Value.bool true)])) := by kernel_rfl
theorem idiv_nice (a : Int) (b : Int) (c : Int) (hg : (in32 a && (in32 b && (in32 c))) = true) :
    evF Try.prog Γ0 400 33 [.v (.int .u32 a), .v (.int .u32 b), .v (.int .u32 c)] [] (fun x _ => some x) (fun _ _ => none) = some (.tup [.v (.int .u32 (idivQ a b c)), .v (.int .u32 (idivR a b c)), .v (.bool (idivOk a b c))]) := by
  rw [idiv_form]
  simp only [Bool.and_eq_true, in32_iff] at hg
  obtain ⟨⟨ha, ha'⟩, ⟨hb, hb'⟩, hc, hc'⟩ := hg
  have sc := s32_bd hc hc'
  have hn := idivN_bd ha ha' hb hb'
  have e1 : IntKind.wrap IntKind.i64 (IntKind.wrap IntKind.i32 c) = s32 c := by rw [wr_i32_s hc hc', wr_i64_id (by omega) (by omega)]
  have e3 : IntKind.wrap IntKind.i64 (bits BinOp.or IntKind.u64 (IntKind.wrap IntKind.u64 (IntKind.wrap IntKind.u64 a * 4294967296)) (IntKind.wrap IntKind.u64 b)) = idivN a b := by
    rw [wr_u64_id ha (by omega), wr_u64_id hb (by omega), wr_u64_id (by omega) (by omega), or_halves ha ha' hb hb']
    exact wr_i64_s (by omega) (by omega)
  have e6 : IntKind.bits IntKind.u64 = 64 := rfl
  have e7 : (2 : Int) ^ min (Int.toNat 32) 64 = 4294967296 := rfl
  simp only [e6, e7, e1, e3]
  unfold idivQ idivR idivOk
  by_cases h0 : s32 c = 0
  · simp [h0]
  · have t1 := tdiv_in (d := s32 c) hn.1 hn.2
    have t2 := tmod_in hn.1 hn.2 sc.1 sc.2 h0
    generalize idivN a b = n at *
    generalize s32 c = d at *
    by_cases h1 : n = -9223372036854775808 ∧ d = -1
    · obtain ⟨rfl, rfl⟩ := h1
      simp
    · have t1 := t1 h1
      have h1' : (n == -9223372036854775808 && d == -1) = false := by simpa using h1
      have h0' : (d == 0) = false := by simpa using h0
      have e4 : IntKind.wrap IntKind.i64 (Int.tdiv n d) = Int.tdiv n d := wr_i64_id t1.1 t1.2
      simp only [e4, h1', h0']
      have e5 : (Int.tdiv n d != IntKind.wrap IntKind.i64 (IntKind.wrap IntKind.i32 (Int.tdiv n d))) = !(decide (-2147483648 ≤ Int.tdiv n d) && decide (Int.tdiv n d < 2147483648)) := by
        generalize Int.tdiv n d = q at *
        rw [wr_i32, wr_i64, Bool.eq_iff_iff]; simp; omega
      simp only [e5, wr_u32]
      clear e4 e5 t1 t2 e3 e1 hn h0' h0
      generalize decide (-2147483648 ≤ Int.tdiv n d) = L
      generalize decide (Int.tdiv n d < 2147483648) = G
      generalize (d == -1) = B at *
      generalize (n == -9223372036854775808) = M at *
      cases B <;> cases M <;> cases L <;> cases G <;> first | rfl | (exact absurd h1' (by simp))
def idivS : Nice := fun R args kv => match args with
  | [.v (.int .u32 a), .v (.int .u32 b), .v (.int .u32 c)] => bif in32 a && (in32 b && (in32 c)) then kv (.tup [.v (.int .u32 (idivQ a b c)), .v (.int .u32 (idivR a b c)), .v (.bool (idivOk a b c))]) else none
  | _ => none
theorem idivS_ok : NiceOk Try.prog Γ0 400 33 idivS := by
  intro R args kv r h
  unfold idivS at h
  split at h
  · obtain ⟨hg, h⟩ := cond_some h
    exact ⟨_, h, rfl, rfl, idiv_nice _ _ _ hg⟩
  · cases h
theorem ridiv_form (a : Int) (b : Int) (c : Int) :
    evF Try.prog Γ0 400 34 [.v (.int .u32 a), .v (.int .u32 b), .v (.int .u32 c)] [] (fun x _ => some x) (fun _ _ => none) =
    (bif IntKind.wrap IntKind.i64 (IntKind.wrap IntKind.i32 c) == 0 then
      some (Sv.tup [Sv.v (Value.int IntKind.u32 0), Sv.v (Value.int IntKind.u32 0), Sv.v (Value.bool false)])
    else
      bif
          IntKind.wrap IntKind.i64
              (bits BinOp.or IntKind.u64 (IntKind.wrap IntKind.u64 (IntKind.wrap IntKind.u64 a * 4294967296))
                (IntKind.wrap IntKind.u64 b)) ==
            -9223372036854775808 then
        bif IntKind.wrap IntKind.i64 (IntKind.wrap IntKind.i32 c) == -1 then
          some (Sv.tup [Sv.v (Value.int IntKind.u32 0), Sv.v (Value.int IntKind.u32 0), Sv.v (Value.bool false)])
        else
          bif IntKind.wrap IntKind.i64 (IntKind.wrap IntKind.i32 c) == 0 then none
          else
            bif IntKind.wrap IntKind.i64 (IntKind.wrap IntKind.i32 c) == 0 then none
            else
              bif
                  decide
                    (IntKind.wrap IntKind.i64
                        (Int.tdiv
                          (IntKind.wrap IntKind.i64
                            (bits BinOp.or IntKind.u64
                              (IntKind.wrap IntKind.u64
                                (IntKind.wrap IntKind.u64 a * 2 ^ min (Int.toNat 32) (IntKind.bits IntKind.u64)))
                              (IntKind.wrap IntKind.u64 b)))
                          (IntKind.wrap IntKind.i64 (IntKind.wrap IntKind.i32 c))) <
                      -2147483648) then
                some (Sv.tup [Sv.v (Value.int IntKind.u32 0), Sv.v (Value.int IntKind.u32 0), Sv.v (Value.bool false)])
              else
                bif
                    decide
                      (IntKind.wrap IntKind.i64
                          (Int.tdiv
                            (IntKind.wrap IntKind.i64
                              (bits BinOp.or IntKind.u64
                                (IntKind.wrap IntKind.u64
                                  (IntKind.wrap IntKind.u64 a * 2 ^ min (Int.toNat 32) (IntKind.bits IntKind.u64)))
                                (IntKind.wrap IntKind.u64 b)))
                            (IntKind.wrap IntKind.i64 (IntKind.wrap IntKind.i32 c))) >
                        2147483647) then
                  some (Sv.tup [Sv.v (Value.int IntKind.u32 0), Sv.v (Value.int IntKind.u32 0), Sv.v (Value.bool false)])
                else
                  some
                    (Sv.tup
                      [Sv.v
                          (Value.int IntKind.u32
                            (IntKind.wrap IntKind.u32
                              (IntKind.wrap IntKind.i32
                                (IntKind.wrap IntKind.i64
                                  (Int.tdiv
                                    (IntKind.wrap IntKind.i64
                                      (bits BinOp.or IntKind.u64
                                        (IntKind.wrap IntKind.u64 (IntKind.wrap IntKind.u64 a * 4294967296))
                                        (IntKind.wrap IntKind.u64 b)))
                                    (IntKind.wrap IntKind.i64 (IntKind.wrap IntKind.i32 c))))))),
                        Sv.v
                          (Value.int IntKind.u32
                            (IntKind.wrap IntKind.u32
                              (IntKind.wrap IntKind.i32
                                (Int.tmod
                                  (IntKind.wrap IntKind.i64
                                    (bits BinOp.or IntKind.u64
                                      (IntKind.wrap IntKind.u64 (IntKind.wrap IntKind.u64 a * 4294967296))
                                      (IntKind.wrap IntKind.u64 b)))
                                  (IntKind.wrap IntKind.i64 (IntKind.wrap IntKind.i32 c)))))),
                        Sv.v (Value.bool true)])
      else
        bif IntKind.wrap IntKind.i64 (IntKind.wrap IntKind.i32 c) == 0 then none
        else
          bif IntKind.wrap IntKind.i64 (IntKind.wrap IntKind.i32 c) == 0 then none
          else
            bif
                decide
                  (IntKind.wrap IntKind.i64
                      (Int.tdiv
                        (IntKind.wrap IntKind.i64
                          (bits BinOp.or IntKind.u64
                            (IntKind.wrap IntKind.u64
                              (IntKind.wrap IntKind.u64 a * 2 ^ min (Int.toNat 32) (IntKind.bits IntKind.u64)))
                            (IntKind.wrap IntKind.u64 b)))
                        (IntKind.wrap IntKind.i64 (IntKind.wrap IntKind.i32 c))) <
                    -2147483648) then
              some (Sv.tup [Sv.v (Value.int IntKind.u32 0), Sv.v (Value.int IntKind.u32 0), Sv.v (Value.bool false)])
            else
              bif
                  decide
                    (IntKind.wrap IntKind.i64
                        (Int.tdiv
                          (IntKind.wrap IntKind.i64
                            (bits BinOp.or IntKind.u64
                              (IntKind.wrap IntKind.u64
                                (IntKind.wrap IntKind.u64 a * 2 ^ min (Int.toNat 32) (IntKind.bits IntKind.u64)))
                              (IntKind.wrap IntKind.u64 b)))
                          (IntKind.wrap IntKind.i64 (IntKind.wrap IntKind.i32 c))) >
                      2147483647) then
                some (Sv.tup [Sv.v (Value.int IntKind.u32 0), Sv.v (Value.int IntKind.u32 0), Sv.v (Value.bool false)])
              else
                some
                  (Sv.tup
                    [Sv.v
                        (Value.int IntKind.u32
                          (IntKind.wrap IntKind.u32
                            (IntKind.wrap IntKind.i32
                              (IntKind.wrap IntKind.i64
                                (Int.tdiv
                                  (IntKind.wrap IntKind.i64
                                    (bits BinOp.or IntKind.u64
                                      (IntKind.wrap IntKind.u64 (IntKind.wrap IntKind.u64 a * 4294967296))
                                      (IntKind.wrap IntKind.u64 b)))
                                  (IntKind.wrap IntKind.i64 (IntKind.wrap IntKind.i32 c))))))),
                      Sv.v
                        (Value.int IntKind.u32
                          (IntKind.wrap IntKind.u32
                            (IntKind.wrap IntKind.i32
                              (Int.tmod
                                (IntKind.wrap IntKind.i64
                                  (bits BinOp.or IntKind.u64
                                    (IntKind.wrap IntKind.u64 (IntKind.wrap IntKind.u64 a * 4294967296))
                                    (IntKind.wrap IntKind.u64 b)))
                                (IntKind.wrap IntKind.i64 (IntKind.wrap IntKind.i32 c)))))),
                      Sv.v (Value.bool true)])) := by kernel_rfl
theorem ridiv_nice (a : Int) (b : Int) (c : Int) (hg : (in32 a && (in32 b && (in32 c))) = true) :
    evF Try.prog Γ0 400 34 [.v (.int .u32 a), .v (.int .u32 b), .v (.int .u32 c)] [] (fun x _ => some x) (fun _ _ => none) = some (.tup [.v (.int .u32 (idivQ a b c)), .v (.int .u32 (idivR a b c)), .v (.bool (idivOk a b c))]) := by
  rw [ridiv_form]
  simp only [Bool.and_eq_true, in32_iff] at hg
  obtain ⟨⟨ha, ha'⟩, ⟨hb, hb'⟩, hc, hc'⟩ := hg
  have sc := s32_bd hc hc'
  have hn := idivN_bd ha ha' hb hb'
  have e1 : IntKind.wrap IntKind.i64 (IntKind.wrap IntKind.i32 c) = s32 c := by rw [wr_i32_s hc hc', wr_i64_id (by omega) (by omega)]
  have e3 : IntKind.wrap IntKind.i64 (bits BinOp.or IntKind.u64 (IntKind.wrap IntKind.u64 (IntKind.wrap IntKind.u64 a * 4294967296)) (IntKind.wrap IntKind.u64 b)) = idivN a b := by
    rw [wr_u64_id ha (by omega), wr_u64_id hb (by omega), wr_u64_id (by omega) (by omega), or_halves ha ha' hb hb']
    exact wr_i64_s (by omega) (by omega)
  have e6 : IntKind.bits IntKind.u64 = 64 := rfl
  have e7 : (2 : Int) ^ min (Int.toNat 32) 64 = 4294967296 := rfl
  simp only [e6, e7, e1, e3]
  unfold idivQ idivR idivOk
  by_cases h0 : s32 c = 0
  · simp [h0]
  · have t1 := tdiv_in (d := s32 c) hn.1 hn.2
    have t2 := tmod_in hn.1 hn.2 sc.1 sc.2 h0
    generalize idivN a b = n at *
    generalize s32 c = d at *
    by_cases h1 : n = -9223372036854775808 ∧ d = -1
    · obtain ⟨rfl, rfl⟩ := h1
      simp
    · have t1 := t1 h1
      have h1' : (n == -9223372036854775808 && d == -1) = false := by simpa using h1
      have h0' : (d == 0) = false := by simpa using h0
      have e4 : IntKind.wrap IntKind.i64 (Int.tdiv n d) = Int.tdiv n d := wr_i64_id t1.1 t1.2
      simp only [e4, h1', h0']
      have e8 : ∀ x, IntKind.wrap IntKind.u32 (IntKind.wrap IntKind.i32 x) = x % 4294967296 := fun x => by rw [wr_i32, wr_u32]; omega
      have e9 : decide (Int.tdiv n d < -2147483648) = !decide (-2147483648 ≤ Int.tdiv n d) := by rw [Bool.eq_iff_iff]; simp
      have e10 : decide (Int.tdiv n d > 2147483647) = !decide (Int.tdiv n d < 2147483648) := by rw [Bool.eq_iff_iff]; simp; omega
      simp only [e8, e9, e10]
      clear e8 e9 e10 e4 t1 t2 e3 e1 hn h0' h0
      generalize decide (-2147483648 ≤ Int.tdiv n d) = L
      generalize decide (Int.tdiv n d < 2147483648) = G
      generalize (d == -1) = B at *
      generalize (n == -9223372036854775808) = M at *
      cases B <;> cases M <;> cases L <;> cases G <;> first | rfl | (exact absurd h1' (by simp))
def ridivS : Nice := fun R args kv => match args with
  | [.v (.int .u32 a), .v (.int .u32 b), .v (.int .u32 c)] => bif in32 a && (in32 b && (in32 c)) then kv (.tup [.v (.int .u32 (idivQ a b c)), .v (.int .u32 (idivR a b c)), .v (.bool (idivOk a b c))]) else none
  | _ => none
theorem ridivS_ok : NiceOk Try.prog Γ0 400 34 ridivS := by
  intro R args kv r h
  unfold ridivS at h
  split at h
  · obtain ⟨hg, h⟩ := cond_some h
    exact ⟨_, h, rfl, rfl, ridiv_nice _ _ _ hg⟩
  · cases h
theorem near_form (v : Int) (k : Int) :
    evF Try.prog Γ0 400 23 [.v (.int .u32 v), .v (.int .u8 k)] [] (fun x _ => some x) (fun _ _ => none) =
    (bif Int.tmod (IntKind.wrap IntKind.i64 k) 9 == 0 then some (Sv.v (Value.int IntKind.u32 v))
    else
      bif Int.tmod (IntKind.wrap IntKind.i64 k) 9 == 1 then some (Sv.v (Value.int IntKind.u32 0))
      else
        bif Int.tmod (IntKind.wrap IntKind.i64 k) 9 == 2 then some (Sv.v (Value.int IntKind.u32 1))
        else
          bif Int.tmod (IntKind.wrap IntKind.i64 k) 9 == 3 then some (Sv.v (Value.int IntKind.u32 4294967295))
          else
            bif Int.tmod (IntKind.wrap IntKind.i64 k) 9 == 4 then some (Sv.v (Value.int IntKind.u32 2147483648))
            else
              bif Int.tmod (IntKind.wrap IntKind.i64 k) 9 == 5 then some (Sv.v (Value.int IntKind.u32 2147483647))
              else
                bif Int.tmod (IntKind.wrap IntKind.i64 k) 9 == 6 then some (Sv.v (Value.int IntKind.u32 2))
                else
                  bif Int.tmod (IntKind.wrap IntKind.i64 k) 9 == 7 then
                    some (Sv.v (Value.int IntKind.u32 (bits BinOp.and IntKind.u32 v 15)))
                  else
                    bif Int.tmod (IntKind.wrap IntKind.i64 k) 9 == 8 then
                      some (Sv.v (Value.int IntKind.u32 (IntKind.wrap IntKind.u32 (0 - bits BinOp.and IntKind.u32 v 15))))
                    else none) := by kernel_rfl
theorem near_nice (v : Int) (k : Int) (hg : (in32 v && (in8 k)) = true) :
    evF Try.prog Γ0 400 23 [.v (.int .u32 v), .v (.int .u8 k)] [] (fun x _ => some x) (fun _ _ => none) = some (.v (.int .u32 (nearV v k))) := by
  rw [near_form]
  simp only [Bool.and_eq_true, in32_iff, in8_iff] at hg
  obtain ⟨⟨ha, ha'⟩, hb, hb'⟩ := hg
  have e1 : Int.tmod (IntKind.wrap IntKind.i64 k) 9 = k % 9 := by rw [wr_i64_id (by omega) (by omega), Int.tmod_eq_emod_of_nonneg hb]
  have e2 : bits BinOp.and IntKind.u32 v 15 = v % 16 := and_mask15 ha ha'
  simp only [e1, e2, wr_u32]
  unfold nearV
  have h := Int.emod_nonneg k (show (9 : Int) ≠ 0 by omega)
  have h' := Int.emod_lt_of_pos k (show (0 : Int) < 9 by omega)
  generalize k % 9 = j at *
  have : j = 0 ∨ j = 1 ∨ j = 2 ∨ j = 3 ∨ j = 4 ∨ j = 5 ∨ j = 6 ∨ j = 7 ∨ j = 8 := by omega
  rcases this with rfl | rfl | rfl | rfl | rfl | rfl | rfl | rfl | rfl <;> rfl
def nearS : Nice := fun R args kv => match args with
  | [.v (.int .u32 v), .v (.int .u8 k)] => bif in32 v && (in8 k) then kv (.v (.int .u32 (nearV v k))) else none
  | _ => none
theorem nearS_ok : NiceOk Try.prog Γ0 400 23 nearS := by
  intro R args kv r h
  unfold nearS at h
  split at h
  · obtain ⟨hg, h⟩ := cond_some h
    exact ⟨_, h, rfl, rfl, near_nice _ _ hg⟩
  · cases h
def ΓMul : Env := (((((((((Γ0.add 20 (pureSpec mulS)).add 24 (pureSpec rmulS)).add 25 (pureSpec imulS)).add 26 (pureSpec rimulS)).add 21 (pureSpec divS)).add 32 (pureSpec rdivS)).add 33 (pureSpec idivS)).add 34 (pureSpec ridivS)).add 23 (pureSpec nearS))
theorem ΓMul_ok : EnvOk Try.prog X0 ΓMul := (((((((((Γ0_ok.add (by kernel_rfl) (specOk_of_nice Γ0_ok mulS_ok)).add (by kernel_rfl) (specOk_of_nice Γ0_ok rmulS_ok)).add (by kernel_rfl) (specOk_of_nice Γ0_ok imulS_ok)).add (by kernel_rfl) (specOk_of_nice Γ0_ok rimulS_ok)).add (by kernel_rfl) (specOk_of_nice Γ0_ok divS_ok)).add (by kernel_rfl) (specOk_of_nice Γ0_ok rdivS_ok)).add (by kernel_rfl) (specOk_of_nice Γ0_ok idivS_ok)).add (by kernel_rfl) (specOk_of_nice Γ0_ok ridivS_ok)).add (by kernel_rfl) (specOk_of_nice Γ0_ok nearS_ok))
end Go.Proofs.Ytllfmajphmfehaa
