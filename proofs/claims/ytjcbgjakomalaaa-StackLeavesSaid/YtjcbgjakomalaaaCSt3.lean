/- Contracts: states of numbers. -/
import Derived.Test.YtjcbgjakomalaaaEvV
import Derived.Test.YtjcbgjakomalaaaCSt2
namespace Go.Proofs.Ytjcbgjakomalaaa
open Go Go.Ev
set_option linter.unusedVariables false
set_option linter.unusedSimpArgs false
set_option maxRecDepth 100000
theorem state_form (r_0 : Int) (r_1 : Int) (r_2 : Int) (r_3 : Int) (r_4 : Int) (r_5 : Int) (r_6 : Int) (r_7 : Int) (x_0 : Int) (x_1 : Int) (x_2 : Int) (x_3 : Int) (x_4 : Int) (x_5 : Int) (x_6 : Int) (x_7 : Int) (f : Int) (n : Int) :
    evF Try.prog ΓSth 400 42 [.agg [.v (.int .u32 r_0), .v (.int .u32 r_1), .v (.int .u32 r_2), .v (.int .u32 r_3), .v (.int .u32 r_4), .v (.int .u32 r_5), .v (.int .u32 r_6), .v (.int .u32 r_7)], .agg [.v (.int .u64 x_0), .v (.int .u64 x_1), .v (.int .u64 x_2), .v (.int .u64 x_3), .v (.int .u64 x_4), .v (.int .u64 x_5), .v (.int .u64 x_6), .v (.int .u64 x_7)], .v (.int .u8 f), .v (.int .u8 n)] [] (fun x _ => some x) (fun _ _ => none) =
    (bif in8 f then
    bif
    true &&
    (in32 r_0 &&
    (in32 r_1 &&
    (in32 r_2 &&
    (in32 r_3 &&
    (in32 r_4 &&
    (in32 r_5 &&
    (in32 r_6 &&
    (in32 r_7 &&
    (in64 x_0 &&
    (in64 x_1 && (in64 x_2 && (in64 x_3 && (in64 x_4 && (in64 x_5 && (in64 x_6 && (in64 x_7 && true)))))))))))))))) then
    some
    (Sv.agg
    [vw ((stRV (stBit n 1) r_0)), vw ((stRV (stBit n 2) r_1)),
    vw ((stRV (stBit n 4) r_2)), vw ((stRV (stBit n 8) r_3)),
    vw ((stRV (stBit n 16) r_4)), vw ((stRV (stBit n 32) r_5)),
    vw ((stRV (stBit n 64) r_6)), vw ((stRV (stBit n 128) r_7)),
    vw 0, vb ((flagW f 1)), vb ((flagW f 4)),
    vb ((flagW f 64)), vb ((flagW f 128)), vb ((flagW f 2048)),
    vb ((flagW f 1024)), vd ((dblW x_0)), vd ((dblW x_1)),
    vd ((dblW x_2)), vd ((dblW x_3)),
    vd ((dblW x_4)), vd ((dblW x_5)),
    vd ((dblW x_6)), vd ((dblW x_7))])
    else none
    else none) := by kernel_rfl
theorem state_nice (r_0 : Int) (r_1 : Int) (r_2 : Int) (r_3 : Int) (r_4 : Int) (r_5 : Int) (r_6 : Int) (r_7 : Int) (x_0 : Int) (x_1 : Int) (x_2 : Int) (x_3 : Int) (x_4 : Int) (x_5 : Int) (x_6 : Int) (x_7 : Int) (f : Int) (n : Int) (hg : (in32 r_0 && (in32 r_1 && (in32 r_2 && (in32 r_3 && (in32 r_4 && (in32 r_5 && (in32 r_6 && (in32 r_7 && (in64 x_0 && (in64 x_1 && (in64 x_2 && (in64 x_3 && (in64 x_4 && (in64 x_5 && (in64 x_6 && (in64 x_7 && (in8 f && (in8 n)))))))))))))))))) = true) :
    evF Try.prog ΓSth 400 42 [.agg [.v (.int .u32 r_0), .v (.int .u32 r_1), .v (.int .u32 r_2), .v (.int .u32 r_3), .v (.int .u32 r_4), .v (.int .u32 r_5), .v (.int .u32 r_6), .v (.int .u32 r_7)], .agg [.v (.int .u64 x_0), .v (.int .u64 x_1), .v (.int .u64 x_2), .v (.int .u64 x_3), .v (.int .u64 x_4), .v (.int .u64 x_5), .v (.int .u64 x_6), .v (.int .u64 x_7)], .v (.int .u8 f), .v (.int .u8 n)] [] (fun x _ => some x) (fun _ _ => none) = some (.agg [.v (.int .u32 (stRV (stBit n 1) r_0)), .v (.int .u32 (stRV (stBit n 2) r_1)), .v (.int .u32 (stRV (stBit n 4) r_2)), .v (.int .u32 (stRV (stBit n 8) r_3)), .v (.int .u32 (stRV (stBit n 16) r_4)), .v (.int .u32 (stRV (stBit n 32) r_5)), .v (.int .u32 (stRV (stBit n 64) r_6)), .v (.int .u32 (stRV (stBit n 128) r_7)), .v (.int .u32 0), .v (.bool (flagW f 1)), .v (.bool (flagW f 4)), .v (.bool (flagW f 64)), .v (.bool (flagW f 128)), .v (.bool (flagW f 2048)), .v (.bool (flagW f 1024)), .v (.int .u64 (dblW x_0)), .v (.int .u64 (dblW x_1)), .v (.int .u64 (dblW x_2)), .v (.int .u64 (dblW x_3)), .v (.int .u64 (dblW x_4)), .v (.int .u64 (dblW x_5)), .v (.int .u64 (dblW x_6)), .v (.int .u64 (dblW x_7))]) := by
  rw [state_form]
  try simp only [bitsL_eq]
  simp only [Bool.and_eq_true] at hg
  obtain ⟨g0, g1, g2, g3, g4, g5, g6, g7, g8, g9, g10, g11, g12, g13, g14, g15, g16, g17⟩ := hg
  simp only [g0, g1, g2, g3, g4, g5, g6, g7, g8, g9, g10, g11, g12, g13, g14, g15, g16, g17, Bool.and_self, cond_true]
def stateS : Nice := fun R args kv => match args with
  | [.agg [.v (.int .u32 r_0), .v (.int .u32 r_1), .v (.int .u32 r_2), .v (.int .u32 r_3), .v (.int .u32 r_4), .v (.int .u32 r_5), .v (.int .u32 r_6), .v (.int .u32 r_7)], .agg [.v (.int .u64 x_0), .v (.int .u64 x_1), .v (.int .u64 x_2), .v (.int .u64 x_3), .v (.int .u64 x_4), .v (.int .u64 x_5), .v (.int .u64 x_6), .v (.int .u64 x_7)], .v (.int .u8 f), .v (.int .u8 n)] => bif in32 r_0 && (in32 r_1 && (in32 r_2 && (in32 r_3 && (in32 r_4 && (in32 r_5 && (in32 r_6 && (in32 r_7 && (in64 x_0 && (in64 x_1 && (in64 x_2 && (in64 x_3 && (in64 x_4 && (in64 x_5 && (in64 x_6 && (in64 x_7 && (in8 f && (in8 n))))))))))))))))) then kv (.agg [.v (.int .u32 (stRV (stBit n 1) r_0)), .v (.int .u32 (stRV (stBit n 2) r_1)), .v (.int .u32 (stRV (stBit n 4) r_2)), .v (.int .u32 (stRV (stBit n 8) r_3)), .v (.int .u32 (stRV (stBit n 16) r_4)), .v (.int .u32 (stRV (stBit n 32) r_5)), .v (.int .u32 (stRV (stBit n 64) r_6)), .v (.int .u32 (stRV (stBit n 128) r_7)), .v (.int .u32 0), .v (.bool (flagW f 1)), .v (.bool (flagW f 4)), .v (.bool (flagW f 64)), .v (.bool (flagW f 128)), .v (.bool (flagW f 2048)), .v (.bool (flagW f 1024)), .v (.int .u64 (dblW x_0)), .v (.int .u64 (dblW x_1)), .v (.int .u64 (dblW x_2)), .v (.int .u64 (dblW x_3)), .v (.int .u64 (dblW x_4)), .v (.int .u64 (dblW x_5)), .v (.int .u64 (dblW x_6)), .v (.int .u64 (dblW x_7))]) else none
  | _ => none
theorem stateS_ok : NiceOk Try.prog ΓSth 400 42 stateS := by
  intro R args kv r h
  unfold stateS at h
  split at h
  · obtain ⟨hg, h⟩ := cond_some h
    exact ⟨_, h, rfl, rfl, state_nice _ _ _ _ _ _ _ _ _ _ _ _ _ _ _ _ _ _ hg⟩
  · cases h
noncomputable def ΓSt3 : Env := (ΓSth.add 42 (pureSpec stateS))
theorem ΓSt3_ok : EnvOk Try.prog X0 ΓSt3 := (ΓSth_ok.add (by kernel_rfl) (specOk_of_nice ΓSth_ok stateS_ok))
end Go.Proofs.Ytjcbgjakomalaaa
