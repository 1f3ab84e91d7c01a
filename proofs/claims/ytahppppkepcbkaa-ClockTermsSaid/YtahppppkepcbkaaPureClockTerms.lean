/- ClockTerms, over numbers alone: the printed function answers true at every input. -/
import Derived.Test.YtahppppkepcbkaaAw16
import Derived.Test.YtahppppkepcbkaaFnx9
import Derived.Test.YtahppppkepcbkaaSayClockTerms
import Derived.Test.YtahppppkepcbkaaGua
namespace Go.Proofs.Ytahppppkepcbkaa.Pure
open Go.RowKit Go.Proofs.Ytahppppkepcbkaa.Fn Go.Proofs.YtahppppkepcbkaaW.PrintWords Go.Proofs.YtahppppkepcbkaaW.PrintMore Go.Proofs.Ytahppppkepcbkaa.Gua
theorem ClockTerms : tattlelaw04_ClockTerms.Pure := by
  intro t d r b ht hd hr hb
  have haw : tattlelaw04_awakeT.f = some true := rfl
  replace ht := u16_wf ht
  replace hd := u16_wf hd
  replace hr := u16_wf hr
  replace hb := u8_wf hb
  have e1 : wrap64 t = t := w64_id _ (by omega) (by omega)
  have e2 : wrap64 d = d := w64_id _ (by omega) (by omega)
  have e3 : wrap64 r = r := w64_id _ (by omega) (by omega)
  have e4 : wrap64 b = b := w64_id _ (by omega) (by omega)
  have e5 : wrap64 (1 + r) = 1 + r := w64_id _ (by omega) (by omega)
  have e6 : wrap64 (t + b) = t + b := w64_id _ (by omega) (by omega)
  have e7 : wrap64 (d + b) = d + b := w64_id _ (by omega) (by omega)
  have e8 : wrap64 (1 + r + b) = 1 + r + b := w64_id _ (by omega) (by omega)
  have e9 : wrap64 (t + 1) = t + 1 := w64_id _ (by omega) (by omega)
  have T : tok t := ⟨by omega, by omega⟩
  have T2 : tok (t + b) := ⟨by omega, by omega⟩
  have B : bnd d (1 + r) := ⟨by omega, by omega, by omega, by omega⟩
  have B2 : bnd (d + b) (1 + r) := ⟨by omega, by omega, by omega, by omega⟩
  have B3 : bnd d (1 + r + b) := ⟨by omega, by omega, by omega, by omega⟩
  have B4 : bnd 0 (t + 1) := ⟨by omega, by omega, by omega, by omega⟩
  have g1 := gua_le T B (many_term (t' := t + b) (by omega) (gua_spec T2 B).2.1)
  have g2 := gua_le T B2 (many_d (d' := d + b) (by omega) (gua_spec T B).2.1)
  have g3 := gua_le T B (many_r (r' := 1 + r + b) (by omega) (by omega) (gua_spec T B3).2.1)
  have g4 := gua_zero T (by omega)
  unfold tattlelaw04_ClockTerms.f
  rw [e1, e2, e3, e4, e5, e6, e7, e8, e9]
  simp only [guard_eq, Option.bind_some]
  simp only [if_pos (show tok t ∧ bnd d (1 + r) from ⟨T, B⟩), if_pos (show tok (t + b) ∧ bnd d (1 + r) from ⟨T2, B⟩), if_pos (show tok t ∧ bnd (d + b) (1 + r) from ⟨T, B2⟩), if_pos (show tok t ∧ bnd d (1 + r + b) from ⟨T, B3⟩), if_pos (show tok t ∧ bnd 0 (t + 1) from ⟨T, B4⟩)]
  rw [if_pos trivial, if_pos trivial, if_pos trivial, if_pos trivial, if_pos trivial, if_pos (by omega), if_pos (by omega), if_pos (by omega), if_pos g4, haw]
  rfl
end Go.Proofs.Ytahppppkepcbkaa.Pure
