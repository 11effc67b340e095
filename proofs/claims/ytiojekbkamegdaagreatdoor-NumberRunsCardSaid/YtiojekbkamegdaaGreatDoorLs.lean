/- The numbered program and the program from the beginning. Plain law. No conditions. -/
import Derived.Test.YtiojekbkamegdaaGreatDoorLr
set_option linter.unusedVariables false
set_option linter.unusedSimpArgs false
set_option linter.unusedSectionVars false
namespace Go.Proofs.YtiojekbkamegdaaGreatDoor
theorem fill_get {α β : Type} {g : Nat → α → β} {d : β} {n : Nat} {l : List α} {v : Nat} (hl : l.length ≤ v) (hv : v < n) : (fillW g d n l)[v]? = some d := by
 unfold fillW
 rw [List.getElem?_append_right (by simpa using hl), List.getElem?_replicate, if_pos (by simp; omega)]
theorem sim_begin {f : PFunc} {r : Int → Int} {rk : Nat → Nat → Nat} (hR : NumR f r rk) {i : PIn} (hp : f.params.length ≤ f.vars.length) (ht : ∀ j, 0 ≤ tyL f j ∧ tyL f j ≤ 2) (hi : rightG f i = 0) (h64 : in64 i) : Sim f r (begG f i) (begG f i) := by
 obtain ⟨g1, ha⟩ := GInv.beg hR.run hp ht hi h64
 obtain ⟨g2, _⟩ := GInv.beg (f := numF f r) hR.rung hp ht hi h64
 have hal : i.args.length = f.params.length := by
  unfold rightG at hi
  split at hi
  ·cases hi
  ·rename_i h; exact Classical.not_not.1 h
 have hG := hR.hE.grph
 have no : ∀ {m : Plc}, 0 ≤ m.1 → 0 ≤ m.2 → ¬ AheadP f m 0 0 := fun {m} h0 h1 h => by
  rcases h with h | ⟨_, h⟩ | ⟨_, h, h3⟩
  ·omega
  ·omega
  ·exact h (dom_anti hG h3 (.root h3.rch))
 refine ⟨g1, g2, ⟨Z, Z, Z, Z, Z, Z, Z, Z⟩, Z, Nat.le_refl _, fun _ _ _ _ => Z, fun j k z hz => ?_, fun j k z hz hh => ?_, fun v h0 h1 hv => ?_⟩
 ·obtain ⟨b, b1, b2⟩ := hz.1
  obtain ⟨d0, d1⟩ := hR.hF.hD _ _ _ hz
  have hm := hR.hO.inst j k b z b1 b2 d0
  have hone := hR.hs.2.2.1 z.dst.toNat (by omega)
  rw [w8 d0] at hone
  have hne : makings f z.dst ≠ [] := fun e => by unfold makerT at hm; rw [e] at hm; simp at hm
  have hpl := hone.2 hne
  have e1 : vi (begG f i).ints z.dst = 0 := by unfold vi begG; dsimp only; rw [fill_get (by omega) (by omega)]; rfl
  have e2 : gb (begG f i).bools z.dst = false := by unfold gb begG; dsimp only; rw [fill_get (by omega) (by omega)]; rfl
  have e3 : vi (begG f i).arrs z.dst = -1 := by unfold vi begG; dsimp only; rw [fill_get (by omega) (by omega)]; rfl
  exact ⟨fun _ => e1, fun _ => e2, fun _ => e3⟩
 ·exact absurd hh (no (by dsimp only; omega) (by dsimp only; omega))
 ·have hv : AheadP f (makerT f v) 0 0 := hv
  have : r v = v := by
   refine hR.hr.id v fun j k x hx e => ?_
   obtain ⟨b, b1, b2⟩ := hx.1
   rw [← e, hR.hO.inst j k b x b1 b2 (hR.hF.hD _ _ _ hx).1] at hv
   exact no (by dsimp only; omega) (by dsimp only; omega) hv
  rw [this]
theorem num_runs {f : PFunc} {r : Int → Int} {rk : Nat → Nat → Nat} (hR : NumR f r rk) {s : GS} (hs : Sim f r s s) (he : s.ended = false) (h3 : s.en = 3) {I : Nat} (hI : ∀ b ∈ f.blocks, b.insts.length ≤ I) (n : Nat) :
  ((runG f n s).en ≠ 3 → SameO (runG f n s) (runG (numF f r) n s) ∧ (runG (numF f r) n s).st ≤ (runG f n s).st ∧ SameO (runG f n s) (runG (numF f r) (n + 1) s)) ∧
  ((runG (numF f r) n s).en ≠ 3 → SameO (runG f ((1 + I) * (n + 1)) s) (runG (numF f r) n s)) := by
 refine ⟨fun h=>?_, fun h=>?_⟩
 ·have hen := run_en (f := f) n s h3 h
  obtain ⟨m, hm, h1, h2⟩ := run_fwd hR n s s hs he hen
  have hme : (runG (numF f r) m s).ended = true := by rw [← h1.ended]; exact hen
  rw [run_more hme hm, run_more hme (show m ≤ n + 1 by omega)]
  exact ⟨h1, h2, h1⟩
 ·have hen := run_en (f := numF f r) n s h3 h
  obtain ⟨m, hm, h1, h2⟩ := run_bwd hR hI n s s hs he hen
  rw [run_more h2 (Nat.le_trans hm (by rw [Nat.mul_comm, Nat.add_comm]; exact Nat.mul_le_mul_left _ (Nat.le_succ n)))]
  exact h1
theorem SameO.alike {s t : GS} (h : SameO s t) : alikeG s t = true := by unfold alikeG; exact w4 ⟨h.en, h.val, h.tr, h.trace⟩
end Go.Proofs.YtiojekbkamegdaaGreatDoor
