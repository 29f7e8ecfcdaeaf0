/- A part of the proof that the law PiecesRefines answers true at every input and leaves its arguments as they were. -/
import Derived.Test.YtnkaneggnjallaaGreatDoorProg
import Derived.Test.YtnkaneggnjallaaGreatDoorA7
import Derived.Test.YtnkaneggnjallaaGreatDoorQ2
set_option linter.unusedVariables false
set_option linter.unusedSimpArgs false
open Go.Proofs.Tryz renaming zeroValue203 → vv203, runUnderlying203 → uu203, sizeOf4 → zz4, sizeOf53 → zz53, runUnderlying55 → uu55, isAgg53 → aa53, isAgg4 → aa4, sizeOf203 → zz203
namespace Go.Sx
open Go Go.RowKit Go.Proofs
set_option maxRecDepth 100000
set_option maxHeartbeats 40000000
attribute [local irreducible] ao bU aj az bE aP aE aA dG cj aQ
theorem qU : BuildF Tryz.prog 203 [.bool false, .string ⟨#[]⟩, .bool false, .string ⟨#[]⟩, .bool false, .string ⟨#[]⟩, .bool false, .string ⟨#[]⟩, .bool false, .bool false] [(0, 9), (9, 1)] := BuildF.of vv203 rfl uu203 (by intro w; simp [zz4, zz53])
def aF (i : Iv) : Bd :=
 (⟨i.lo, i.openLo⟩ : Bd)
theorem fQ (i : Iv) (zi : SzV 30 i) (w0 : World)  : Calls Tryz.prog 136 #[(vV i)] w0 (eE w0 (vW (aF i)) (SzW 30 (aF i))) := by
 refine enter (N := 8) (args := [(vV i)]) Tryz.func136 rfl rfl ?_; intro ac h
 refine d8 fun K1 hK1 => ?_
 refine bx h (cV i) rfl rfl rfl fun b1 => ga (cW (⟨(⟨oQ, oQ, false⟩ : GR), false⟩ : Bd)) vv203 rfl rfl fun b2 => gn hK1 <| gr fun K2 hK2 => g0 (fa uu55 rfl zz53 rfl rfl rfl (k' := 0)) rfl <| g1 1 rfl (aS aa53 zz53 rfl rfl rfl (v := (vR i.lo)) rfl) rfl <| g0 (fa uu55 rfl zz4 rfl rfl rfl (k' := 18)) rfl <| g1 1 rfl (aS aa4 zz4 rfl rfl rfl (v := (.bool i.openLo)) rfl) rfl <| g0 (bG qU rfl rfl (v := (vW (⟨i.lo, i.openLo⟩ : Bd))) rfl) rfl <| gs 0 (cW (⟨i.lo, i.openLo⟩ : Bd)) rfl zz203 rfl rfl rfl rfl rfl rfl rfl <| gn hK2 <| gT ?_; clear h ac; intro ac wo h
 exact ret h rfl (.cell (v := (vW (⟨i.lo, i.openLo⟩ : Bd))) rfl (i := 0) rfl Tryz.isAgg203 zz203 rfl rfl rfl .nil) rfl (h.retP (by unfold aF; rfl) (by unfold aF; exact zi.1))
attribute [irreducible] aF
def aH (i : Iv) : Bd :=
 (⟨i.hi, (!i.openHi)⟩ : Bd)
theorem gj (i : Iv) (zi : SzV 30 i) (w0 : World)  : Calls Tryz.prog 135 #[(vV i)] w0 (eE w0 (vW (aH i)) (SzW 30 (aH i))) := by
 refine enter (N := 9) (args := [(vV i)]) Tryz.func135 rfl rfl ?_; intro ac h
 refine d8 fun K1 hK1 => ?_
 refine bx h (cV i) rfl rfl rfl fun b1 => ga (cW (⟨(⟨oQ, oQ, false⟩ : GR), false⟩ : Bd)) vv203 rfl rfl fun b2 => gn hK1 <| gr fun K2 hK2 => g0 (fa uu55 rfl zz53 rfl rfl rfl (k' := 9)) rfl <| g1 1 rfl (aS aa53 zz53 rfl rfl rfl (v := (vR i.hi)) rfl) rfl <| g0 (fa uu55 rfl zz4 rfl rfl rfl (k' := 19)) rfl <| g1 1 rfl (aS aa4 zz4 rfl rfl rfl (v := (.bool i.openHi)) rfl) rfl <| g0 (dV rfl) rfl <| g0 (bG qU rfl rfl (v := (vW (⟨i.hi, (!i.openHi)⟩ : Bd))) rfl) rfl <| gs 0 (cW (⟨i.hi, (!i.openHi)⟩ : Bd)) rfl zz203 rfl rfl rfl rfl rfl rfl rfl <| gn hK2 <| gT ?_; clear h ac; intro ac wo h
 exact ret h rfl (.cell (v := (vW (⟨i.hi, (!i.openHi)⟩ : Bd))) rfl (i := 0) rfl Tryz.isAgg203 zz203 rfl rfl rfl .nil) rfl (h.retP (by unfold aH; rfl) (by unfold aH; exact zi.2))
attribute [irreducible] aH
def cK (a : Bd) (b : Bd) : Int :=
 bif ((ao a.at_ b.at_) != 0) then
  (ao a.at_ b.at_)
 else
  bif (a.behind == b.behind) then
   0
  else
   bif b.behind then
    (-1)
   else
    1
theorem gf (a : Bd) (b : Bd) (za : SzW 30 a) (zb : SzW 30 b) (w0 : World)  : Calls Tryz.prog 134 #[(vW a), (vW b)] w0 (eE w0 (.int .i64 (cK a b)) ((-1 ≤ (cK a b) ∧ (cK a b) ≤ 1))) := by
 refine enter (N := 23) (args := [(vW a), (vW b)]) Tryz.func134 rfl rfl ?_; intro ac h
 have p2 := ax ((aL a.at_ b.at_ 10 (by omega) za zb) w0)
 refine d8 fun K1 hK1 => ?_
 refine bx h (cW a) rfl rfl rfl fun b1 => gb (cW b) rfl rfl rfl fun b2 => g0 (ae rfl) rfl <| gn hK1 <| gq fun K2 hK2 => gr fun K3 hK3 => g0 (fa uu203 rfl zz53 rfl rfl rfl (k' := 0)) rfl <| g1 1 rfl (aS aa53 zz53 rfl rfl rfl (v := (vR a.at_)) rfl) rfl <| g0 (fa uu203 rfl zz53 rfl rfl rfl (k' := 0)) rfl <| g1 0 rfl (aS aa53 zz53 rfl rfl rfl (v := (vR b.at_)) rfl) rfl <| gc (c8 Tryz.call115 rfl) (kk (aL a.at_ b.at_ 10 (by omega) za zb)) rfl <| g0 (ae rfl) rfl <| gn hK3 <| gr fun K4 hK4 => g0 (af rfl) rfl <| g0 (kJ rfl rfl) rfl <| gn hK4 ?_; clear h ac; intro ac wo h
 refine dg h rfl (fun hc1 => ?_) (fun hc1 => ?_)
 ·
  have hq1 := hc1; try simp at hq1
  refine gz h <| gr fun K5 hK5 => g0 (af rfl) rfl <| g0 (ae rfl) rfl <| gn hK5 <| gT ?_; clear h ac wo; intro ac wo h
  have hd : cK a b = (ao a.at_ b.at_) := (cT hc1)
  exact ret h rfl (.tmp rfl .nil) rfl (h.retP (by rw [hd] <;> rfl) (by rw [hd]; exact (by first | omega | assumption | grind)))
 ·
  have hq1 := hc1; try simp at hq1
  refine gz h <| gS <| gx hK2 <| gq fun K6 hK6 => gB <| gr fun K7 hK7 => g0 (fa uu203 rfl zz4 rfl rfl rfl (k' := 9)) rfl <| g1 1 rfl (aS aa4 zz4 rfl rfl rfl (v := (.bool a.behind)) rfl) rfl <| g0 (fa uu203 rfl zz4 rfl rfl rfl (k' := 9)) rfl <| g1 0 rfl (aS aa4 zz4 rfl rfl rfl (v := (.bool b.behind)) rfl) rfl <| g0 (r_eqlB Tryz.underlying4 rfl rfl) rfl <| g0 (ae rfl) rfl <| gn hK7 ?_; clear h ac wo; intro ac wo h
  replace h := h.sub (F' := [(3, (ptr b2 0)), (14, (.bool (a.behind == b.behind)))]) ⟨rfl, rfl, trivial⟩
  refine dg h rfl (fun hc2 => ?_) (fun hc2 => ?_)
  ·
   have hd2 := eq_of_beq hc2
   refine gz h <| gr fun K8 hK8 => g0 (ae rfl) rfl <| gn hK8 <| gT ?_; clear h ac wo; intro ac wo h
   have hd : cK a b = 0 := (Eq.trans (cF hc1) (cT hc2))
   exact ret h rfl (.tmp rfl .nil) rfl (h.retP (by rw [hd] <;> rfl) (by rw [hd]; exact (by first | omega | assumption | grind)))
  ·
   have hd2 := ne_of_beq_false hc2
   refine gz h <| gr fun K9 hK9 => g0 (fa uu203 rfl zz4 rfl rfl rfl (k' := 9)) rfl <| g1 0 rfl (aS aa4 zz4 rfl rfl rfl (v := (.bool b.behind)) rfl) rfl <| g0 (ae rfl) rfl <| gn hK9 ?_; clear h ac wo; intro ac wo h
   refine dg h rfl (fun hc3 => ?_) (fun hc3 => ?_)
   ·
    have hq3 := hc3; try simp at hq3
    refine gz h <| gr fun K10 hK10 => g0 (ae rfl) rfl <| gn hK10 <| gT ?_; clear h ac wo; intro ac wo h
    have hd : cK a b = (-1) := (Eq.trans (cF hc1) (Eq.trans (cF hc2) (cT hc3)))
    exact ret h rfl (.tmp rfl .nil) rfl (h.retP (by rw [hd] <;> rfl) (by rw [hd]; exact (by first | omega | assumption | grind)))
   ·
    have hq3 := hc3; try simp at hq3
    refine gz h <| gS <| gN <| gx hK6 <| gr fun K11 hK11 => g0 (ae rfl) rfl <| gn hK11 <| gT ?_; clear h ac wo; intro ac wo h
    have hd : cK a b = 1 := (Eq.trans (cF hc1) (Eq.trans (cF hc2) (cF hc3)))
    exact ret h rfl (.tmp rfl .nil) rfl (h.retP (by rw [hd] <;> rfl) (by rw [hd]; exact (by first | omega | assumption | grind)))
attribute [irreducible] cK
end Go.Sx
