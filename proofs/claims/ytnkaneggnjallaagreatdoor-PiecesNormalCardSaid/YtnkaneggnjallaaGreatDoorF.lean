/- A part of the proof that the law PiecesNormal answers true at every input and leaves its arguments as they were. -/
import Derived.Test.YtnkaneggnjallaaGreatDoorN2
set_option linter.unusedVariables false
set_option linter.unusedSimpArgs false
open Go.Proofs.Tryz renaming runUnderlying73 → uu73
namespace Go.Sx
open Go Go.RowKit Go.Proofs
set_option maxRecDepth 100000
set_option maxHeartbeats 40000000
attribute [local irreducible] aE bU am aJ bJ aS aH aF cO bA ax
def cq (l : List Stp) (by_ : Nat) : Bool :=
 bif (!en) then
  false
 else
  bif ((((ae (af (ah l) by_)).2) != 0) || (!(aI ((ae (af (ah l) by_)).1) (aQ (ah l))))) then
   false
  else
   ((((((ae ((ae (af (ah l) by_)).1)).2) == 0) && (aI ((ae ((ae (af (ah l) by_)).1)).1) ((ae (af (ah l) by_)).1))) && ((a6 ((ae (af (ah l) by_)).1)) == 0)) && (cE ((ae ((ae (af (ah l) by_)).1)).1) ((ae (af (ah l) by_)).1)))
theorem gf (l : List Stp) (lv : Value) (by_ : Nat) (hb : by_ < 256) (w0 : World) (hlv : View w0 lv l) : Calls Tryz.prog 6 #[lv, (.int .u8 ((by_ : Nat) : Int))] w0 (dU w0 (.bool (cq l by_)) (True)) := by
 refine enter (N := 66) (args := [lv, (.int .u8 ((by_ : Nat) : Int))]) Tryz.func6 rfl rfl ?_; intro ac h
 have hlenl := hlv.len
 refine dH fun K1 hK1 => ?_
 refine rd0 h (ag rfl) rfl <| gn hK1 <| gq fun K2 hK2 => gr fun K3 hK3 => gc (bX Tryz.call14 rfl) (kk (i6)) rfl <| g0 (eA rfl) rfl <| gn hK3 ?_; clear h ac; intro ac wo h
 refine cB h rfl (fun hc1 => ?_) (fun hc1 => ?_)
 ·
  have hq1 := hc1; try simp at hq1
  refine gz h <| gr fun K4 hK4 => g0 (ag rfl) rfl <| gn hK4 <| gT ?_; clear h ac wo; intro ac wo h
  have hd : cq l by_ = false := (cT hc1)
  exact ret h rfl (.tmp rfl .nil) rfl (h.retP (by rw [hd] <;> rfl) trivial)
 ·
  have hq1 := hc1; try simp at hq1
  refine gz h <| gS <| gx hK2 <| gr fun K5 hK5 => g0 (aj rfl) rfl ?_; clear h ac wo; intro ac wo h
  have s1 := RetR.pr ((fun w_ hB_ hS_ => fQ l lv w_ (hlv.below hB_)) _ h.bel h.sep)
  have p2 := s1.2
  refine nb (xs := (ah l)) h (bX Tryz.call15 rfl) (fun w_ hB_ hS_ => fQ l lv w_ (hlv.below hB_)) rfl ?_; clear h ac wo; intro sv3 ac wo _ h
  refine rd0 h (ag rfl) rfl <| gn hK5 <| gr fun K6 hK6 => g0 (br ms rfl rfl (v := .agg #[]) rfl) rfl <| g0 (iI uu73 rfl rfl (v := (.agg #[]))) rfl <| g0 (aj rfl) rfl <| g0 (aj rfl) rfl ?_; clear h ac wo; intro ac wo h
  have s4 := RetR.pr ((fun w_ hB_ hS_ => eP (ah l) sv3 by_ (by first | omega | assumption | grind) (by first | omega | assumption | grind) s1.1 w_ (row_view hS_ 0 rfl)) _ h.bel h.sep)
  have p5 := s4.2
  refine nb (xs := (af (ah l) by_)) h (bX Tryz.call40 rfl) (fun w_ hB_ hS_ => eP (ah l) sv3 by_ (by first | omega | assumption | grind) (by first | omega | assumption | grind) s1.1 w_ (row_view hS_ 0 rfl)) rfl ?_; clear h ac wo; intro sv6 ac wo _ h
  have s7 := RetT.pr ((fun w_ hB_ hS_ => cz (af (ah l) by_) sv6 (by first | omega | assumption | grind) s4.1 w_ (row_view hS_ 0 rfl)) _ h.bel h.sep)
  have p8 := s7.2
  refine c_tup (xs := (ae (af (ah l) by_)).1) h (bX Tryz.call39 rfl) (fun w_ hB_ hS_ => cz (af (ah l) by_) sv6 (by first | omega | assumption | grind) s4.1 w_ (row_view hS_ 0 rfl)) rfl ?_; clear h ac wo; intro sv9 ac wo _ h
  refine rd0 h (aj rfl) rfl <| g0 (bc rfl rfl) rfl <| g0 (bc rfl rfl) rfl <| g0 (ag rfl) rfl <| g0 (ag rfl) rfl <| gn hK6 ?_; clear h ac wo; intro ac wo h
  replace h := h.sub (F' := [(5, sv3), (6, sv9), (7, (.int .i64 ((ae (af (ah l) by_)).2)))]) ⟨rfl, rfl, rfl, trivial⟩
  refine dc fun K7 hK7 => ?_
  refine dH fun K8 hK8 => ?_
  have hE : (ae (af (ah l) by_)).2 = 0 := by rw [fO]
  refine rd0 h (aj rfl) rfl <| g0 (fZ rfl rfl) rfl <| g0 (aj rfl) rfl ?_; clear h ac wo; intro ac wo h
  refine gK (j := 2) (c := true) (b := (((ae (af (ah l) by_)).2) != 0)) (g := (!(((ae (af (ah l) by_)).2) != 0))) h rfl rfl g_f (by rw [hE]; rfl) ?_
  refine rd0 h (br ms rfl rfl (v := .agg #[]) rfl) rfl ?_; clear h ac wo; intro ac wo h
  refine gK (j := 2) (c := true) (b := (((ae (af (ah l) by_)).2) != 0)) (g := (!(((ae (af (ah l) by_)).2) != 0))) h rfl rfl g_f (by rw [hE]; rfl) ?_
  refine rd0 h (iI uu73 rfl rfl (v := (.agg #[]))) rfl ?_; clear h ac wo; intro ac wo h
  refine gK (j := 2) (c := true) (b := (((ae (af (ah l) by_)).2) != 0)) (g := (!(((ae (af (ah l) by_)).2) != 0))) h rfl rfl g_f (by rw [hE]; rfl) ?_
  refine rd0 h (aj rfl) rfl ?_; clear h ac wo; intro ac wo h
  refine gK (j := 2) (c := true) (b := (((ae (af (ah l) by_)).2) != 0)) (g := (!(((ae (af (ah l) by_)).2) != 0))) h rfl rfl g_f (by rw [hE]; rfl) ?_
  refine rd0 h (br ms rfl rfl (v := .agg #[]) rfl) rfl ?_; clear h ac wo; intro ac wo h
  refine gK (j := 2) (c := true) (b := (((ae (af (ah l) by_)).2) != 0)) (g := (!(((ae (af (ah l) by_)).2) != 0))) h rfl rfl g_f (by rw [hE]; rfl) ?_
  refine rd0 h (iI uu73 rfl rfl (v := (.agg #[]))) rfl ?_; clear h ac wo; intro ac wo h
  refine gK (j := 2) (c := true) (b := (((ae (af (ah l) by_)).2) != 0)) (g := (!(((ae (af (ah l) by_)).2) != 0))) h rfl rfl g_f (by rw [hE]; rfl) ?_
  refine rd0 h (aj rfl) rfl ?_; clear h ac wo; intro ac wo h
  refine gK (j := 2) (c := true) (b := (((ae (af (ah l) by_)).2) != 0)) (g := (!(((ae (af (ah l) by_)).2) != 0))) h rfl rfl g_f (by rw [hE]; rfl) ?_
  have s10 := RetR.pr ((fun w_ hB_ hS_ => eQ (ah l) sv3 (by first | omega | assumption | grind) s1.1 w_ (row_view hS_ 2 rfl)) _ h.bel h.sep)
  have p11 := s10.2
  refine nb (xs := (aQ (ah l))) h (bX Tryz.call42 rfl) (fun w_ hB_ hS_ => eQ (ah l) sv3 (by first | omega | assumption | grind) s1.1 w_ (row_view hS_ 2 rfl)) rfl ?_; clear h ac wo; intro sv12 ac wo _ h
  refine gK (j := 2) (c := true) (b := (((ae (af (ah l) by_)).2) != 0)) (g := (!(((ae (af (ah l) by_)).2) != 0))) h rfl rfl g_f (by rw [hE]; rfl) ?_
  refine lm h (bX Tryz.call41 rfl) (fun w_ hB_ hS_ => fe ((ae (af (ah l) by_)).1) sv9 (aQ (ah l)) sv12 s7.1 s10.1 w_ (row_view hS_ 1 rfl) (row_view hS_ 0 rfl)) rfl ?_; clear h ac wo; intro ac wo h
  refine gK (j := 2) (c := true) (b := (((ae (af (ah l) by_)).2) != 0)) (g := (!(((ae (af (ah l) by_)).2) != 0))) h rfl rfl g_f (by rw [hE]; rfl) ?_
  refine rd0 h (eA rfl) rfl <| g0 (nl rfl (fun e => rfl)) rfl <| gn hK8 ?_; clear h ac wo; intro ac wo h
  refine cB h rfl (fun hc2 => ?_) (fun hc2 => ?_)
  ·
   have hq2 := hc2; try simp at hq2
   refine gz h <| gr fun K9 hK9 => g0 (ag rfl) rfl <| gn hK9 ?_; clear h ac wo; intro ac wo h
   replace h := h.sub (F' := [(4, (.bool false))]) ⟨rfl, trivial⟩
   refine fc ?_
   have hd : cq l by_ = false := (Eq.trans (cF hc1) (cT hc2))
   exact ret h rfl (.tmp rfl .nil) rfl (h.retP (by rw [hd] <;> rfl) trivial)
  ·
   have hq2 := hc2; try simp at hq2
   refine dB ?_
   refine hK7 _ _ ?_
   refine dH fun K10 hK10 => ?_
   have hnz : All (gA 30) (ae (af (ah l) by_)).1 := by rw [fO]; exact bn_sz l
   have hnl : (ae (af (ah l) by_)).1.length < 20 := by rw [fO]; have hq := bn_len l; dsimp only; omega
   have hnv : ∀ j, RtV (gt (ae (af (ah l) by_)).1 j).iv := by rw [fO]; exact nf_rt (pk l).1.wv
   refine rd0 h (br ms rfl rfl (v := .agg #[]) rfl) rfl <| g0 (iI uu73 rfl rfl (v := (.agg #[]))) rfl <| g0 (aj rfl) rfl ?_; clear h ac wo; intro ac wo h
   have s13 := RetT.pr ((fun w_ hB_ hS_ => cz ((ae (af (ah l) by_)).1) sv9 (by first | omega | assumption | grind) hnz w_ (row_view hS_ 1 rfl)) _ h.bel h.sep)
   have p14 := s13.2
   refine c_tup (xs := (ae ((ae (af (ah l) by_)).1)).1) h (bX Tryz.call39 rfl) (fun w_ hB_ hS_ => cz ((ae (af (ah l) by_)).1) sv9 (by first | omega | assumption | grind) hnz w_ (row_view hS_ 1 rfl)) rfl ?_; clear h ac wo; intro sv15 ac wo _ h
   refine rd0 h (aj rfl) rfl <| g0 (bc rfl rfl) rfl <| g0 (bc rfl rfl) rfl <| g0 (ag rfl) rfl <| g0 (ag rfl) rfl <| gn hK10 ?_; clear h ac wo; intro ac wo h
   replace h := h.sub (F' := [(6, sv9), (8, sv15), (9, (.int .i64 ((ae ((ae (af (ah l) by_)).1)).2)))]) ⟨rfl, rfl, rfl, trivial⟩
   refine dH fun K11 hK11 => ?_
   have hE2 : (ae (ae (af (ah l) by_)).1).2 = 0 := by rw [fO, mr]
   have hS2 : aI (ae (ae (af (ah l) by_)).1).1 (ae (af (ah l) by_)).1 = true := by rw [fO, mr]; exact jc (fun f => (e7 f f).2 rfl) _
   have hC : a6 (ae (af (ah l) by_)).1 = 0 := by rw [fO]; exact oL l (by assumption)
   refine rd0 h (aj rfl) rfl <| g0 (eJ rfl rfl) rfl <| g0 (aj rfl) rfl ?_; clear h ac wo; intro ac wo h
   refine gK (j := 2) (c := true) (b := (((ae ((ae (af (ah l) by_)).1)).2) == 0)) (g := (((ae ((ae (af (ah l) by_)).1)).2) == 0)) h rfl rfl g_t (by rw [hE2]; rfl) ?_
   refine rd0 h (br ms rfl rfl (v := .agg #[]) rfl) rfl ?_; clear h ac wo; intro ac wo h
   refine gK (j := 2) (c := true) (b := (((ae ((ae (af (ah l) by_)).1)).2) == 0)) (g := (((ae ((ae (af (ah l) by_)).1)).2) == 0)) h rfl rfl g_t (by rw [hE2]; rfl) ?_
   refine rd0 h (iI uu73 rfl rfl (v := (.agg #[]))) rfl ?_; clear h ac wo; intro ac wo h
   refine gK (j := 2) (c := true) (b := (((ae ((ae (af (ah l) by_)).1)).2) == 0)) (g := (((ae ((ae (af (ah l) by_)).1)).2) == 0)) h rfl rfl g_t (by rw [hE2]; rfl) ?_
   refine rd0 h (aj rfl) rfl ?_; clear h ac wo; intro ac wo h
   refine gK (j := 2) (c := true) (b := (((ae ((ae (af (ah l) by_)).1)).2) == 0)) (g := (((ae ((ae (af (ah l) by_)).1)).2) == 0)) h rfl rfl g_t (by rw [hE2]; rfl) ?_
   refine rd0 h (aj rfl) rfl ?_; clear h ac wo; intro ac wo h
   refine gK (j := 2) (c := true) (b := (((ae ((ae (af (ah l) by_)).1)).2) == 0)) (g := (((ae ((ae (af (ah l) by_)).1)).2) == 0)) h rfl rfl g_t (by rw [hE2]; rfl) ?_
   refine lm h (bX Tryz.call41 rfl) (fun w_ hB_ hS_ => fe ((ae ((ae (af (ah l) by_)).1)).1) sv15 ((ae (af (ah l) by_)).1) sv9 s13.1 (All.mono hnz (fun _ h_ => lf h_ (by omega))) w_ (row_view hS_ 0 rfl) (row_view hS_ 2 rfl)) rfl <| g0 (dK rfl (fun e => rfl)) rfl <| g0 (aj rfl) rfl ?_; clear h ac wo; intro ac wo h
   refine gK (j := 9) (c := true) (b := ((((ae ((ae (af (ah l) by_)).1)).2) == 0) && (aI ((ae ((ae (af (ah l) by_)).1)).1) ((ae (af (ah l) by_)).1)))) (g := ((((ae ((ae (af (ah l) by_)).1)).2) == 0) && (aI ((ae ((ae (af (ah l) by_)).1)).1) ((ae (af (ah l) by_)).1)))) h rfl rfl g_t (by rw [hE2, hS2]; rfl) ?_
   refine rd0 h (br ms rfl rfl (v := .agg #[]) rfl) rfl ?_; clear h ac wo; intro ac wo h
   refine gK (j := 9) (c := true) (b := ((((ae ((ae (af (ah l) by_)).1)).2) == 0) && (aI ((ae ((ae (af (ah l) by_)).1)).1) ((ae (af (ah l) by_)).1)))) (g := ((((ae ((ae (af (ah l) by_)).1)).2) == 0) && (aI ((ae ((ae (af (ah l) by_)).1)).1) ((ae (af (ah l) by_)).1)))) h rfl rfl g_t (by rw [hE2, hS2]; rfl) ?_
   refine rd0 h (iI uu73 rfl rfl (v := (.agg #[]))) rfl ?_; clear h ac wo; intro ac wo h
   refine gK (j := 9) (c := true) (b := ((((ae ((ae (af (ah l) by_)).1)).2) == 0) && (aI ((ae ((ae (af (ah l) by_)).1)).1) ((ae (af (ah l) by_)).1)))) (g := ((((ae ((ae (af (ah l) by_)).1)).2) == 0) && (aI ((ae ((ae (af (ah l) by_)).1)).1) ((ae (af (ah l) by_)).1)))) h rfl rfl g_t (by rw [hE2, hS2]; rfl) ?_
   refine rd0 h (aj rfl) rfl ?_; clear h ac wo; intro ac wo h
   refine gK (j := 9) (c := true) (b := ((((ae ((ae (af (ah l) by_)).1)).2) == 0) && (aI ((ae ((ae (af (ah l) by_)).1)).1) ((ae (af (ah l) by_)).1)))) (g := ((((ae ((ae (af (ah l) by_)).1)).2) == 0) && (aI ((ae ((ae (af (ah l) by_)).1)).1) ((ae (af (ah l) by_)).1)))) h rfl rfl g_t (by rw [hE2, hS2]; rfl) ?_
   refine lm h (bX Tryz.call43 rfl) (fun w_ hB_ hS_ => i9 ((ae (af (ah l) by_)).1) sv9 (by first | omega | assumption | grind) hnv hnz w_ (row_view hS_ 2 rfl)) rfl ?_; clear h ac wo; intro ac wo h
   refine gK (j := 9) (c := true) (b := ((((ae ((ae (af (ah l) by_)).1)).2) == 0) && (aI ((ae ((ae (af (ah l) by_)).1)).1) ((ae (af (ah l) by_)).1)))) (g := ((((ae ((ae (af (ah l) by_)).1)).2) == 0) && (aI ((ae ((ae (af (ah l) by_)).1)).1) ((ae (af (ah l) by_)).1)))) h rfl rfl g_t (by rw [hE2, hS2]; rfl) ?_
   refine rd0 h (eJ rfl rfl) rfl <| g0 (dK rfl (fun e => rfl)) rfl <| g0 (aj rfl) rfl ?_; clear h ac wo; intro ac wo h
   refine gK (j := 16) (c := true) (b := (((((ae ((ae (af (ah l) by_)).1)).2) == 0) && (aI ((ae ((ae (af (ah l) by_)).1)).1) ((ae (af (ah l) by_)).1))) && ((a6 ((ae (af (ah l) by_)).1)) == 0))) (g := (((((ae ((ae (af (ah l) by_)).1)).2) == 0) && (aI ((ae ((ae (af (ah l) by_)).1)).1) ((ae (af (ah l) by_)).1))) && ((a6 ((ae (af (ah l) by_)).1)) == 0))) h rfl rfl g_t (by rw [hE2, hS2, hC]; rfl) ?_
   refine rd0 h (br ms rfl rfl (v := .agg #[]) rfl) rfl ?_; clear h ac wo; intro ac wo h
   refine gK (j := 16) (c := true) (b := (((((ae ((ae (af (ah l) by_)).1)).2) == 0) && (aI ((ae ((ae (af (ah l) by_)).1)).1) ((ae (af (ah l) by_)).1))) && ((a6 ((ae (af (ah l) by_)).1)) == 0))) (g := (((((ae ((ae (af (ah l) by_)).1)).2) == 0) && (aI ((ae ((ae (af (ah l) by_)).1)).1) ((ae (af (ah l) by_)).1))) && ((a6 ((ae (af (ah l) by_)).1)) == 0))) h rfl rfl g_t (by rw [hE2, hS2, hC]; rfl) ?_
   refine rd0 h (iI uu73 rfl rfl (v := (.agg #[]))) rfl ?_; clear h ac wo; intro ac wo h
   refine gK (j := 16) (c := true) (b := (((((ae ((ae (af (ah l) by_)).1)).2) == 0) && (aI ((ae ((ae (af (ah l) by_)).1)).1) ((ae (af (ah l) by_)).1))) && ((a6 ((ae (af (ah l) by_)).1)) == 0))) (g := (((((ae ((ae (af (ah l) by_)).1)).2) == 0) && (aI ((ae ((ae (af (ah l) by_)).1)).1) ((ae (af (ah l) by_)).1))) && ((a6 ((ae (af (ah l) by_)).1)) == 0))) h rfl rfl g_t (by rw [hE2, hS2, hC]; rfl) ?_
   refine rd0 h (aj rfl) rfl ?_; clear h ac wo; intro ac wo h
   refine gK (j := 16) (c := true) (b := (((((ae ((ae (af (ah l) by_)).1)).2) == 0) && (aI ((ae ((ae (af (ah l) by_)).1)).1) ((ae (af (ah l) by_)).1))) && ((a6 ((ae (af (ah l) by_)).1)) == 0))) (g := (((((ae ((ae (af (ah l) by_)).1)).2) == 0) && (aI ((ae ((ae (af (ah l) by_)).1)).1) ((ae (af (ah l) by_)).1))) && ((a6 ((ae (af (ah l) by_)).1)) == 0))) h rfl rfl g_t (by rw [hE2, hS2, hC]; rfl) ?_
   refine rd0 h (aj rfl) rfl ?_; clear h ac wo; intro ac wo h
   refine gK (j := 16) (c := true) (b := (((((ae ((ae (af (ah l) by_)).1)).2) == 0) && (aI ((ae ((ae (af (ah l) by_)).1)).1) ((ae (af (ah l) by_)).1))) && ((a6 ((ae (af (ah l) by_)).1)) == 0))) (g := (((((ae ((ae (af (ah l) by_)).1)).2) == 0) && (aI ((ae ((ae (af (ah l) by_)).1)).1) ((ae (af (ah l) by_)).1))) && ((a6 ((ae (af (ah l) by_)).1)) == 0))) h rfl rfl g_t (by rw [hE2, hS2, hC]; rfl) ?_
   refine lm h (bX Tryz.call44 rfl) (fun w_ hB_ hS_ => fT ((ae ((ae (af (ah l) by_)).1)).1) sv15 ((ae (af (ah l) by_)).1) sv9 s13.1 (All.mono hnz (fun _ h_ => lf h_ (by omega))) w_ (row_view hS_ 0 rfl) (row_view hS_ 2 rfl)) rfl <| g0 (dK rfl (fun e => rfl)) rfl <| g0 (ag rfl) rfl <| gn hK11 ?_; clear h ac wo; intro ac wo h
   replace h := h.sub (F' := [(4, (.bool ((((((ae ((ae (af (ah l) by_)).1)).2) == 0) && (aI ((ae ((ae (af (ah l) by_)).1)).1) ((ae (af (ah l) by_)).1))) && ((a6 ((ae (af (ah l) by_)).1)) == 0)) && (cE ((ae ((ae (af (ah l) by_)).1)).1) ((ae (af (ah l) by_)).1)))))]) ⟨rfl, trivial⟩
   refine fc ?_
   have hd : cq l by_ = ((((((ae ((ae (af (ah l) by_)).1)).2) == 0) && (aI ((ae ((ae (af (ah l) by_)).1)).1) ((ae (af (ah l) by_)).1))) && ((a6 ((ae (af (ah l) by_)).1)) == 0)) && (cE ((ae ((ae (af (ah l) by_)).1)).1) ((ae (af (ah l) by_)).1))) := (Eq.trans (cF hc1) (cF hc2))
   exact ret h rfl (.tmp rfl .nil) rfl (h.retP (by rw [hd] <;> rfl) trivial)
attribute [irreducible] cq
end Go.Sx
