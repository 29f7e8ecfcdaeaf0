/- A part of the proof that the law PiecesKinds answers true at every input and leaves its arguments as they were. -/
import Derived.Test.YtnkaneggnjallaaGreatDoorA7
import Derived.Test.YtnkaneggnjallaaGreatDoorM4
import Derived.Test.YtnkaneggnjallaaGreatDoorQ2
set_option linter.unusedVariables false
set_option linter.unusedSimpArgs false
open Go.Proofs.Tryz renaming runUnderlying31 → uu31, runUnderlying43 → uu43
namespace Go.Sx
open Go Go.RowKit Go.Proofs
set_option maxRecDepth 100000
set_option maxHeartbeats 40000000
attribute [local irreducible] aF cX ar aL cp aK aM aP du bP aI
def d5 (l : List Stp) (by_ : Nat) : Bool :=
 bif (!fv) then
  false
 else
  ((((((ay (au (ap (am l)) by_)).2) == 0) && (((aG (ax (aC (am l)) by_)).2) == 0)) && (aX ((ay (au (ap (am l)) by_)).1) (aO (ap (am l))))) && (cC ((aG (ax (aC (am l)) by_)).1) (bU (aC (am l)))))
theorem i9 (l : List Stp) (lv : Value) (by_ : Nat) (hb : by_ < 256) (w0 : World) (hlv : View w0 lv l) : Calls Tryz.prog 3 #[lv, (.int .u8 ((by_ : Nat) : Int))] w0 (eX w0 (.bool (d5 l by_)) (True)) := by
 refine enter (N := 62) (args := [lv, (.int .u8 ((by_ : Nat) : Int))]) Tryz.func3 rfl rfl ?_; intro ac h
 have hlenl := hlv.len
 refine eq fun K1 hK1 => ?_
 refine rd0 h (ak rfl) rfl <| gn hK1 <| gq fun K2 hK2 => gr fun K3 hK3 => gc (ck Tryz.call14 rfl) (kk (kz)) rfl <| g0 (er rfl) rfl <| gn hK3 ?_; clear h ac; intro ac wo h
 refine db h rfl (fun hc1 => ?_) (fun hc1 => ?_)
 ·
  have hq1 := hc1; try simp at hq1
  refine gz h <| gr fun K4 hK4 => g0 (ak rfl) rfl <| gn hK4 <| gT ?_; clear h ac wo; intro ac wo h
  have hd : d5 l by_ = false := (cT hc1)
  exact ret h rfl (.tmp rfl .nil) rfl (h.retP (by rw [hd] <;> rfl) trivial)
 ·
  have hq1 := hc1; try simp at hq1
  refine gz h <| gS <| gx hK2 <| gr fun K5 hK5 => g0 (aj rfl) rfl ?_; clear h ac wo; intro ac wo h
  have s1 := RetR.pr ((fun w_ hB_ hS_ => iw l lv w_ (hlv.below hB_)) _ h.bel h.sep)
  have p2 := s1.2
  refine ja (xs := (am l)) h (ck Tryz.call15 rfl) (fun w_ hB_ hS_ => iw l lv w_ (hlv.below hB_)) rfl ?_; clear h ac wo; intro sv3 ac wo _ h
  refine rd0 h (ak rfl) rfl <| gn hK5 <| gr fun K6 hK6 => g0 (bq bld31 rfl rfl (v := .agg #[]) rfl) rfl <| g0 (kP uu31 rfl rfl (v := (.agg #[]))) rfl <| g0 (aj rfl) rfl ?_; clear h ac wo; intro ac wo h
  have s4 := RetR.pr ((fun w_ hB_ hS_ => fc (am l) sv3 (by first | omega | grind) s1.1 w_ (row_view hS_ 0 rfl)) _ h.bel h.sep)
  have p5 := s4.2
  refine ja (xs := (ap (am l))) h (ck Tryz.call18 rfl) (fun w_ hB_ hS_ => fc (am l) sv3 (by first | omega | grind) s1.1 w_ (row_view hS_ 0 rfl)) rfl ?_; clear h ac wo; intro sv6 ac wo _ h
  refine rd0 h (aj rfl) rfl ?_; clear h ac wo; intro ac wo h
  have s7 := RetR.pr ((fun w_ hB_ hS_ => f7 (ap (am l)) sv6 by_ (by first | omega | grind) (by first | omega | grind) s4.1 w_ (row_view hS_ 0 rfl)) _ h.bel h.sep)
  have p8 := s7.2
  refine ja (xs := (au (ap (am l)) by_)) h (ck Tryz.call17 rfl) (fun w_ hB_ hS_ => f7 (ap (am l)) sv6 by_ (by first | omega | grind) (by first | omega | grind) s4.1 w_ (row_view hS_ 0 rfl)) rfl ?_; clear h ac wo; intro sv9 ac wo _ h
  have s10 := RetT.pr ((fun w_ hB_ hS_ => iC (au (ap (am l)) by_) sv9 (by first | omega | grind) s7.1 w_ (row_view hS_ 0 rfl)) _ h.bel h.sep)
  have p11 := s10.2
  refine c_tup (xs := (ay (au (ap (am l)) by_)).1) h (ck Tryz.call16 rfl) (fun w_ hB_ hS_ => iC (au (ap (am l)) by_) sv9 (by first | omega | grind) s7.1 w_ (row_view hS_ 0 rfl)) rfl ?_; clear h ac wo; intro sv12 ac wo _ h
  refine rd0 h (aj rfl) rfl <| g0 (bO rfl rfl) rfl <| g0 (bO rfl rfl) rfl <| g0 (ak rfl) rfl <| g0 (ak rfl) rfl <| gn hK6 ?_; clear h ac wo; intro ac wo h
  replace h := h.sub (F' := [(1, (.int .u8 ((by_ : Nat) : Int))), (5, sv3), (6, sv12), (7, (.int .i64 ((ay (au (ap (am l)) by_)).2)))]) ⟨rfl, rfl, rfl, rfl, trivial⟩
  refine gz h <| gr fun K7 hK7 => g0 (bq bld43 rfl rfl (v := .agg #[]) rfl) rfl <| g0 (kP uu43 rfl rfl (v := (.agg #[]))) rfl <| g0 (aj rfl) rfl ?_; clear h ac wo; intro ac wo h
  have s13 := RetR.pr ((fun w_ hB_ hS_ => ft (am l) sv3 (by first | omega | grind) s1.1 w_ (row_view hS_ 3 rfl)) _ h.bel h.sep)
  have p14 := s13.2
  refine ja (xs := (aC (am l))) h (ck Tryz.call21 rfl) (fun w_ hB_ hS_ => ft (am l) sv3 (by first | omega | grind) s1.1 w_ (row_view hS_ 3 rfl)) rfl ?_; clear h ac wo; intro sv15 ac wo _ h
  refine rd0 h (aj rfl) rfl ?_; clear h ac wo; intro ac wo h
  have s16 := RetR.pr ((fun w_ hB_ hS_ => fW (aC (am l)) sv15 by_ (by first | omega | grind) (by first | omega | grind) s13.1 w_ (row_view hS_ 0 rfl)) _ h.bel h.sep)
  have p17 := s16.2
  refine ja (xs := (ax (aC (am l)) by_)) h (ck Tryz.call20 rfl) (fun w_ hB_ hS_ => fW (aC (am l)) sv15 by_ (by first | omega | grind) (by first | omega | grind) s13.1 w_ (row_view hS_ 0 rfl)) rfl ?_; clear h ac wo; intro sv18 ac wo _ h
  have s19 := RetT.pr ((fun w_ hB_ hS_ => it (ax (aC (am l)) by_) sv18 (by first | omega | grind) s16.1 w_ (row_view hS_ 0 rfl)) _ h.bel h.sep)
  have p20 := s19.2
  refine c_tup (xs := (aG (ax (aC (am l)) by_)).1) h (ck Tryz.call19 rfl) (fun w_ hB_ hS_ => it (ax (aC (am l)) by_) sv18 (by first | omega | grind) s16.1 w_ (row_view hS_ 0 rfl)) rfl ?_; clear h ac wo; intro sv21 ac wo _ h
  refine rd0 h (aj rfl) rfl <| g0 (bO rfl rfl) rfl <| g0 (bO rfl rfl) rfl <| g0 (ak rfl) rfl <| g0 (ak rfl) rfl <| gn hK7 <| gr fun K8 hK8 => ?_; clear h ac wo; intro ac wo h
  have hE : (ay (au (ap (am l)) by_)).2 = 0 := by rw [oT]
  have hF : (aG (ax (aC (am l)) by_)).2 = 0 := by rw [qX]
  have hS : aX (ay (au (ap (am l)) by_)).1 (aO (ap (am l))) = true := by rw [oT]; exact kY _
  refine rd0 h (aj rfl) rfl <| g0 (fZ rfl rfl) rfl <| g0 (aj rfl) rfl ?_; clear h ac wo; intro ac wo h
  refine gK (j := 2) (c := true) (b := (((ay (au (ap (am l)) by_)).2) == 0)) (g := (((ay (au (ap (am l)) by_)).2) == 0)) h rfl rfl g_t (by rw [hE]; rfl) ?_
  refine rd0 h (aj rfl) rfl ?_; clear h ac wo; intro ac wo h
  refine gK (j := 2) (c := true) (b := (((ay (au (ap (am l)) by_)).2) == 0)) (g := (((ay (au (ap (am l)) by_)).2) == 0)) h rfl rfl g_t (by rw [hE]; rfl) ?_
  refine rd0 h (fZ rfl rfl) rfl <| g0 (da rfl (fun e => rfl)) rfl <| g0 (aj rfl) rfl ?_; clear h ac wo; intro ac wo h
  refine gK (j := 6) (c := true) (b := ((((ay (au (ap (am l)) by_)).2) == 0) && (((aG (ax (aC (am l)) by_)).2) == 0))) (g := ((((ay (au (ap (am l)) by_)).2) == 0) && (((aG (ax (aC (am l)) by_)).2) == 0))) h rfl rfl g_t (by rw [hE, hF]; rfl) ?_
  refine rd0 h (bq bld31 rfl rfl (v := .agg #[]) rfl) rfl ?_; clear h ac wo; intro ac wo h
  refine gK (j := 6) (c := true) (b := ((((ay (au (ap (am l)) by_)).2) == 0) && (((aG (ax (aC (am l)) by_)).2) == 0))) (g := ((((ay (au (ap (am l)) by_)).2) == 0) && (((aG (ax (aC (am l)) by_)).2) == 0))) h rfl rfl g_t (by rw [hE, hF]; rfl) ?_
  refine rd0 h (kP uu31 rfl rfl (v := (.agg #[]))) rfl ?_; clear h ac wo; intro ac wo h
  refine gK (j := 6) (c := true) (b := ((((ay (au (ap (am l)) by_)).2) == 0) && (((aG (ax (aC (am l)) by_)).2) == 0))) (g := ((((ay (au (ap (am l)) by_)).2) == 0) && (((aG (ax (aC (am l)) by_)).2) == 0))) h rfl rfl g_t (by rw [hE, hF]; rfl) ?_
  refine rd0 h (aj rfl) rfl ?_; clear h ac wo; intro ac wo h
  refine gK (j := 6) (c := true) (b := ((((ay (au (ap (am l)) by_)).2) == 0) && (((aG (ax (aC (am l)) by_)).2) == 0))) (g := ((((ay (au (ap (am l)) by_)).2) == 0) && (((aG (ax (aC (am l)) by_)).2) == 0))) h rfl rfl g_t (by rw [hE, hF]; rfl) ?_
  refine rd0 h (bq bld31 rfl rfl (v := .agg #[]) rfl) rfl ?_; clear h ac wo; intro ac wo h
  refine gK (j := 6) (c := true) (b := ((((ay (au (ap (am l)) by_)).2) == 0) && (((aG (ax (aC (am l)) by_)).2) == 0))) (g := ((((ay (au (ap (am l)) by_)).2) == 0) && (((aG (ax (aC (am l)) by_)).2) == 0))) h rfl rfl g_t (by rw [hE, hF]; rfl) ?_
  refine rd0 h (kP uu31 rfl rfl (v := (.agg #[]))) rfl ?_; clear h ac wo; intro ac wo h
  refine gK (j := 6) (c := true) (b := ((((ay (au (ap (am l)) by_)).2) == 0) && (((aG (ax (aC (am l)) by_)).2) == 0))) (g := ((((ay (au (ap (am l)) by_)).2) == 0) && (((aG (ax (aC (am l)) by_)).2) == 0))) h rfl rfl g_t (by rw [hE, hF]; rfl) ?_
  refine rd0 h (aj rfl) rfl ?_; clear h ac wo; intro ac wo h
  refine gK (j := 6) (c := true) (b := ((((ay (au (ap (am l)) by_)).2) == 0) && (((aG (ax (aC (am l)) by_)).2) == 0))) (g := ((((ay (au (ap (am l)) by_)).2) == 0) && (((aG (ax (aC (am l)) by_)).2) == 0))) h rfl rfl g_t (by rw [hE, hF]; rfl) ?_
  have s22 := RetR.pr ((fun w_ hB_ hS_ => fc (am l) sv3 (by first | omega | grind) s1.1 w_ (row_view hS_ 6 rfl)) _ h.bel h.sep)
  have p23 := s22.2
  refine ja (xs := (ap (am l))) h (ck Tryz.call18 rfl) (fun w_ hB_ hS_ => fc (am l) sv3 (by first | omega | grind) s1.1 w_ (row_view hS_ 6 rfl)) rfl ?_; clear h ac wo; intro sv24 ac wo _ h
  refine gK (j := 6) (c := true) (b := ((((ay (au (ap (am l)) by_)).2) == 0) && (((aG (ax (aC (am l)) by_)).2) == 0))) (g := ((((ay (au (ap (am l)) by_)).2) == 0) && (((aG (ax (aC (am l)) by_)).2) == 0))) h rfl rfl g_t (by rw [hE, hF]; rfl) ?_
  have s25 := RetR.pr ((fun w_ hB_ hS_ => f8 (ap (am l)) sv24 (by first | omega | grind) s22.1 w_ (row_view hS_ 0 rfl)) _ h.bel h.sep)
  have p26 := s25.2
  refine ja (xs := (aO (ap (am l)))) h (ck Tryz.call23 rfl) (fun w_ hB_ hS_ => f8 (ap (am l)) sv24 (by first | omega | grind) s22.1 w_ (row_view hS_ 0 rfl)) rfl ?_; clear h ac wo; intro sv27 ac wo _ h
  refine gK (j := 6) (c := true) (b := ((((ay (au (ap (am l)) by_)).2) == 0) && (((aG (ax (aC (am l)) by_)).2) == 0))) (g := ((((ay (au (ap (am l)) by_)).2) == 0) && (((aG (ax (aC (am l)) by_)).2) == 0))) h rfl rfl g_t (by rw [hE, hF]; rfl) ?_
  refine ow h (ck Tryz.call22 rfl) (fun w_ hB_ hS_ => jF ((ay (au (ap (am l)) by_)).1) sv12 (aO (ap (am l))) sv27 s10.1 s25.1 w_ (row_view hS_ 5 rfl) (row_view hS_ 0 rfl)) rfl <| g0 (da rfl (fun e => rfl)) rfl <| g0 (aj rfl) rfl ?_; clear h ac wo; intro ac wo h
  refine gK (j := 17) (c := true) (b := (((((ay (au (ap (am l)) by_)).2) == 0) && (((aG (ax (aC (am l)) by_)).2) == 0)) && (aX ((ay (au (ap (am l)) by_)).1) (aO (ap (am l)))))) (g := (((((ay (au (ap (am l)) by_)).2) == 0) && (((aG (ax (aC (am l)) by_)).2) == 0)) && (aX ((ay (au (ap (am l)) by_)).1) (aO (ap (am l)))))) h rfl rfl g_t (by rw [hE, hF, hS]; rfl) ?_
  refine rd0 h (bq bld43 rfl rfl (v := .agg #[]) rfl) rfl ?_; clear h ac wo; intro ac wo h
  refine gK (j := 17) (c := true) (b := (((((ay (au (ap (am l)) by_)).2) == 0) && (((aG (ax (aC (am l)) by_)).2) == 0)) && (aX ((ay (au (ap (am l)) by_)).1) (aO (ap (am l)))))) (g := (((((ay (au (ap (am l)) by_)).2) == 0) && (((aG (ax (aC (am l)) by_)).2) == 0)) && (aX ((ay (au (ap (am l)) by_)).1) (aO (ap (am l)))))) h rfl rfl g_t (by rw [hE, hF, hS]; rfl) ?_
  refine rd0 h (kP uu43 rfl rfl (v := (.agg #[]))) rfl ?_; clear h ac wo; intro ac wo h
  refine gK (j := 17) (c := true) (b := (((((ay (au (ap (am l)) by_)).2) == 0) && (((aG (ax (aC (am l)) by_)).2) == 0)) && (aX ((ay (au (ap (am l)) by_)).1) (aO (ap (am l)))))) (g := (((((ay (au (ap (am l)) by_)).2) == 0) && (((aG (ax (aC (am l)) by_)).2) == 0)) && (aX ((ay (au (ap (am l)) by_)).1) (aO (ap (am l)))))) h rfl rfl g_t (by rw [hE, hF, hS]; rfl) ?_
  refine rd0 h (aj rfl) rfl ?_; clear h ac wo; intro ac wo h
  refine gK (j := 17) (c := true) (b := (((((ay (au (ap (am l)) by_)).2) == 0) && (((aG (ax (aC (am l)) by_)).2) == 0)) && (aX ((ay (au (ap (am l)) by_)).1) (aO (ap (am l)))))) (g := (((((ay (au (ap (am l)) by_)).2) == 0) && (((aG (ax (aC (am l)) by_)).2) == 0)) && (aX ((ay (au (ap (am l)) by_)).1) (aO (ap (am l)))))) h rfl rfl g_t (by rw [hE, hF, hS]; rfl) ?_
  refine rd0 h (bq bld43 rfl rfl (v := .agg #[]) rfl) rfl ?_; clear h ac wo; intro ac wo h
  refine gK (j := 17) (c := true) (b := (((((ay (au (ap (am l)) by_)).2) == 0) && (((aG (ax (aC (am l)) by_)).2) == 0)) && (aX ((ay (au (ap (am l)) by_)).1) (aO (ap (am l)))))) (g := (((((ay (au (ap (am l)) by_)).2) == 0) && (((aG (ax (aC (am l)) by_)).2) == 0)) && (aX ((ay (au (ap (am l)) by_)).1) (aO (ap (am l)))))) h rfl rfl g_t (by rw [hE, hF, hS]; rfl) ?_
  refine rd0 h (kP uu43 rfl rfl (v := (.agg #[]))) rfl ?_; clear h ac wo; intro ac wo h
  refine gK (j := 17) (c := true) (b := (((((ay (au (ap (am l)) by_)).2) == 0) && (((aG (ax (aC (am l)) by_)).2) == 0)) && (aX ((ay (au (ap (am l)) by_)).1) (aO (ap (am l)))))) (g := (((((ay (au (ap (am l)) by_)).2) == 0) && (((aG (ax (aC (am l)) by_)).2) == 0)) && (aX ((ay (au (ap (am l)) by_)).1) (aO (ap (am l)))))) h rfl rfl g_t (by rw [hE, hF, hS]; rfl) ?_
  refine rd0 h (aj rfl) rfl ?_; clear h ac wo; intro ac wo h
  refine gK (j := 17) (c := true) (b := (((((ay (au (ap (am l)) by_)).2) == 0) && (((aG (ax (aC (am l)) by_)).2) == 0)) && (aX ((ay (au (ap (am l)) by_)).1) (aO (ap (am l)))))) (g := (((((ay (au (ap (am l)) by_)).2) == 0) && (((aG (ax (aC (am l)) by_)).2) == 0)) && (aX ((ay (au (ap (am l)) by_)).1) (aO (ap (am l)))))) h rfl rfl g_t (by rw [hE, hF, hS]; rfl) ?_
  have s28 := RetR.pr ((fun w_ hB_ hS_ => ft (am l) sv3 (by first | omega | grind) s1.1 w_ (row_view hS_ 8 rfl)) _ h.bel h.sep)
  have p29 := s28.2
  refine ja (xs := (aC (am l))) h (ck Tryz.call21 rfl) (fun w_ hB_ hS_ => ft (am l) sv3 (by first | omega | grind) s1.1 w_ (row_view hS_ 8 rfl)) rfl ?_; clear h ac wo; intro sv30 ac wo _ h
  refine gK (j := 17) (c := true) (b := (((((ay (au (ap (am l)) by_)).2) == 0) && (((aG (ax (aC (am l)) by_)).2) == 0)) && (aX ((ay (au (ap (am l)) by_)).1) (aO (ap (am l)))))) (g := (((((ay (au (ap (am l)) by_)).2) == 0) && (((aG (ax (aC (am l)) by_)).2) == 0)) && (aX ((ay (au (ap (am l)) by_)).1) (aO (ap (am l)))))) h rfl rfl g_t (by rw [hE, hF, hS]; rfl) ?_
  have s31 := RetR.pr ((fun w_ hB_ hS_ => fX (aC (am l)) sv30 (by first | omega | grind) s28.1 w_ (row_view hS_ 0 rfl)) _ h.bel h.sep)
  have p32 := s31.2
  refine ja (xs := (bU (aC (am l)))) h (ck Tryz.call25 rfl) (fun w_ hB_ hS_ => fX (aC (am l)) sv30 (by first | omega | grind) s28.1 w_ (row_view hS_ 0 rfl)) rfl ?_; clear h ac wo; intro sv33 ac wo _ h
  refine gK (j := 17) (c := true) (b := (((((ay (au (ap (am l)) by_)).2) == 0) && (((aG (ax (aC (am l)) by_)).2) == 0)) && (aX ((ay (au (ap (am l)) by_)).1) (aO (ap (am l)))))) (g := (((((ay (au (ap (am l)) by_)).2) == 0) && (((aG (ax (aC (am l)) by_)).2) == 0)) && (aX ((ay (au (ap (am l)) by_)).1) (aO (ap (am l)))))) h rfl rfl g_t (by rw [hE, hF, hS]; rfl) ?_
  refine ow h (ck Tryz.call24 rfl) (fun w_ hB_ hS_ => jr ((aG (ax (aC (am l)) by_)).1) sv21 (bU (aC (am l))) sv33 s19.1 s31.1 w_ (row_view hS_ 4 rfl) (row_view hS_ 0 rfl)) rfl <| g0 (da rfl (fun e => rfl)) rfl <| g0 (ak rfl) rfl <| gn hK8 ?_; clear h ac wo; intro ac wo h
  replace h := h.sub (F' := [(4, (.bool ((((((ay (au (ap (am l)) by_)).2) == 0) && (((aG (ax (aC (am l)) by_)).2) == 0)) && (aX ((ay (au (ap (am l)) by_)).1) (aO (ap (am l))))) && (cC ((aG (ax (aC (am l)) by_)).1) (bU (aC (am l)))))))]) ⟨rfl, trivial⟩
  refine fU ?_
  have hd : d5 l by_ = ((((((ay (au (ap (am l)) by_)).2) == 0) && (((aG (ax (aC (am l)) by_)).2) == 0)) && (aX ((ay (au (ap (am l)) by_)).1) (aO (ap (am l))))) && (cC ((aG (ax (aC (am l)) by_)).1) (bU (aC (am l))))) := (cF hc1)
  exact ret h rfl (.tmp rfl .nil) rfl (h.retP (by rw [hd] <;> rfl) trivial)
attribute [irreducible] d5
end Go.Sx
