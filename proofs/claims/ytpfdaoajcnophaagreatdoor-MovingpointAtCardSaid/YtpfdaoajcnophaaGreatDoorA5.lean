/- A part of the proof of movingpointAt. -/
import Derived.Test.YtpfdaoajcnophaaGreatDoorTie
import Derived.Test.YtpfdaoajcnophaaGreatDoorCards
import Derived.ProofKit
import Derived.OpenShut
import Derived.LaidMore
import Derived.Lay
import Derived.SevenTiedAt
import Derived.Carry
import Derived.Stop.Joined
import Derived.Test.YtpfdaoajcnophaaGreatDoorA4
set_option linter.unusedVariables false
set_option linter.unusedSimpArgs false
namespace Go.Sx
open Go Go.RowKit Go.Proofs Go.ChangeShapes Go.WideShapes
theorem lI {H : Type} {enc : TypeId × Value → H} {P : Program} (hl : laidOutB P = true) {W W' : World} {sp : Nat → Bool} :
    ∀ {ts : List TypeId} {vs : List Value} {ds : List (DataW H)} {ps : List MemPlace}, (∀ t ∈ ts, P.readableRec t = true ∧ t < P.types.size) →
      DataW.TrodAll enc P W 0 (fun _ => true) true ts vs ds ps → (∀ p ∈ ps, W.sameAt W' p) → (∀ p ∈ ps, sp p.block = true) → DataW.TrodAll enc P W' 0 sp true ts vs ds ps
  | [], _, _, _, _, h, _, _ => by
    obtain ⟨rfl, rfl, rfl⟩ := trodAll_nil h
    rfl
  | t :: ts, _, _, _, hr, h, hs, hp => by
    obtain ⟨v, vs1, d, ds1, a, b, rfl, rfl, rfl, h1, h2⟩ := trodAll_cons h
    have hrt := hr t (List.mem_cons_self ..)
    exact trodAll_cons_mk (WideElems.Trod_stays hl hrt.1 hrt.2 h1 (fun p hp' => hs p (List.mem_append_left _ hp')) (fun p hp' => hp p (List.mem_append_left _ hp')))
      (lI hl (fun t' ht => hr t' (List.mem_cons_of_mem _ ht)) h2 (fun p hp' => hs p (List.mem_append_right _ hp')) (fun p hp' => hp p (List.mem_append_right _ hp')))
theorem law_post {H : Type} {enc : TypeId × Value → H} {P : Program} (hl : laidOutB P = true) {f : Func} {s : ChangeSpec} {W W' : World} {args : Array Value} {ds gs : List (DataW H)} {before : List MemPlace}
    (hs : s.vars = []) (hfn : s.fn H (ds ++ gs) = { results := [.lit (.bool true)], args := ds }) (hr : ∀ t ∈ f.params.toList, P.readableRec t = true ∧ t < P.types.size)
    (ht : f.resultTypes = #[4]) (h4 : P.underlying 4 = some .bool) (hW : DataW.Whole enc P f.params.toList s.vars false W args.toList ds gs before) (hb : Below W.heap.size W W') :
    s.post enc P f false true false false W args (.bool true) W' := by
  have hlt : ∀ p ∈ before, p.block < W.heap.size := fun p hp => by simpa using hW.lt p hp
  have hW' := hW
  obtain ⟨p, q, hA, hV, he, _, _⟩ := hW'
  rw [hs] at hV
  obtain ⟨rfl, rfl⟩ := trodVars_none hV
  simp only [List.append_nil] at he
  subst he
  refine ⟨ds, [], before, [], before, [], hW, ?_, ?_, ?_, hb.kit.frame _, fun h => by cases h⟩
  · rw [hfn, ht]
    exact trodAll_mk1 (shut_bool h4 _)
  · rw [hfn]
    exact lI hl hr hA (fun x hx => hb.kit.same (hlt x hx)) (fun x hx => by simpa using hlt x hx)
  · rw [hs, hfn]; rfl
end Go.Sx
