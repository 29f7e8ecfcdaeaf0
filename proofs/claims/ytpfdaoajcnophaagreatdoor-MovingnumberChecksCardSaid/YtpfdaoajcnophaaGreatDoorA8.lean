/- A part of the proof of movingnumberChecks. -/
import Derived.Test.YtpfdaoajcnophaaGreatDoorA5
import Derived.Test.YtpfdaoajcnophaaGreatDoorExtK
set_option linter.unusedVariables false
set_option linter.unusedSimpArgs false
namespace Go.Sx
open Go Go.RowKit Go.Proofs Go.ChangeShapes Go.WideShapes
theorem rE {P:Program} {W:World} {r:Reach} {base:Nat} {t e:TypeId} {v:Value} (ht:P.underlying t=some (.slice e)) (h:Value.okWide P W r base t v) :
 v=.slice none 0 0∨∃ g off len cap cur el fr,v=.slice (some ⟨g,off,none⟩) len cap∧len≤cap∧W.heap[g]?=some (.cells cur el fr):=by
 simp only [Value.okWide,ht,Cell.okWide] at h
 cases v <;> simp_all [Cell.ok]
 rename_i a len cap
 cases a with
 | none=>cases len <;> cases cap <;> simp_all
 | some a =>
  right
  obtain ⟨h1,_,_,hsp,row,cells,hs,_⟩:=h
  obtain ⟨g,off,spot⟩:=a
  simp only at hsp
  subst hsp
  unfold World.shape? at hs
  split at hs
  · rename_i c el fr hc
    exact ⟨g,off,len,cap,⟨rfl,rfl,rfl⟩,h1,c,el,fr.1,fr.2,hc⟩
  · cases hs
theorem uB {α:Type} {n:Nat} {R:Nat→α→Prop} (h:∀ i,i < n→∃ x,R i x):∃ xs:List α,xs.length=n∧∀ i x,xs[i]?=some x→R i x:=by
 induction n with
 | zero=>exact ⟨[],rfl,fun i x hx=>by cases hx⟩
 | succ n ih =>
  obtain ⟨xs,h1,h2⟩:=ih fun i hi=>h i (by omega)
  obtain ⟨x,hx⟩:=h n (by omega)
  refine ⟨xs++[x],by simp [h1],fun i y hy=>?_⟩
  by_cases hi:i < n
  · rw [List.getElem?_append_left (by omega)] at hy
    exact h2 i y hy
  · rw [List.getElem?_append_right (by omega),h1] at hy
    by_cases e:i - n=0
    · rw [e] at hy
      have:i=n:=by omega
      subst this
      cases hy; exact hx
    · rw [List.getElem?_eq_none (by simp; omega)] at hy
      cases hy
end Go.Sx
