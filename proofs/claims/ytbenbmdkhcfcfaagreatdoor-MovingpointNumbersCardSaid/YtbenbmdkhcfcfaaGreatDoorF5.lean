/- A part of the proof of movingpointNumbers. -/
import Derived.Test.YtbenbmdkhcfcfaaGreatDoorF4
import Derived.Test.YtbenbmdkhcfcfaaGreatDoorTie
import Derived.Test.YtbenbmdkhcfcfaaGreatDoorCards
import Derived.ProofKit
import Derived.OpenShut
import Derived.LaidMore
import Derived.Lay
import Derived.SevenTiedAt
import Derived.Carry
import Derived.Stop.Joined
set_option linter.unusedVariables false
set_option linter.unusedSimpArgs false
namespace Go.Sx
open Go Go.RowKit
structure Stp where
  length : Nat
  piece : Nat
  point : Nat
  root : Bool
  c0 : Int
  c1 : Int
  c2 : Int
  deriving DecidableEq
structure At (α : Type) where
  frm : GR
  til : GR
  gap : Bool
  has : Bool
  f : α
  deriving DecidableEq
def cS (x : Stp) : List Value := [.int .u8 ((x.length : Nat) : Int), .int .u8 ((x.piece : Nat) : Int), .int .u8 ((x.point : Nat) : Int), .bool x.root, .int .i8 x.c0, .int .i8 x.c1, .int .i8 x.c2]
def cAI (x : At Int) : List Value := cR x.frm ++ (cR x.til ++ [.bool x.gap, .bool x.has, .int .i64 x.f])
def cAD (x : At Qd) : List Value := cR x.frm ++ (cR x.til ++ (.bool x.gap :: .bool x.has :: cD x.f))
def cAN (x : At Ln) : List Value := cR x.frm ++ (cR x.til ++ (.bool x.gap :: .bool x.has :: cN x.f))
theorem nG {v : Value} {B : List Value} (hv : v.oneCell' = true) (hB : ∀ c ∈ B, c.oneCell' = true) : ∀ c ∈ v :: B, c.oneCell' = true := fun c h => by
  rcases List.mem_cons.1 h with rfl | h
  · exact hv
  · exact hB c h
instance : Cod Stp := ⟨cS, 7, fun _ => rfl, fun x => by simp [cS, Value.oneCell'], by decide⟩
instance : Cod (At Int) := ⟨cAI, 21, fun _ => rfl, fun x => fe (uF _) (fe (uF _) (by simp [Value.oneCell'])), by decide⟩
instance : Cod (At Qd) := ⟨cAD, 32, fun _ => rfl, fun x => fe (uF _) (fe (uF _) (nG rfl (nG rfl (oneD _)))), by decide⟩
instance : Cod (At Ln) := ⟨cAN, 36, fun _ => rfl, fun x => fe (uF _) (fe (uF _) (nG rfl (nG rfl (oneN _)))), by decide⟩
instance : Inhabited GI := ⟨⟨false, 0⟩⟩
instance : Inhabited GQ := ⟨⟨default, default⟩⟩
instance : Inhabited GR := ⟨⟨default, default, false⟩⟩
instance : Inhabited Iv := ⟨⟨default, default, false, false⟩⟩
instance : Inhabited Qd := ⟨⟨default, default, default⟩⟩
instance : Inhabited Ln := ⟨⟨default, default, default, default⟩⟩
instance {α : Type} [Inhabited α] : Inhabited (U α) := ⟨⟨default, default⟩⟩
instance {α : Type} [Inhabited α] : Inhabited (At α) := ⟨⟨default, default, false, false, default⟩⟩
instance : Inhabited Stp := ⟨⟨0, 0, 0, false, 0, 0, 0⟩⟩
def iI (k : Nat) (x : U Qd) : Prop := SzV k x.iv ∧ SzD k x.f
def ky (k : Nat) (x : U Ln) : Prop := SzV k x.iv ∧ SzN k x.f
theorem xN {j k : Nat} {x : U Qd} (h : iI k x) (hj : j ≤ k) : iI j x := ⟨pP h.1 hj, ij h.2 hj⟩
theorem ti {j k : Nat} {x : U Ln} (h : ky k x) (hj : j ≤ k) : ky j x := ⟨pP h.1 hj, jv h.2 hj⟩
theorem SzI_d (k : Nat) : SzI k default := jf k
theorem qQ (k : Nat) : SzQ k default := ⟨SzI_d k, SzI_d k⟩
theorem SzR_d (k : Nat) : SzR k default := ⟨qQ k, qQ k⟩
theorem SzV_d (k : Nat) : SzV k default := ⟨SzR_d k, SzR_d k⟩
theorem SzD_d (k : Nat) : SzD k default := ⟨qQ k, qQ k, qQ k⟩
theorem SzN_d (k : Nat) : SzN k default := ⟨qQ k, qQ k, qQ k, qQ k⟩
theorem bP (k : Nat) : iI k default := ⟨SzV_d k, SzD_d k⟩
theorem cH (k : Nat) : ky k default := ⟨SzV_d k, SzN_d k⟩
def Alt {α : Type} [Inhabited α] (l : List (At α)) : Prop := ∀ j, j < l.length → (gt l j).gap = decide (j % 2 = 1)
theorem jm {α : Type} [Inhabited α] {l m : List α} {j : Nat} (h : j < l.length) : gt (l ++ m) j = gt l j := by
  simp [gt, List.getD, List.getElem?_append_left h]
theorem qD {α : Type} [Inhabited α] (l : List α) (x : α) : gt (l ++ [x]) l.length = x := by simp [gt, List.getD]
theorem rL {α : Type} [Inhabited α] {l : List α} {i : Nat} {x : α} (h : i < l.length) : gt (l.set i x) i = x := by simp [gt, List.getD, h]
theorem rK {α : Type} [Inhabited α] {l : List α} {i j : Nat} {x : α} (h : i ≠ j) : gt (l.set i x) j = gt l j := by simp [gt, List.getD, h]
theorem Alt.nil {α : Type} [Inhabited α] : Alt ([] : List (At α)) := fun _ h => by simp at h
theorem Alt.snoc {α : Type} [Inhabited α] {l : List (At α)} {x : At α} (h : Alt l) (hx : x.gap = decide (l.length % 2 = 1)) : Alt (l ++ [x]) := fun j hj => by
  simp at hj
  rcases Nat.lt_or_ge j l.length with h1 | h1
  · rw [jm h1]; exact h j h1
  · have : j = l.length := by omega
    subst this
    rw [qD]; exact hx
theorem Alt.set {α : Type} [Inhabited α] {l : List (At α)} {x : At α} {i : Nat} (h : Alt l) (hx : x.gap = (gt l i).gap) : Alt (l.set i x) := fun j hj => by
  rw [List.length_set] at hj
  by_cases e : i = j
  · subst e
    rw [rL hj, hx]; exact h i hj
  · rw [rK e]; exact h j hj
theorem mY {α : Type} {l : List α} {i : Nat} {x : α} (h : i < l.length) : (l.set i x)[i]? = some x := by simp [h]
theorem View.len {α : Type} [Cod α] {w : World} {sv : Value} {xs : List α} (h : View w sv xs) : xs.length ≤ 9223372036854775807 := by
  have := h.1.1; simp only [maxLen] at this; omega
theorem St.len {α : Type} [Cod α] {w0 w : World} {N : Nat} {F : List (Nat × Value)} {L : List Asn} {a : Act} {e : TypeId} {sv : Value} {xs : List α} (h : St w0 N F L a w) (i : Nat) (hi : L[i]? = some (Asn.row e sv xs)) : xs.length ≤ 9223372036854775807 := by
  have := h.row_len i hi; simp only [maxLen] at this; omega
theorem Alt.if {α : Type} [Inhabited α] {c : Bool} {l m : List (At α)} (h : c = true → Alt l) (hm : c = false → Alt m) : Alt (bif c then l else m) := by cases c; exact hm rfl; exact h rfl
theorem Alt.gap {α : Type} [Inhabited α] {l : List (At α)} (h : Alt l) {i : Nat} (hi : i < l.length) (ho : i % 2 = 1) : (gt l i).gap = true := by rw [h i hi]; exact decide_eq_true ho
theorem i9 {sv : Value} {n : Nat} (h : SL sv n) : sv.cells.toList = [sv] := by obtain ⟨a, c, rfl⟩ := h; rfl
theorem lN {sv : Value} {n : Nat} (h : SL sv n) : [sv].all Value.oneCell' = true := by obtain ⟨a, c, rfl⟩ := h; rfl
end Go.Sx
namespace Go.Sx
open Go Go.RowKit Go.Proofs Go.ChangeShapes Go.WideShapes
theorem mg {H : Type} {enc : TypeId × Value → H} {P : Program} (hl : laidOutB P = true) {W W' : World} {sp : Nat → Bool} :
    ∀ {ts : List TypeId} {vs : List Value} {ds : List (DataW H)} {ps : List MemPlace}, (∀ t ∈ ts, P.readableRec t = true ∧ t < P.types.size) →
      DataW.TrodAll enc P W 0 (fun _ => true) true ts vs ds ps → (∀ p ∈ ps, W.sameAt W' p) → (∀ p ∈ ps, sp p.block = true) → DataW.TrodAll enc P W' 0 sp true ts vs ds ps
  | [], _, _, _, _, h, _, _ => by
    obtain ⟨rfl, rfl, rfl⟩ := trodAll_nil h
    rfl
  | t :: ts, _, _, _, hr, h, hs, hp => by
    obtain ⟨v, vs1, d, ds1, a, b, rfl, rfl, rfl, h1, h2⟩ := trodAll_cons h
    have hrt := hr t (List.mem_cons_self ..)
    exact trodAll_cons_mk (WideElems.Trod_stays hl hrt.1 hrt.2 h1 (fun p hp' => hs p (List.mem_append_left _ hp')) (fun p hp' => hp p (List.mem_append_left _ hp')))
      (mg hl (fun t' ht => hr t' (List.mem_cons_of_mem _ ht)) h2 (fun p hp' => hs p (List.mem_append_right _ hp')) (fun p hp' => hp p (List.mem_append_right _ hp')))
theorem law_post {H : Type} {enc : TypeId × Value → H} {P : Program} (hl : laidOutB P = true) {f : Func} {s : ChangeSpec} {W W' : World} {args : Array Value} {ds gs : List (DataW H)} {before : List MemPlace}
    (hs : s.vars = []) (hfn : s.fn H (ds ++ gs) = { results := [.lit (.bool true)], args := ds }) (hr : ∀ t ∈ f.params.toList, P.readableRec t = true ∧ t < P.types.size)
    (ht : f.resultTypes = #[4]) (h4 : P.underlying 4 = some .bool) (hW : DataW.Whole enc P f.params.toList s.vars false W args.toList ds gs before) (hb : Below W.heap.size W W') :
    s.post enc P f false true false false W args (.bool true) W' := by
  have hlt : ∀ p ∈ before, p.block < W.heap.size := fun p hp => by simpa using hW.lt p hp
  have hW' := hW
  obtain ⟨p, q, hA, hV, he, _, _⟩ := hW'
  rw [hs] at hV
  obtain ⟨rfl, rfl⟩ := trodVars_none hV
  simp only [List.append_nil] at he
  subst he
  refine ⟨ds, [], before, [], before, [], hW, ?_, ?_, ?_, hb.kit.frame _, fun h => by cases h⟩
  · rw [hfn, ht]
    exact trodAll_mk1 (shut_bool h4 _)
  · rw [hfn]
    exact mg hl hr hA (fun x hx => hb.kit.same (hlt x hx)) (fun x hx => by simpa using hlt x hx)
  · rw [hs, hfn]; rfl
end Go.Sx
