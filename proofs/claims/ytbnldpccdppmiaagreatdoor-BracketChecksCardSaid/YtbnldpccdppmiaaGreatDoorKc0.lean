/- A part of the proof that the law BracketQuestions/Checks answers true at every input and leaves its arguments as they were. -/
import Derived.Test.YtbnldpccdppmiaaGreatDoorEx
import Derived.Test.YtbnldpccdppmiaaGreatDoorA7
import Derived.Test.YtbnldpccdppmiaaGreatDoorGarith
set_option linter.unusedVariables false
set_option linter.unusedSimpArgs false
open Go.Proofs.Tryz renaming runUnderlying9 → uu9
namespace Go.Sx
open Go Go.RowKit Go.Proofs
set_option maxRecDepth 100000
set_option maxHeartbeats 40000000
attribute [local irreducible] aY bS an aI aM d7
theorem bld92 : BuildF Tryz.prog 92 [.bool false, .string ⟨#[]⟩, .bool false, .string ⟨#[]⟩, .bool false, .string ⟨#[]⟩, .bool false, .string ⟨#[]⟩, .bool false, .bool false] [(0, 9), (9, 1)] := BuildF.of Tryz.zeroValue92 rfl Tryz.runUnderlying92 (by intro w; simp [Tryz.sizeOf4, Tryz.sizeOf64])
theorem ib : BuildF Tryz.prog 107 [.bool false, .string ⟨#[]⟩, .bool false, .string ⟨#[]⟩, .bool false, .string ⟨#[]⟩, .bool false, .string ⟨#[]⟩, .bool false, .bool false, .int .i64 0, .int .i64 0] [(0, 10), (10, 2)] := BuildF.of Tryz.zeroValue107 rfl Tryz.runUnderlying107 (by intro w; simp [Tryz.sizeOf105, Tryz.sizeOf92])
def eE  : Nat :=
  0
theorem gW  (w0 : World)  : Calls Tryz.prog 146 #[(.string ⟨#[0]⟩), (.int .i64 0)] w0 (RetP w0 (.string (bs eE)) (SzB 30 eE)) := by
  refine enter (N := 125) (args := [(.string ⟨#[0]⟩), (.int .i64 0)]) Tryz.func146 rfl rfl ?_; intro ac h
  refine bB fun K1 hK1 => ?_
  refine rd0 h (ah rfl (v := (.string (bs 0)))) rfl ?_; clear h ac; intro ac wo h
  refine aE ?_
  refine hK1 _ _ ?_
  refine bP fun K2 hK2 => ?_
  refine bB fun K3 hK3 => ?_
  refine rd0 h (aj rfl) rfl ?_; clear h ac wo; intro ac wo h
  refine aE ?_
  refine hK3 _ _ ?_
  refine dm ?_
  refine bB fun K4 hK4 => ?_
  refine rd0 h (dV rfl rfl (m := ((0 : Nat) : Int)) (n := ((0 : Nat) : Int))) rfl ?_; clear h ac wo; intro ac wo h
  refine rd0 h (ah rfl) rfl ?_; clear h ac wo; intro ac wo h
  refine aE ?_
  refine hK4 _ _ ?_
  refine kO h rfl ?_ rfl
  refine bB fun K5 hK5 => ?_
  refine rd0 h (ah rfl (v := (.string (bs 0)))) rfl ?_; clear h ac wo; intro ac wo h
  refine aE ?_
  refine hK5 _ _ ?_
  refine cr ?_
  have hd : eE = 0 := rfl
  exact ret (rs := [.tmp 4]) h rfl (.tmp rfl .nil) rfl (h.retP (by rw [hd] <;> rfl) (by rw [hd]; exact (cu 0 (by decide) (by omega))))
theorem rep0 : eE = 0 := rfl
attribute [irreducible] eE
def kA (a : Nat) (x : Nat) : Nat :=
  0
def eO (a : Nat) (x : Nat) : Nx Nat Nat :=
  bif (decide ((a6 ((aG (bA x ((aG a x).1)) 2).1) x) ≥ 0)) then
    .ret x
  else
    .go (aG (bA x ((aG a x).1)) 2).1
def bu (a : Nat) : Nat :=
  fin (cd (fun s => eO a s) (2 + 1) 2) (fun s => kA a s) (fun r => r)
theorem iR (a : Nat) (ha : 0 < a ∧ a < 4) (za : SzB 30 a) (w0 : World)  : Calls Tryz.prog 136 #[(.string (bs a))] w0 (RetP w0 (.string (bs (bu a))) (SzB 29 (bu a))) := by
  refine enter (N := 50) (args := [(.string (bs a))]) Tryz.func136 rfl rfl ?_; intro ac h
  have hsz := nX ha
  have htp := oR ha
  have hla : (le a).length = 1 := by rw [← d8]; exact hsz
  refine bB fun K1 hK1 => ?_
  refine rd0 h (ah rfl (v := (.string (bs 0)))) rfl ?_; clear h ac; intro ac wo h
  refine aE ?_
  refine hK1 _ _ ?_
  refine bP fun K2 hK2 => ?_
  refine bB fun K3 hK3 => ?_
  refine rd0 h (aj rfl) rfl ?_; clear h ac wo; intro ac wo h
  refine rd0 h (lA rfl rfl (m := a) (n := 0)) rfl ?_; clear h ac wo; intro ac wo h
  refine aE ?_
  refine hK3 _ _ ?_
  refine kP h rfl ?_ (decide_eq_false (by omega))
  refine bR ?_
  refine hK2 _ _ ?_
  refine bB fun K4 hK4 => ?_
  refine rd0 h (aj rfl) rfl ?_; clear h ac wo; intro ac wo h
  refine rd0 h (jZ uu9 rfl) rfl ?_; clear h ac wo; intro ac wo h
  refine rd0 h (eI rfl rfl (r := 0) (by rw [hsz]; rfl)) rfl ?_; clear h ac wo; intro ac wo h
  refine rd0 h (jG rfl rfl (r := 0) rfl) rfl ?_; clear h ac wo; intro ac wo h
  refine rd0 h (aj rfl) rfl ?_; clear h ac wo; intro ac wo h
  refine rd0 h (nf uu9 rfl rfl (by omega)) rfl ?_; clear h ac wo; intro ac wo h
  refine dQ (vs := [(.int .u8 ((oC a : Nat) : Int))]) h (bh Tryz.call145 rfl) (fun w_ hB_ hS_ => (Len8_ct (oC a) (by omega)) w_) rfl ?_; clear h ac wo; intro ac wo h
  refine rd0 h (bO rfl rfl (r := (((Lib.bitLen (oC a)) : Nat) : Int)) (by rw [IntKind.wrap_i64]; omega)) rfl ?_; clear h ac wo; intro ac wo h
  refine rd0 h (ah rfl) rfl ?_; clear h ac wo; intro ac wo h
  refine aE ?_
  refine hK4 _ _ ?_
  refine bB fun K5 hK5 => ?_
  refine rd0 h (aj rfl) rfl ?_; clear h ac wo; intro ac wo h
  refine rd0 h (bO rfl rfl (r := (((Lib.bitLen (oC a)) + 1 : Nat) : Int)) (by rw [IntKind.wrap_i64]; first | omega | (simp only [aq, Bool.cond_decide, Bool.cond_eq_ite, List.length_append, List.length_set, List.length_cons, List.length_nil, List.length_take, List.length_drop, List.length_replicate] at *; omega))) rfl ?_; clear h ac wo; intro ac wo h
  refine rd0 h (md rfl rfl (r := 1) (by first | decide | omega) (by obtain ⟨_, h1, h2⟩ := htp; rw [Int.tdiv_eq_ediv_of_nonneg (by omega), IntKind.wrap_i64]; omega)) rfl ?_; clear h ac wo; intro ac wo h
  refine rd0 h (ah rfl) rfl ?_; clear h ac wo; intro ac wo h
  refine aE ?_
  refine hK5 _ _ ?_
  refine bP fun K6 hK6 => ?_
  have s1 := Calls.pr ((fun w_ hB_ hS_ => gW  w_ ) _ h.bel h.sep)
  replace h := h.emps 1
  refine dc mixed [⟨.det (.int .i64 1), []⟩, ⟨.det (.int .i64 1), []⟩, ⟨.det (.int .u8 2), []⟩, ⟨.nd (.one 3 fun v => NN v 1), [0]⟩, ⟨.det (.string (bs 2)), [0]⟩, ⟨.det (.int .i64 1), []⟩, ⟨.det (.int .i64 0), []⟩, ⟨.det (.string (bs eE)), []⟩, ⟨.det (.string (bs 2)), []⟩, ⟨.det (.string (bs 2)), []⟩] [⟨.emp, [(3, .one 3 fun v => .row (α := UInt8) 5 v ([2]))]⟩] h rfl (by kernel_rfl) ⟨?_, ?_, ?_, ?_, ?_, ?_, ?_, ?_, ?_, ?_, trivial⟩ ?_
  · intro ξ hφ; exact ay (aj rfl)
  · intro ξ hφ; exact ay (ex rfl rfl (r := 1) (by first | decide | omega) rfl)
  · intro ξ hφ; exact ay (mb rfl rfl (r := 2) (by omega) (by first | decide | (simp [IntKind.bits] <;> omega)) rfl)
  · intro ξ hφ; exact ij (ψ := fun v => NN v 1) (B := fun v => [.row (α := UInt8) 5 v ([2])]) [.emp] rfl (fun v _ => by simp only [dO, aS] <;> rfl) (fun v hv => by simpa [DF.one, aS] using hv) (fU (dg (α := UInt8) (xs := [.tmp 24]) (vs := [(.int .u8 2)]) [2] slt133 rfl rfl rfl (by decide)))
  · intro ξ hφ; exact bT [.row (α := UInt8) 5 (ξ 3) ([2])] rfl rfl (r_str Tryz.underlying133 Tryz.underlying5 Tryz.underlying9 rfl)
  · intro ξ hφ; exact ay (aj rfl)
  · intro ξ hφ; exact ay (md rfl rfl (r := 0) (by first | decide | omega) rfl)
  · intro ξ hφ; exact dY (df (vs := [(.string ⟨#[0]⟩), (.int .i64 0)]) (bh Tryz.call146 rfl) (fun w_ hB_ hS_ => gW  w_ ))
  · intro ξ hφ; exact ay (r_catz rep0 rfl rfl (by decide))
  · intro ξ hφ; exact ay (ah rfl)
  clear h ac wo; intro ξ ac wo hφ h
  replace h : St w0 50 [(0, (.string (bs a))), (4, (.string (bs 2)))] [] ac wo := (h.pick [] (by decide)).sub ⟨rfl, rfl, trivial⟩
  clear hφ ξ
  refine hK6 _ _ ?_
  refine dm ?_
  obtain ⟨X1, hX1⟩ : ∃ X, cd (fun s => eO a s) (2 + 1) 2 = X := ⟨_, rfl⟩
  refine wp_loop_ghost (fun n_ a_ w_ => ∃ (x : Nat), (x < n_) ∧ (cd (fun s => eO a s) n_ x = X1) ∧ (SzB 29 x) ∧ (x = 2 ∨ x = 1) ∧ St w0 50 [(0, (.string (bs a))), (4, (.string (bs x)))] [] a_ w_) (2 + 1) ⟨2, (by omega), hX1, (cu 2 (by decide) (by omega)), (Or.inl rfl), (h.sub ⟨rfl, rfl, trivial⟩)⟩ ?_
  clear h ac wo; rintro n1 ac wo ⟨x, hm1, hL1, zx, hx, h⟩
  obtain ⟨m1, rfl⟩ : ∃ m, n1 = m + 1 := ⟨n1 - 1, by omega⟩
  refine dm ?_
  refine bB fun K7 hK7 => ?_
  refine rd0 h (aj rfl) rfl ?_; clear h ac wo; intro ac wo h
  refine rd0 h (aj rfl) rfl ?_; clear h ac wo; intro ac wo h
  have s2 := aJ ((eG a x 29 (by omega) (qb za (by omega)) zx (by omega)) w0)
  refine dQ (vs := [(.string (bs a)), (.string (bs x))]) h (bh Tryz.call115 rfl) (fun w_ hB_ hS_ => (eG a x 29 (by omega) (qb za (by omega)) zx (by omega)) w_) rfl ?_; clear h ac wo; intro ac wo h
  refine rd0 h (aj rfl) rfl ?_; clear h ac wo; intro ac wo h
  refine rd0 h (bq (vs := [(.string (bs ((aG a x).1))), (.string (bs ((aG a x).2)))]) rfl rfl) rfl ?_; clear h ac wo; intro ac wo h
  refine rd0 h (bq (vs := [(.string (bs ((aG a x).1))), (.string (bs ((aG a x).2)))]) rfl rfl) rfl ?_; clear h ac wo; intro ac wo h
  refine rd0 h (ah rfl) rfl ?_; clear h ac wo; intro ac wo h
  refine rd0 h (ah rfl) rfl ?_; clear h ac wo; intro ac wo h
  refine aE ?_
  refine hK7 _ _ ?_
  refine bB fun K8 hK8 => ?_
  refine rd0 h (aj rfl) rfl ?_; clear h ac wo; intro ac wo h
  refine rd0 h (aj rfl) rfl ?_; clear h ac wo; intro ac wo h
  have s3 := aJ ((eH x ((aG a x).1) 28 (by omega) zx s2.1) w0)
  refine dQ (vs := [(.string (bs x)), (.string (bs ((aG a x).1)))]) h (bh Tryz.call120 rfl) (fun w_ hB_ hS_ => (eH x ((aG a x).1) 28 (by omega) zx s2.1) w_) rfl ?_; clear h ac wo; intro ac wo h
  have s4 := aJ ((eG (bA x ((aG a x).1)) 2 28 (by omega) s3 (cu 2 (by decide) (by omega)) (by omega)) w0)
  refine dQ (vs := [(.string (bs (bA x ((aG a x).1)))), (.string (bs 2))]) h (bh Tryz.call115 rfl) (fun w_ hB_ hS_ => (eG (bA x ((aG a x).1)) 2 28 (by omega) s3 (cu 2 (by decide) (by omega)) (by omega)) w_) rfl ?_; clear h ac wo; intro ac wo h
  refine rd0 h (aj rfl) rfl ?_; clear h ac wo; intro ac wo h
  refine rd0 h (bq (vs := [(.string (bs ((aG (bA x ((aG a x).1)) 2).1))), (.string (bs ((aG (bA x ((aG a x).1)) 2).2)))]) rfl rfl) rfl ?_; clear h ac wo; intro ac wo h
  refine rd0 h (bq (vs := [(.string (bs ((aG (bA x ((aG a x).1)) 2).1))), (.string (bs ((aG (bA x ((aG a x).1)) 2).2)))]) rfl rfl) rfl ?_; clear h ac wo; intro ac wo h
  refine rd0 h (ah rfl) rfl ?_; clear h ac wo; intro ac wo h
  refine rd0 h (ah rfl) rfl ?_; clear h ac wo; intro ac wo h
  refine aE ?_
  refine hK8 _ _ ?_
  replace h := h.sub (F' := [(0, (.string (bs a))), (4, (.string (bs x))), (7, (.string (bs ((aG (bA x ((aG a x).1)) 2).1))))]) ⟨rfl, rfl, rfl, trivial⟩
  refine bP fun K9 hK9 => ?_
  refine bB fun K10 hK10 => ?_
  refine rd0 h (aj rfl) rfl ?_; clear h ac wo; intro ac wo h
  refine rd0 h (aj rfl) rfl ?_; clear h ac wo; intro ac wo h
  have p6 := aJ ((dq ((aG (bA x ((aG a x).1)) 2).1) x) w0)
  refine dQ (vs := [(.string (bs ((aG (bA x ((aG a x).1)) 2).1))), (.string (bs x))]) h (bh Tryz.call121 rfl) (fun w_ hB_ hS_ => (dq ((aG (bA x ((aG a x).1)) 2).1) x) w_) rfl ?_; clear h ac wo; intro ac wo h
  refine rd0 h (me rfl rfl) rfl ?_; clear h ac wo; intro ac wo h
  refine aE ?_
  refine hK10 _ _ ?_
  refine c8 (b := (decide ((a6 ((aG (bA x ((aG a x).1)) 2).1) x) ≥ 0))) h rfl (fun hc2 => ?_) (fun hc2 => ?_)
  · skip
    have hd2 := of_decide_eq_true hc2
    refine bB fun K11 hK11 => ?_
    refine rd0 h (aj rfl) rfl ?_; clear h ac wo; intro ac wo h
    refine rd0 h (ah rfl) rfl ?_; clear h ac wo; intro ac wo h
    refine aE ?_
    refine hK11 _ _ ?_
    refine cr ?_
    have hr1 := i4 hL1 (show eO a x = .ret x from (cT hc2))
    have hd : bu a = x := (mX (hX1.trans hr1))
    exact ret (rs := [.tmp 2]) h rfl (.tmp rfl .nil) rfl (h.retP (by rw [hd] <;> rfl) (by rw [hd]; exact zx))
  · skip
    have hd2 := of_decide_eq_false hc2
    refine bR ?_
    refine hK9 _ _ ?_
    refine c_r ?_
    refine rd0 h (aj rfl) rfl ?_; clear h ac wo; intro ac wo h
    refine rd0 h (ah rfl) rfl ?_; clear h ac wo; intro ac wo h
    refine aE ?_
    refine e7 ?_
    have hzn : SzB 29 ((aG (bA x ((aG a x).1)) 2).1) := root_sz ha hx hc2
    have hln : (aG (bA x ((aG a x).1)) 2).1 < x := root_lt ha hx hc2
    exact aR ⟨m1, (by omega), (aG (bA x ((aG a x).1)) 2).1, (by first | assumption | omega | (simp only [aq, Bool.cond_decide, Bool.cond_eq_ite, List.length_append, List.length_set, List.length_cons, List.length_nil, List.length_take, List.length_drop, List.length_replicate] at *; done) | (simp only [aq, Bool.cond_decide, Bool.cond_eq_ite, List.length_append, List.length_set, List.length_cons, List.length_nil, List.length_take, List.length_drop, List.length_replicate] at *; omega) | (simp only [aq, Bool.cond_decide, Bool.cond_eq_ite, List.length_append, List.length_set, List.length_cons, List.length_nil, List.length_take, List.length_drop, List.length_replicate]; omega)), cC hL1 (show eO a x = .go (aG (bA x ((aG a x).1)) 2).1 from (cF hc2)), hzn, (ma ha hx hc2), (h.pick [] (by decide)).sub ⟨rfl, rfl, trivial⟩⟩
attribute [irreducible] bu
end Go.Sx
