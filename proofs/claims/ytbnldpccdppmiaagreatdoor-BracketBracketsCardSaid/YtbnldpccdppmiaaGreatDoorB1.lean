/- A part of the proof that the law BracketOperates/Brackets/Logic answers true at every input and leaves its arguments as they were. -/
import Derived.Test.YtbnldpccdppmiaaGreatDoorKn
set_option linter.unusedVariables false
set_option linter.unusedSimpArgs false
open Go.Proofs.Tryz renaming runUnderlying28 → uu28, sizeOf26 → zz26, isAgg26 → aa26, runUnderlying33 → uu33, call32 → cc32, call41 → cc41
namespace Go.Sx
open Go Go.RowKit Go.Proofs
set_option maxRecDepth 100000
set_option maxHeartbeats 40000000
theorem cj (t_0 : List Iv) (t_0v : Value) (t_1 : List Iv) (t_1v : Value) (t_2 : List Iv) (t_2v : Value) (b_0 : List Iv) (b_0v : Value) (b_1 : List Iv) (b_1v : Value) (ct_0 : Cn t_0) (ct_1 : Cn t_1) (ct_2 : Cn t_2) (cb_0 : Cn b_0) (cb_1 : Cn b_1) (w0 : World) (ht_0v : View w0 t_0v t_0) (ht_1v : View w0 t_1v t_1) (ht_2v : View w0 t_2v t_2) (hb_0v : View w0 b_0v b_0) (hb_1v : View w0 b_1v b_1) : Calls Tryz.prog 13 #[(.agg #[t_0v, t_1v, t_2v]), (.agg #[b_0v, b_1v])] w0 (RetP w0 (.bool (((ax t_0 b_0) && (aE b_1 t_1)) && (aE t_2 b_1))) True) := by
  refine enter (N := 24) (args := [(.agg #[t_0v, t_1v, t_2v]), (.agg #[b_0v, b_1v])]) Tryz.func13 rfl rfl ?_; intro ac h
  have is_t_0 := SL.is ht_0v.sl
  have is_t_1 := SL.is ht_1v.sl
  have is_t_2 := SL.is ht_2v.sl
  have is_b_0 := SL.is hb_0v.sl
  have is_b_1 := SL.is hb_1v.sl
  refine cz fun K1 hK1 => ?_
  refine bx h [t_0v, t_1v, t_2v] rfl rfl rfl ?_; clear h ac; intro b1 ac wo h
  refine bx h [b_0v, b_1v] rfl rfl rfl ?_; clear h ac wo; intro b2 ac wo h
  refine rd0 h (aj rfl (v := (.bool false))) rfl ?_; clear h ac wo; intro ac wo h
  refine aW ?_
  refine hK1 _ _ ?_
  refine cz fun K2 hK2 => ?_
  refine rd0 h (dC uu28 rfl zz26 (by decide) rfl rfl (k' := 0)) rfl ?_; clear h ac wo; intro ac wo h
  refine rd1 h 1 rfl (aN aa26 zz26 rfl rfl rfl (v := t_0v) rfl) rfl ?_; clear h ac wo; intro ac wo h
  refine rd0 h (dC uu33 rfl zz26 (by decide) rfl rfl (k' := 0)) rfl ?_; clear h ac wo; intro ac wo h
  refine rd1 h 0 rfl (aN aa26 zz26 rfl rfl rfl (v := b_0v) rfl) rfl ?_; clear h ac wo; intro ac wo h
  refine jZ (vs := [t_0v, b_0v]) h (aS cc32 rfl) (fun w_ hB_ hS_ => ee t_0 t_0v b_0 b_0v ct_0 cb_0 w_ (ht_0v.below hB_) (hb_0v.below hB_)) rfl ?_; clear h ac wo; intro ac wo h
  refine rd0 h (ak rfl) rfl ?_; clear h ac wo; intro ac wo h
  refine gd (j := 5) (c := true) (b := (ax t_0 b_0)) (g := (ax t_0 b_0)) h rfl rfl g_t (fun hg => (Rd.of_nil (dC uu33 rfl zz26 (by decide) rfl rfl (k' := 1))).step) rfl ?_; clear h ac wo; intro ac wo h
  refine gd (j := 5) (c := true) (b := (ax t_0 b_0)) (g := (ax t_0 b_0)) h rfl rfl g_t (fun hg => (Rd.of_mem (i := 0) (aN aa26 zz26 (bh rfl hg) rfl rfl (v := b_1v) rfl) rfl).step) rfl ?_; clear h ac wo; intro ac wo h
  refine gd (j := 5) (c := true) (b := (ax t_0 b_0)) (g := (ax t_0 b_0)) h rfl rfl g_t (fun hg => (Rd.of_nil (dC uu28 rfl zz26 (by decide) rfl rfl (k' := 1))).step) rfl ?_; clear h ac wo; intro ac wo h
  refine gd (j := 5) (c := true) (b := (ax t_0 b_0)) (g := (ax t_0 b_0)) h rfl rfl g_t (fun hg => (Rd.of_mem (i := 1) (aN aa26 zz26 (bh rfl hg) rfl rfl (v := t_1v) rfl) rfl).step) rfl ?_; clear h ac wo; intro ac wo h
  refine gd (j := 5) (c := true) (b := (ax t_0 b_0)) (g := (ax t_0 b_0)) h rfl rfl g_t (fun hg => cP (vs := [b_1v, t_1v]) (aS cc41 (bG (bh rfl hg) (bG (bh rfl hg) rfl))) (fun w_ hB_ hS_ => gh b_1 b_1v t_1 t_1v cb_1 ct_1 w_ (hb_1v.below hB_) (ht_1v.below hB_))) rfl ?_; clear h ac wo; intro ac wo h
  refine rd0 h (fM rfl (fun e => (bh rfl e))) rfl ?_; clear h ac wo; intro ac wo h
  refine rd0 h (ak rfl) rfl ?_; clear h ac wo; intro ac wo h
  refine gd (j := 12) (c := true) (b := ((ax t_0 b_0) && (aE b_1 t_1))) (g := ((ax t_0 b_0) && (aE b_1 t_1))) h rfl rfl g_t (fun hg => (Rd.of_nil (dC uu28 rfl zz26 (by decide) rfl rfl (k' := 2))).step) rfl ?_; clear h ac wo; intro ac wo h
  refine gd (j := 12) (c := true) (b := ((ax t_0 b_0) && (aE b_1 t_1))) (g := ((ax t_0 b_0) && (aE b_1 t_1))) h rfl rfl g_t (fun hg => (Rd.of_mem (i := 1) (aN aa26 zz26 (bh rfl hg) rfl rfl (v := t_2v) rfl) rfl).step) rfl ?_; clear h ac wo; intro ac wo h
  refine gd (j := 12) (c := true) (b := ((ax t_0 b_0) && (aE b_1 t_1))) (g := ((ax t_0 b_0) && (aE b_1 t_1))) h rfl rfl g_t (fun hg => (Rd.of_nil (dC uu33 rfl zz26 (by decide) rfl rfl (k' := 1))).step) rfl ?_; clear h ac wo; intro ac wo h
  refine gd (j := 12) (c := true) (b := ((ax t_0 b_0) && (aE b_1 t_1))) (g := ((ax t_0 b_0) && (aE b_1 t_1))) h rfl rfl g_t (fun hg => (Rd.of_mem (i := 0) (aN aa26 zz26 (bh rfl hg) rfl rfl (v := b_1v) rfl) rfl).step) rfl ?_; clear h ac wo; intro ac wo h
  refine gd (j := 12) (c := true) (b := ((ax t_0 b_0) && (aE b_1 t_1))) (g := ((ax t_0 b_0) && (aE b_1 t_1))) h rfl rfl g_t (fun hg => cP (vs := [t_2v, b_1v]) (aS cc41 (bG (bh rfl hg) (bG (bh rfl hg) rfl))) (fun w_ hB_ hS_ => gh t_2 t_2v b_1 b_1v ct_2 cb_1 w_ (ht_2v.below hB_) (hb_1v.below hB_))) rfl ?_; clear h ac wo; intro ac wo h
  refine rd0 h (fM rfl (fun e => (bh rfl e))) rfl ?_; clear h ac wo; intro ac wo h
  refine rd0 h (aj rfl) rfl ?_; clear h ac wo; intro ac wo h
  refine aW ?_
  refine hK2 _ _ ?_
  replace h := h.sub (F' := [(4, (.bool (((ax t_0 b_0) && (aE b_1 t_1)) && (aE t_2 b_1))))]) ⟨rfl, trivial⟩
  refine dH ?_
  exact ret (rs := [.tmp 4]) h rfl (.tmp rfl .nil) rfl (h.retP rfl trivial)
theorem ef (t_0 : List Iv) (t_0v : Value) (t_1 : List Iv) (t_1v : Value) (t_2 : List Iv) (t_2v : Value) (b_0 : List Iv) (b_0v : Value) (b_1 : List Iv) (b_1v : Value) (ct_0 : Cn t_0) (ct_1 : Cn t_1) (ct_2 : Cn t_2) (cb_0 : Cn b_0) (cb_1 : Cn b_1) (w0 : World) (ht_0v : View w0 t_0v t_0) (ht_1v : View w0 t_1v t_1) (ht_2v : View w0 t_2v t_2) (hb_0v : View w0 b_0v b_0) (hb_1v : View w0 b_1v b_1) : Calls Tryz.prog 12 #[(.agg #[t_0v, t_1v, t_2v]), (.agg #[b_0v, b_1v])] w0 (RetP w0 (.bool (((ax t_0 b_0) && (aE b_1 t_1)) && (aE t_2 b_1))) True) := by
  refine enter (N := 24) (args := [(.agg #[t_0v, t_1v, t_2v]), (.agg #[b_0v, b_1v])]) Tryz.func12 rfl rfl ?_; intro ac h
  have is_t_0 := SL.is ht_0v.sl
  have is_t_1 := SL.is ht_1v.sl
  have is_t_2 := SL.is ht_2v.sl
  have is_b_0 := SL.is hb_0v.sl
  have is_b_1 := SL.is hb_1v.sl
  refine cz fun K1 hK1 => ?_
  refine bx h [t_0v, t_1v, t_2v] rfl rfl rfl ?_; clear h ac; intro b1 ac wo h
  refine bx h [b_0v, b_1v] rfl rfl rfl ?_; clear h ac wo; intro b2 ac wo h
  refine rd0 h (aj rfl (v := (.bool false))) rfl ?_; clear h ac wo; intro ac wo h
  refine aW ?_
  refine hK1 _ _ ?_
  refine cz fun K2 hK2 => ?_
  refine rd0 h (dC uu28 rfl zz26 (by decide) rfl rfl (k' := 0)) rfl ?_; clear h ac wo; intro ac wo h
  refine rd1 h 1 rfl (aN aa26 zz26 rfl rfl rfl (v := t_0v) rfl) rfl ?_; clear h ac wo; intro ac wo h
  refine rd0 h (dC uu33 rfl zz26 (by decide) rfl rfl (k' := 0)) rfl ?_; clear h ac wo; intro ac wo h
  refine rd1 h 0 rfl (aN aa26 zz26 rfl rfl rfl (v := b_0v) rfl) rfl ?_; clear h ac wo; intro ac wo h
  refine jZ (vs := [t_0v, b_0v]) h (aS cc32 rfl) (fun w_ hB_ hS_ => ee t_0 t_0v b_0 b_0v ct_0 cb_0 w_ (ht_0v.below hB_) (hb_0v.below hB_)) rfl ?_; clear h ac wo; intro ac wo h
  refine rd0 h (ak rfl) rfl ?_; clear h ac wo; intro ac wo h
  refine gd (j := 5) (c := true) (b := (ax t_0 b_0)) (g := (ax t_0 b_0)) h rfl rfl g_t (fun hg => (Rd.of_nil (dC uu33 rfl zz26 (by decide) rfl rfl (k' := 1))).step) rfl ?_; clear h ac wo; intro ac wo h
  refine gd (j := 5) (c := true) (b := (ax t_0 b_0)) (g := (ax t_0 b_0)) h rfl rfl g_t (fun hg => (Rd.of_mem (i := 0) (aN aa26 zz26 (bh rfl hg) rfl rfl (v := b_1v) rfl) rfl).step) rfl ?_; clear h ac wo; intro ac wo h
  refine gd (j := 5) (c := true) (b := (ax t_0 b_0)) (g := (ax t_0 b_0)) h rfl rfl g_t (fun hg => (Rd.of_nil (dC uu28 rfl zz26 (by decide) rfl rfl (k' := 1))).step) rfl ?_; clear h ac wo; intro ac wo h
  refine gd (j := 5) (c := true) (b := (ax t_0 b_0)) (g := (ax t_0 b_0)) h rfl rfl g_t (fun hg => (Rd.of_mem (i := 1) (aN aa26 zz26 (bh rfl hg) rfl rfl (v := t_1v) rfl) rfl).step) rfl ?_; clear h ac wo; intro ac wo h
  refine gd (j := 5) (c := true) (b := (ax t_0 b_0)) (g := (ax t_0 b_0)) h rfl rfl g_t (fun hg => cP (vs := [b_1v, t_1v]) (aS cc41 (bG (bh rfl hg) (bG (bh rfl hg) rfl))) (fun w_ hB_ hS_ => gh b_1 b_1v t_1 t_1v cb_1 ct_1 w_ (hb_1v.below hB_) (ht_1v.below hB_))) rfl ?_; clear h ac wo; intro ac wo h
  refine rd0 h (fM rfl (fun e => (bh rfl e))) rfl ?_; clear h ac wo; intro ac wo h
  refine rd0 h (ak rfl) rfl ?_; clear h ac wo; intro ac wo h
  refine gd (j := 12) (c := true) (b := ((ax t_0 b_0) && (aE b_1 t_1))) (g := ((ax t_0 b_0) && (aE b_1 t_1))) h rfl rfl g_t (fun hg => (Rd.of_nil (dC uu28 rfl zz26 (by decide) rfl rfl (k' := 2))).step) rfl ?_; clear h ac wo; intro ac wo h
  refine gd (j := 12) (c := true) (b := ((ax t_0 b_0) && (aE b_1 t_1))) (g := ((ax t_0 b_0) && (aE b_1 t_1))) h rfl rfl g_t (fun hg => (Rd.of_mem (i := 1) (aN aa26 zz26 (bh rfl hg) rfl rfl (v := t_2v) rfl) rfl).step) rfl ?_; clear h ac wo; intro ac wo h
  refine gd (j := 12) (c := true) (b := ((ax t_0 b_0) && (aE b_1 t_1))) (g := ((ax t_0 b_0) && (aE b_1 t_1))) h rfl rfl g_t (fun hg => (Rd.of_nil (dC uu33 rfl zz26 (by decide) rfl rfl (k' := 1))).step) rfl ?_; clear h ac wo; intro ac wo h
  refine gd (j := 12) (c := true) (b := ((ax t_0 b_0) && (aE b_1 t_1))) (g := ((ax t_0 b_0) && (aE b_1 t_1))) h rfl rfl g_t (fun hg => (Rd.of_mem (i := 0) (aN aa26 zz26 (bh rfl hg) rfl rfl (v := b_1v) rfl) rfl).step) rfl ?_; clear h ac wo; intro ac wo h
  refine gd (j := 12) (c := true) (b := ((ax t_0 b_0) && (aE b_1 t_1))) (g := ((ax t_0 b_0) && (aE b_1 t_1))) h rfl rfl g_t (fun hg => cP (vs := [t_2v, b_1v]) (aS cc41 (bG (bh rfl hg) (bG (bh rfl hg) rfl))) (fun w_ hB_ hS_ => gh t_2 t_2v b_1 b_1v ct_2 cb_1 w_ (ht_2v.below hB_) (hb_1v.below hB_))) rfl ?_; clear h ac wo; intro ac wo h
  refine rd0 h (fM rfl (fun e => (bh rfl e))) rfl ?_; clear h ac wo; intro ac wo h
  refine rd0 h (aj rfl) rfl ?_; clear h ac wo; intro ac wo h
  refine aW ?_
  refine hK2 _ _ ?_
  replace h := h.sub (F' := [(4, (.bool (((ax t_0 b_0) && (aE b_1 t_1)) && (aE t_2 b_1))))]) ⟨rfl, trivial⟩
  refine dH ?_
  exact ret (rs := [.tmp 4]) h rfl (.tmp rfl .nil) rfl (h.retP rfl trivial)
theorem dh (a_0 : List Iv) (a_0v : Value) (a_1 : List Iv) (a_1v : Value) (a_2 : List Iv) (a_2v : Value) (b_0 : List Iv) (b_0v : Value) (b_1 : List Iv) (b_1v : Value) (b_2 : List Iv) (b_2v : Value) (ca_0 : Cn a_0) (ca_1 : Cn a_1) (ca_2 : Cn a_2) (cb_0 : Cn b_0) (cb_1 : Cn b_1) (cb_2 : Cn b_2) (w0 : World) (ha_0v : View w0 a_0v a_0) (ha_1v : View w0 a_1v a_1) (ha_2v : View w0 a_2v a_2) (hb_0v : View w0 b_0v b_0) (hb_1v : View w0 b_1v b_1) (hb_2v : View w0 b_2v b_2) : Calls Tryz.prog 24 #[(.agg #[a_0v, a_1v, a_2v]), (.agg #[b_0v, b_1v, b_2v])] w0 (RetP w0 (.bool (((ax a_0 b_0) && (ax a_1 b_1)) && (ax a_2 b_2))) True) := by
  refine enter (N := 24) (args := [(.agg #[a_0v, a_1v, a_2v]), (.agg #[b_0v, b_1v, b_2v])]) Tryz.func24 rfl rfl ?_; intro ac h
  have is_a_0 := SL.is ha_0v.sl
  have is_a_1 := SL.is ha_1v.sl
  have is_a_2 := SL.is ha_2v.sl
  have is_b_0 := SL.is hb_0v.sl
  have is_b_1 := SL.is hb_1v.sl
  have is_b_2 := SL.is hb_2v.sl
  refine cz fun K1 hK1 => ?_
  refine bx h [a_0v, a_1v, a_2v] rfl rfl rfl ?_; clear h ac; intro b1 ac wo h
  refine bx h [b_0v, b_1v, b_2v] rfl rfl rfl ?_; clear h ac wo; intro b2 ac wo h
  refine rd0 h (aj rfl (v := (.bool false))) rfl ?_; clear h ac wo; intro ac wo h
  refine aW ?_
  refine hK1 _ _ ?_
  refine cz fun K2 hK2 => ?_
  refine rd0 h (dC uu28 rfl zz26 (by decide) rfl rfl (k' := 0)) rfl ?_; clear h ac wo; intro ac wo h
  refine rd1 h 1 rfl (aN aa26 zz26 rfl rfl rfl (v := a_0v) rfl) rfl ?_; clear h ac wo; intro ac wo h
  refine rd0 h (dC uu28 rfl zz26 (by decide) rfl rfl (k' := 0)) rfl ?_; clear h ac wo; intro ac wo h
  refine rd1 h 0 rfl (aN aa26 zz26 rfl rfl rfl (v := b_0v) rfl) rfl ?_; clear h ac wo; intro ac wo h
  refine jZ (vs := [a_0v, b_0v]) h (aS cc32 rfl) (fun w_ hB_ hS_ => ee a_0 a_0v b_0 b_0v ca_0 cb_0 w_ (ha_0v.below hB_) (hb_0v.below hB_)) rfl ?_; clear h ac wo; intro ac wo h
  refine rd0 h (ak rfl) rfl ?_; clear h ac wo; intro ac wo h
  refine gd (j := 5) (c := true) (b := (ax a_0 b_0)) (g := (ax a_0 b_0)) h rfl rfl g_t (fun hg => (Rd.of_nil (dC uu28 rfl zz26 (by decide) rfl rfl (k' := 1))).step) rfl ?_; clear h ac wo; intro ac wo h
  refine gd (j := 5) (c := true) (b := (ax a_0 b_0)) (g := (ax a_0 b_0)) h rfl rfl g_t (fun hg => (Rd.of_mem (i := 1) (aN aa26 zz26 (bh rfl hg) rfl rfl (v := a_1v) rfl) rfl).step) rfl ?_; clear h ac wo; intro ac wo h
  refine gd (j := 5) (c := true) (b := (ax a_0 b_0)) (g := (ax a_0 b_0)) h rfl rfl g_t (fun hg => (Rd.of_nil (dC uu28 rfl zz26 (by decide) rfl rfl (k' := 1))).step) rfl ?_; clear h ac wo; intro ac wo h
  refine gd (j := 5) (c := true) (b := (ax a_0 b_0)) (g := (ax a_0 b_0)) h rfl rfl g_t (fun hg => (Rd.of_mem (i := 0) (aN aa26 zz26 (bh rfl hg) rfl rfl (v := b_1v) rfl) rfl).step) rfl ?_; clear h ac wo; intro ac wo h
  refine gd (j := 5) (c := true) (b := (ax a_0 b_0)) (g := (ax a_0 b_0)) h rfl rfl g_t (fun hg => cP (vs := [a_1v, b_1v]) (aS cc32 (bG (bh rfl hg) (bG (bh rfl hg) rfl))) (fun w_ hB_ hS_ => ee a_1 a_1v b_1 b_1v ca_1 cb_1 w_ (ha_1v.below hB_) (hb_1v.below hB_))) rfl ?_; clear h ac wo; intro ac wo h
  refine rd0 h (fM rfl (fun e => (bh rfl e))) rfl ?_; clear h ac wo; intro ac wo h
  refine rd0 h (ak rfl) rfl ?_; clear h ac wo; intro ac wo h
  refine gd (j := 12) (c := true) (b := ((ax a_0 b_0) && (ax a_1 b_1))) (g := ((ax a_0 b_0) && (ax a_1 b_1))) h rfl rfl g_t (fun hg => (Rd.of_nil (dC uu28 rfl zz26 (by decide) rfl rfl (k' := 2))).step) rfl ?_; clear h ac wo; intro ac wo h
  refine gd (j := 12) (c := true) (b := ((ax a_0 b_0) && (ax a_1 b_1))) (g := ((ax a_0 b_0) && (ax a_1 b_1))) h rfl rfl g_t (fun hg => (Rd.of_mem (i := 1) (aN aa26 zz26 (bh rfl hg) rfl rfl (v := a_2v) rfl) rfl).step) rfl ?_; clear h ac wo; intro ac wo h
  refine gd (j := 12) (c := true) (b := ((ax a_0 b_0) && (ax a_1 b_1))) (g := ((ax a_0 b_0) && (ax a_1 b_1))) h rfl rfl g_t (fun hg => (Rd.of_nil (dC uu28 rfl zz26 (by decide) rfl rfl (k' := 2))).step) rfl ?_; clear h ac wo; intro ac wo h
  refine gd (j := 12) (c := true) (b := ((ax a_0 b_0) && (ax a_1 b_1))) (g := ((ax a_0 b_0) && (ax a_1 b_1))) h rfl rfl g_t (fun hg => (Rd.of_mem (i := 0) (aN aa26 zz26 (bh rfl hg) rfl rfl (v := b_2v) rfl) rfl).step) rfl ?_; clear h ac wo; intro ac wo h
  refine gd (j := 12) (c := true) (b := ((ax a_0 b_0) && (ax a_1 b_1))) (g := ((ax a_0 b_0) && (ax a_1 b_1))) h rfl rfl g_t (fun hg => cP (vs := [a_2v, b_2v]) (aS cc32 (bG (bh rfl hg) (bG (bh rfl hg) rfl))) (fun w_ hB_ hS_ => ee a_2 a_2v b_2 b_2v ca_2 cb_2 w_ (ha_2v.below hB_) (hb_2v.below hB_))) rfl ?_; clear h ac wo; intro ac wo h
  refine rd0 h (fM rfl (fun e => (bh rfl e))) rfl ?_; clear h ac wo; intro ac wo h
  refine rd0 h (aj rfl) rfl ?_; clear h ac wo; intro ac wo h
  refine aW ?_
  refine hK2 _ _ ?_
  replace h := h.sub (F' := [(4, (.bool (((ax a_0 b_0) && (ax a_1 b_1)) && (ax a_2 b_2))))]) ⟨rfl, trivial⟩
  refine dH ?_
  exact ret (rs := [.tmp 4]) h rfl (.tmp rfl .nil) rfl (h.retP rfl trivial)
theorem iS (b_0 : List Iv) (b_0v : Value) (b_1 : List Iv) (b_1v : Value) (cb_0 : Cn b_0) (cb_1 : Cn b_1) (w0 : World) (hb_0v : View w0 b_0v b_0) (hb_1v : View w0 b_1v b_1) : Calls Tryz.prog 54 #[(.agg #[b_0v, b_1v])] w0 (RetR w0 66 (an b_0 b_1) True) := by
  refine enter (N := 8) (args := [(.agg #[b_0v, b_1v])]) Tryz.func54 rfl rfl ?_; intro ac h
  have is_b_0 := SL.is hb_0v.sl
  have is_b_1 := SL.is hb_1v.sl
  refine cz fun K1 hK1 => ?_
  refine bx h [b_0v, b_1v] rfl rfl rfl ?_; clear h ac; intro b1 ac wo h
  refine rd0 h (aj rfl (v := (.slice none 0 0))) rfl ?_; clear h ac wo; intro ac wo h
  refine aW ?_
  refine hK1 _ _ ?_
  refine cz fun K2 hK2 => ?_
  refine rd0 h (dC uu33 rfl zz26 (by decide) rfl rfl (k' := 0)) rfl ?_; clear h ac wo; intro ac wo h
  refine rd1 h 0 rfl (aN aa26 zz26 rfl rfl rfl (v := b_0v) rfl) rfl ?_; clear h ac wo; intro ac wo h
  refine rd0 h (dC uu33 rfl zz26 (by decide) rfl rfl (k' := 1)) rfl ?_; clear h ac wo; intro ac wo h
  refine rd1 h 0 rfl (aN aa26 zz26 rfl rfl rfl (v := b_1v) rfl) rfl ?_; clear h ac wo; intro ac wo h
  refine eU (vs := [b_0v, b_1v]) (xs := (an b_0 b_1)) h (aS Tryz.call34 rfl) (fun w_ hB_ hS_ => fT b_0 b_0v b_1 b_1v cb_0 cb_1 w_ (hb_0v.below hB_) (hb_1v.below hB_)) rfl ?_; clear h ac wo; intro sv1 ac wo _ h
  have is_sv1 := SL.is (h.row_sl 0 rfl)
  refine rd0 h (aj rfl) rfl ?_; clear h ac wo; intro ac wo h
  refine aW ?_
  refine hK2 _ _ ?_
  refine dH ?_
  exact ret (rs := [.tmp 2]) h rfl (.tmp rfl .nil) rfl (h.retR 0 rfl trivial)
theorem kw (t_0 : List Iv) (t_0v : Value) (t_1 : List Iv) (t_1v : Value) (t_2 : List Iv) (t_2v : Value) (ct_0 : Cn t_0) (ct_1 : Cn t_1) (ct_2 : Cn t_2) (w0 : World) (ht_0v : View w0 t_0v t_0) (ht_1v : View w0 t_1v t_1) (ht_2v : View w0 t_2v t_2) : Calls Tryz.prog 33 #[(.agg #[t_0v, t_1v, t_2v])] w0 (RetR w0 66 (an t_2 t_1) True) := by
  refine enter (N := 8) (args := [(.agg #[t_0v, t_1v, t_2v])]) Tryz.func33 rfl rfl ?_; intro ac h
  have is_t_0 := SL.is ht_0v.sl
  have is_t_1 := SL.is ht_1v.sl
  have is_t_2 := SL.is ht_2v.sl
  refine cz fun K1 hK1 => ?_
  refine bx h [t_0v, t_1v, t_2v] rfl rfl rfl ?_; clear h ac; intro b1 ac wo h
  refine rd0 h (aj rfl (v := (.slice none 0 0))) rfl ?_; clear h ac wo; intro ac wo h
  refine aW ?_
  refine hK1 _ _ ?_
  refine cz fun K2 hK2 => ?_
  refine rd0 h (dC uu28 rfl zz26 (by decide) rfl rfl (k' := 2)) rfl ?_; clear h ac wo; intro ac wo h
  refine rd1 h 0 rfl (aN aa26 zz26 rfl rfl rfl (v := t_2v) rfl) rfl ?_; clear h ac wo; intro ac wo h
  refine rd0 h (dC uu28 rfl zz26 (by decide) rfl rfl (k' := 1)) rfl ?_; clear h ac wo; intro ac wo h
  refine rd1 h 0 rfl (aN aa26 zz26 rfl rfl rfl (v := t_1v) rfl) rfl ?_; clear h ac wo; intro ac wo h
  refine eU (vs := [t_2v, t_1v]) (xs := (an t_2 t_1)) h (aS Tryz.call34 rfl) (fun w_ hB_ hS_ => fT t_2 t_2v t_1 t_1v ct_2 ct_1 w_ (ht_2v.below hB_) (ht_1v.below hB_)) rfl ?_; clear h ac wo; intro sv1 ac wo _ h
  have is_sv1 := SL.is (h.row_sl 0 rfl)
  refine rd0 h (aj rfl) rfl ?_; clear h ac wo; intro ac wo h
  refine aW ?_
  refine hK2 _ _ ?_
  refine dH ?_
  exact ret (rs := [.tmp 2]) h rfl (.tmp rfl .nil) rfl (h.retR 0 rfl trivial)
end Go.Sx
