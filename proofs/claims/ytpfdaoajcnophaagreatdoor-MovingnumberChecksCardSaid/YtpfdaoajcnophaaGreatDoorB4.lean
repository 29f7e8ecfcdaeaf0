/- A part of the proof of movingnumberChecks. -/
import Derived.Test.YtpfdaoajcnophaaGreatDoorProg
import Derived.Test.YtpfdaoajcnophaaGreatDoorB3
set_option linter.unusedVariables false
set_option linter.unusedSimpArgs false
open Go.Proofs.Tryz renaming runUnderlying341 → uu341, sizeOf343 → zz343, isAgg343 → aa343, runUnderlying343 → uu343, runUnderlying260 → uu260, runUnderlying2 → uu2, call202 → cc202, call273 → cc273, call275 → cc275
namespace Go.Sx
open Go Go.RowKit Go.Proofs
set_option maxRecDepth 100000
set_option maxHeartbeats 40000000
attribute [local irreducible] Code.wp wpList Rd Step ObS Ent
theorem o5 {w0:World} {a b s j X Z:Nat} {sv3:Value} {sv5:Value} {sv6:Value} {sv8:Value} {sv9:Value} (hda:dn a≤17592186044416) (hdb:dn b≤17592186044416) (hdl:dn b≤dn a) (hn2:2≤dn b) (hs31:s≤31) (hs32:s≤32) (hYn:b*2 ^ s < 4294967296 ^ dn b) (hYh:4294967296 ^ dn b≤2*(b*2 ^ s)) (hJ:j+1≤dn a+1 - dn b) (D:DS X (b*2 ^ s) (dn b) j) {ac:Act} {wo:World} (h:St w0 304 [(9,sv8),(12,(.int .i64 ((s:Nat):Int))),(13,sv6),(14,(.int .i64 (((dn b):Nat):Int))),(15,sv9),(16,(.int .i64 ((j:Nat):Int))),(18,(.int .u64 ((((X / 4294967296 ^ (j+dn b - 1)) / ((b*2 ^ s) / 4294967296 ^ (dn b - 1))):Nat):Int))),(19,(.int .u64 ((((X / 4294967296 ^ (j+dn b - 1)) % ((b*2 ^ s) / 4294967296 ^ (dn b - 1))):Nat):Int)))] [.row (α:=Nat) 343 sv9 (dgs (dn a+1 - dn b) Z),.row (α:=Nat) 343 sv8 (dgs (dn b) (b*2 ^ s)),.row (α:=Nat) 343 sv6 (dgs (dn a+1) X),.row (α:=Nat) 343 sv5 (dgs (dn a) a),.row (α:=Nat) 343 sv3 (dgs (dn b) b)] ac wo) {K27:Act→World→Prop} {Q:Exit→Act→World→Prop} (hK27:∀ a_ w_,(∃ (g:Nat),((X / 4294967296 ^ j / (b*2 ^ s))≤g)∧(g≤(X / 4294967296 ^ j / (b*2 ^ s))+1∧g < 4294967296)∧St w0 304 [(9,sv8),(12,(.int .i64 ((s:Nat):Int))),(13,sv6),(14,(.int .i64 (((dn b):Nat):Int))),(15,sv9),(16,(.int .i64 ((j:Nat):Int))),(18,(.int .u64 ((g:Nat):Int)))] [.row (α:=Nat) 343 sv9 (dgs (dn a+1 - dn b) Z),.row (α:=Nat) 343 sv8 (dgs (dn b) (b*2 ^ s)),.row (α:=Nat) 343 sv6 (dgs (dn a+1) X),.row (α:=Nat) 343 sv5 (dgs (dn a) a),.row (α:=Nat) 343 sv3 (dgs (dn b) b)] a_ w_)→K27 a_ w_):(subc [1,1,1,1,1,1,1,1,1,1,0,1,0,0,1,0,0,1,1,0] (Tryz.f203.body.getD .skip)).wp Tryz.prog (Exit.then K27 Q) ac wo:=by
 have hv1:=D.v1_lt
 have hv1h:=D.v1_hi
 have hhi:=D.hi_lt
 refine uT ?_
 refine wp_loop_ghost (fun n_ a_ w_=>∃ (g:Nat) (r:Nat),n_=1*g∧(g*((b*2 ^ s) / 4294967296 ^ (dn b - 1))+r=(X / 4294967296 ^ (j+dn b - 1)))∧((X / 4294967296 ^ j / (b*2 ^ s))≤g)∧(r < 4294967296)∧(g < 18446744073709551616)∧St w0 304 [(9,sv8),(12,(.int .i64 ((s:Nat):Int))),(13,sv6),(14,(.int .i64 (((dn b):Nat):Int))),(15,sv9),(16,(.int .i64 ((j:Nat):Int))),(18,(.int .u64 ((g:Nat):Int))),(19,(.int .u64 ((r:Nat):Int)))] [.row (α:=Nat) 343 sv9 (dgs (dn a+1 - dn b) Z),.row (α:=Nat) 343 sv8 (dgs (dn b) (b*2 ^ s)),.row (α:=Nat) 343 sv6 (dgs (dn a+1) X),.row (α:=Nat) 343 sv5 (dgs (dn a) a),.row (α:=Nat) 343 sv3 (dgs (dn b) b)] a_ w_) _ ⟨((X / 4294967296 ^ (j+dn b - 1)) / ((b*2 ^ s) / 4294967296 ^ (dn b - 1))),((X / 4294967296 ^ (j+dn b - 1)) % ((b*2 ^ s) / 4294967296 ^ (dn b - 1))),rfl,(Nat.div_add_mod' _ _),D.guess0,(Nat.lt_trans (Nat.mod_lt _ og) hv1),(by have:=Nat.div_le_self (X / 4294967296 ^ (j+dn b - 1)) ((b*2 ^ s) / 4294967296 ^ (dn b - 1)); omega),h.re [0,1,2,3,4]⟩ ?_
 clear h ac wo; rintro _ ac wo ⟨g,r,rfl,hgs,hgq,hr,hgu,h⟩
 refine uR fun K28 hK28=>?_
 refine uR fun K29 hK29=>?_
 refine fU mixed [dv _,dv _,dv _,dv _,dv _,dv _,dv _,dv _,dw _ [1],dv _,dv _,dv _,dv _,dv _,dv _,dv _,dv _,dv _,dv _,dw _ [2],dv _,dv _,dv _,dv _] [⟨_,[]⟩,⟨_,[]⟩,⟨_,[]⟩,⟨_,[]⟩,⟨_,[]⟩] h rfl (by kernel_rfl) ⟨fun _ _=>om rfl,fun _ _=>bk (ym rfl rfl),fun _ _=>om rfl,fun _ _=>og2 rfl rfl rfl rfl (fun hg=>Rd.step (ay rfl)),fun _ _=>og2 rfl rfl rfl rfl (fun hg=>Rd.step (ay rfl)),fun _ _=>og2 rfl rfl rfl rfl (fun hg=>Rd.step (ay rfl)),fun _ _=>og2 rfl rfl rfl rfl (fun hg=>Rd.step (fv (gC rfl hg) rfl (r:=(((dn b - 2):Nat):Int)) (by simp only [Bool.and_eq_true,decide_eq_true_eq,beq_iff_eq,Bool.true_and,Bool.not_eq_true',decide_eq_false_iff_not] at hg; rw [IntKind.wrap_i64]; omega))),fun _ _=>og2 rfl rfl rfl rfl (fun hg=>Rd.step (iT (i:=(dn b - 2)) uu341 zz343 (gC rfl hg) (gC rfl hg) (h.dnn 1 rfl (by simp only [Bool.and_eq_true,decide_eq_true_eq,beq_iff_eq,Bool.true_and,Bool.not_eq_true',decide_eq_false_iff_not] at hg; omega)) (by simp only [Bool.and_eq_true,decide_eq_true_eq,beq_iff_eq,Bool.true_and,Bool.not_eq_true',decide_eq_false_iff_not] at hg; omega))),fun _ _=>og2 rfl rfl rfl rfl (fun hg=>Rd.step (iM (k:=0) aa343 zz343 (d9 (n:=(dn b)) (by simp only [Bool.and_eq_true,decide_eq_true_eq,beq_iff_eq,Bool.true_and,Bool.not_eq_true',decide_eq_false_iff_not] at hg; omega)) (gC rfl hg) (Nat.add_zero _) rfl rfl (v:=(.int .u32 ((((b*2 ^ s) / 4294967296 ^ (dn b - 2) % 4294967296):Nat):Int))) rfl)),fun _ _=>og2 rfl rfl rfl rfl (fun hg=>Rd.step (a8 uu343 uu260 (gC rfl hg) (r:=((((b*2 ^ s) / 4294967296 ^ (dn b - 2) % 4294967296):Nat):Int)) (by simp only [Bool.and_eq_true,decide_eq_true_eq,beq_iff_eq,Bool.true_and,Bool.not_eq_true',decide_eq_false_iff_not] at hg; rw [IntKind.wrap_u64]; omega))),fun _ _=>og2 rfl rfl rfl rfl (fun hg=>Rd.step (lD (gC rfl hg) (gC rfl hg) (r:=((g*((b*2 ^ s) / 4294967296 ^ (dn b - 2) % 4294967296):Nat):Int)) (by simp only [Bool.and_eq_true,decide_eq_true_eq,beq_iff_eq,Bool.true_and,Bool.not_eq_true',decide_eq_false_iff_not] at hg; have:=ow (x:=g) (y:=((b*2 ^ s) / 4294967296 ^ (dn b - 2) % 4294967296)) og (Nat.mod_lt _ (by decide)); rw [IntKind.wrap_u64]; omega))),fun _ _=>og2 rfl rfl rfl rfl (fun hg=>Rd.step (ay rfl)),fun _ _=>og2 rfl rfl rfl rfl (fun hg=>Rd.step (sS (gC rfl hg) rfl (r:=(((r*2 ^ 32):Nat):Int)) (by decide) (by decide) (qF rfl og))),fun _ _=>og2 rfl rfl rfl rfl (fun hg=>Rd.step (ay rfl)),fun _ _=>og2 rfl rfl rfl rfl (fun hg=>Rd.step (ay rfl)),fun _ _=>og2 rfl rfl rfl rfl (fun hg=>Rd.step (ay rfl)),fun _ _=>og2 rfl rfl rfl rfl (fun hg=>Rd.step (eV (gC rfl hg) (gC rfl hg) (r:=((j+(dn b):Nat):Int)) (by simp only [Bool.and_eq_true,decide_eq_true_eq,beq_iff_eq,Bool.true_and,Bool.not_eq_true',decide_eq_false_iff_not] at hg; rw [IntKind.wrap_i64]; omega))),fun _ _=>og2 rfl rfl rfl rfl (fun hg=>Rd.step (fv (gC rfl hg) rfl (r:=(((j+dn b - 2):Nat):Int)) (by simp only [Bool.and_eq_true,decide_eq_true_eq,beq_iff_eq,Bool.true_and,Bool.not_eq_true',decide_eq_false_iff_not] at hg; rw [IntKind.wrap_i64]; omega))),fun _ _=>og2 rfl rfl rfl rfl (fun hg=>Rd.step (iT (i:=(j+dn b - 2)) uu341 zz343 (gC rfl hg) (gC rfl hg) (h.dnn 2 rfl (by simp only [Bool.and_eq_true,decide_eq_true_eq,beq_iff_eq,Bool.true_and,Bool.not_eq_true',decide_eq_false_iff_not] at hg; omega)) (by simp only [Bool.and_eq_true,decide_eq_true_eq,beq_iff_eq,Bool.true_and,Bool.not_eq_true',decide_eq_false_iff_not] at hg; omega))),fun _ _=>og2 rfl rfl rfl rfl (fun hg=>Rd.step (iM (k:=0) aa343 zz343 (d9 (n:=(dn a+1)) (by simp only [Bool.and_eq_true,decide_eq_true_eq,beq_iff_eq,Bool.true_and,Bool.not_eq_true',decide_eq_false_iff_not] at hg; omega)) (gC rfl hg) (Nat.add_zero _) rfl rfl (v:=(.int .u32 (((X / 4294967296 ^ (j+dn b - 2) % 4294967296):Nat):Int))) rfl)),fun _ _=>og2 rfl rfl rfl rfl (fun hg=>Rd.step (a8 uu343 uu260 (gC rfl hg) (r:=(((X / 4294967296 ^ (j+dn b - 2) % 4294967296):Nat):Int)) (by simp only [Bool.and_eq_true,decide_eq_true_eq,beq_iff_eq,Bool.true_and,Bool.not_eq_true',decide_eq_false_iff_not] at hg; rw [IntKind.wrap_u64]; omega))),fun _ _=>og2 rfl rfl rfl rfl (fun hg=>Rd.step (uo (gC rfl hg) (gC rfl hg) (r:=(((r*4294967296+(X / 4294967296 ^ (j+dn b - 2) % 4294967296)):Nat):Int)) (j6 (k:=32) _ _ og (Nat.mod_lt _ (by decide)) og))),fun _ _=>og2 rfl rfl rfl rfl (fun hg=>Rd.step (r_gtr (gC rfl hg) (gC rfl hg))),fun _ _=>bk (r_or rfl (fun e=>(gC rfl (notI e)))),trivial⟩ ?_
 clear h ac wo; intro ξ ac wo hφ h
 replace h:St w0 304 [(9,sv8),(12,(.int .i64 ((s:Nat):Int))),(13,sv6),(14,(.int .i64 (((dn b):Nat):Int))),(15,sv9),(16,(.int .i64 ((j:Nat):Int))),(18,(.int .u64 ((g:Nat):Int))),(19,(.int .u64 ((r:Nat):Int))),(154,(.bool ((decide (((g:Nat):Int)≥4294967296)) || (decide (((g*((b*2 ^ s) / 4294967296 ^ (dn b - 2) % 4294967296):Nat):Int)>(((r*4294967296+(X / 4294967296 ^ (j+dn b - 2) % 4294967296)):Nat):Int))))))] [.row (α:=Nat) 343 sv9 (dgs (dn a+1 - dn b) Z),.row (α:=Nat) 343 sv8 (dgs (dn b) (b*2 ^ s)),.row (α:=Nat) 343 sv6 (dgs (dn a+1) X),.row (α:=Nat) 343 sv5 (dgs (dn a) a),.row (α:=Nat) 343 sv3 (dgs (dn b) b)] ac wo:=h.sub ⟨rfl,rfl,rfl,rfl,rfl,rfl,rfl,rfl,rfl,trivial⟩
 clear hφ ξ
 refine hK29 _ _ ?_
 refine ku h rfl (fun hc5=>?_) (fun hc5=>?_)
 ·
  have hq:=hc5; simp only [Bool.or_eq_true,decide_eq_true_eq] at hq
  have hstep:=D.step hgs hgq (hq.imp (fun h1=>by omega) (fun h1=>Int.ofNat_lt.1 h1))
  refine gz h <| gS <| gx hK28 <| gB <| gr fun K30 hK30=>g0 (ay rfl) rfl <| g0 (fv rfl rfl (r:=(((g - 1):Nat):Int)) (by rw [IntKind.wrap_u64]; omega)) rfl <| g0 (aA rfl) rfl <| gn hK30 <| gr fun K31 hK31=>g0 (ay rfl) rfl <| g0 (ay rfl) rfl <| g0 (ay rfl) rfl <| g0 (fv rfl rfl (r:=(((dn b - 1):Nat):Int)) (by rw [IntKind.wrap_i64]; omega)) rfl ?_; clear h ac wo; intro ac wo h
  refine rd0 h (iT (i:=(dn b - 1)) uu341 zz343 rfl rfl (h.dnn 1 rfl og) og) rfl <| g1 1 rfl (iM (k:=0) aa343 zz343 D.y_top rfl (Nat.add_zero _) rfl rfl (v:=(.int .u32 ((((b*2 ^ s) / 4294967296 ^ (dn b - 1)):Nat):Int))) rfl) rfl <| g0 (a8 uu343 uu260 rfl (r:=((((b*2 ^ s) / 4294967296 ^ (dn b - 1)):Nat):Int)) (by rw [IntKind.wrap_u64]; omega)) rfl <| g0 (eV rfl rfl (r:=((r+((b*2 ^ s) / 4294967296 ^ (dn b - 1)):Nat):Int)) (by rw [IntKind.wrap_u64]; omega)) rfl <| g0 (aA rfl) rfl <| gn hK31 <| gr fun K32 hK32=>g0 (ay rfl) rfl <| g0 (ym rfl rfl) rfl <| gn hK32 ?_; clear h ac wo; intro ac wo h
  refine ku h rfl (fun hc6=>?_) (fun hc6=>?_)
  ·
   have hd6:=of_decide_eq_true hc6
   have hdone:=D.done hstep.2.2 (.inr og)
   have hge0:=hstep.1
   refine kd ?_
   exact hK27 _ _ ⟨(g - 1),hge0,hdone,h.re [0,1,2,3,4]⟩
  ·
   have hd6:=of_decide_eq_false hc6
   refine nJ ?_
   refine b_norm ?_
   exact az ⟨_,og,(g - 1),(r+((b*2 ^ s) / 4294967296 ^ (dn b - 1))),rfl,hstep.2.2,hstep.1,og,og,h.re [0,1,2,3,4]⟩
 ·
  have hq:=hc5; simp only [Bool.or_eq_false_iff,decide_eq_false_iff_not] at hq
  have hdone:=D.done hgs (.inl ⟨by omega,Nat.le_of_not_lt fun h1=>hq.2 (Int.ofNat_lt.2 h1)⟩)
  have hge0:=hgq
  refine kd ?_
  exact hK27 _ _ ⟨g,hge0,hdone,h.re [0,1,2,3,4]⟩
end Go.Sx
namespace Go.Sx
open Go Go.RowKit Go.Proofs
set_option maxRecDepth 100000
set_option maxHeartbeats 40000000
attribute [local irreducible] Code.wp wpList Rd Step ObS Ent
theorem o4 {w0:World} {a b s j X g Z:Nat} {sv3:Value} {sv5:Value} {sv6:Value} {sv8:Value} {sv9:Value} (hda:dn a≤17592186044416) (hdb:dn b≤17592186044416) (hdl:dn b≤dn a) (hn2:2≤dn b) (hs31:s≤31) (hs32:s≤32) (hYn:b*2 ^ s < 4294967296 ^ dn b) (hYh:4294967296 ^ dn b≤2*(b*2 ^ s)) (hJ:j+1≤dn a+1 - dn b) (D:DS X (b*2 ^ s) (dn b) j) (hge:(X / 4294967296 ^ j / (b*2 ^ s))≤g) (hgd:g≤(X / 4294967296 ^ j / (b*2 ^ s))+1∧g < 4294967296) {ac:Act} {wo:World} (h:St w0 304 [(9,sv8),(12,(.int .i64 ((s:Nat):Int))),(13,sv6),(14,(.int .i64 (((dn b):Nat):Int))),(15,sv9),(16,(.int .i64 ((j:Nat):Int))),(18,(.int .u64 ((g:Nat):Int))),(20,(.int .i64 0)),(21,(.int .u64 0))] [.row (α:=Nat) 343 sv9 (dgs (dn a+1 - dn b) Z),.row (α:=Nat) 343 sv8 (dgs (dn b) (b*2 ^ s)),.row (α:=Nat) 343 sv6 (dgs (dn a+1) X),.row (α:=Nat) 343 sv5 (dgs (dn a) a),.row (α:=Nat) 343 sv3 (dgs (dn b) b)] ac wo) {K34:Act→World→Prop} {Q:Exit→Act→World→Prop} (hK34:∀ a_ w_,(St w0 304 [(9,sv8),(12,(.int .i64 ((s:Nat):Int))),(13,sv6),(14,(.int .i64 (((dn b):Nat):Int))),(15,sv9),(16,(.int .i64 ((j:Nat):Int))),(18,(.int .u64 ((g:Nat):Int))),(20,(.int .i64 (((bw (X / 4294967296 ^ j+4294967296 ^ (dn b+1)) (g*(b*2 ^ s)) (dn b)):Nat):Int))),(21,(.int .u64 (((mc 0 g (b*2 ^ s) (dn b)):Nat):Int)))] [.row (α:=Nat) 343 sv9 (dgs (dn a+1 - dn b) Z),.row (α:=Nat) 343 sv8 (dgs (dn b) (b*2 ^ s)),.row (α:=Nat) 343 sv6 (dgs (dn a+1) (mx X (j+(dn b)) ((X / 4294967296 ^ j+4294967296 ^ (dn b+1) - g*(b*2 ^ s))*4294967296 ^ j+X % 4294967296 ^ j))),.row (α:=Nat) 343 sv5 (dgs (dn a) a),.row (α:=Nat) 343 sv3 (dgs (dn b) b)] a_ w_)→K34 a_ w_):(subc [1,1,1,1,1,1,1,1,1,1,0,1,0,0,1,0,0,1,1,1,1,0] (Tryz.f203.body.getD .skip)).wp Tryz.prog (Exit.then K34 Q) ac wo:=by
 refine gz h <| gr fun K35 hK35=>g0 (ay rfl) rfl <| g0 (ay rfl) rfl <| gn hK35 <| gB ?_; clear h ac wo; intro ac wo h
 replace h:=h.rowEq 2 rfl (by show _=dgs _ (mx X j _); rw [sB rfl]:(dgs (dn a+1) X)=(dgs (dn a+1) (mx X (j+0) ((X / 4294967296 ^ j+4294967296 ^ (dn b+1) - g*(b*2 ^ s))*4294967296 ^ j+X % 4294967296 ^ j))))
 refine wp_loop_ghost (fun n_ a_ w_=>∃ (i:Nat),n_=dn b - i∧(i≤dn b)∧St w0 304 [(9,sv8),(12,(.int .i64 ((s:Nat):Int))),(13,sv6),(14,(.int .i64 (((dn b):Nat):Int))),(15,sv9),(16,(.int .i64 ((j:Nat):Int))),(18,(.int .u64 ((g:Nat):Int))),(167,(.int .i64 (((dn b):Nat):Int))),(168,(.int .i64 ((i:Nat):Int))),(20,(.int .i64 (((bw (X / 4294967296 ^ j+4294967296 ^ (dn b+1)) (g*(b*2 ^ s)) i):Nat):Int))),(21,(.int .u64 (((mc 0 g (b*2 ^ s) i):Nat):Int)))] [.row (α:=Nat) 343 sv9 (dgs (dn a+1 - dn b) Z),.row (α:=Nat) 343 sv8 (dgs (dn b) (b*2 ^ s)),.row (α:=Nat) 343 sv6 (dgs (dn a+1) (mx X (j+i) ((X / 4294967296 ^ j+4294967296 ^ (dn b+1) - g*(b*2 ^ s))*4294967296 ^ j+X % 4294967296 ^ j))),.row (α:=Nat) 343 sv5 (dgs (dn a) a),.row (α:=Nat) 343 sv3 (dgs (dn b) b)] a_ w_) _ ⟨0,rfl,og,(h.pick [0,1,2,3,4] (by decide)).sub ⟨rfl,rfl,rfl,rfl,rfl,rfl,rfl,rfl,rfl,(by rw [aab]; rfl),(by rw [yI]; rfl),trivial⟩⟩ ?_
 clear h ac wo; rintro _ ac wo ⟨i,rfl,hi,h⟩
 refine gz h <| gr fun K36 hK36=>g0 (jT rfl rfl) rfl <| gn hK36 <| gq fun K37 hK37=>?_; clear h ac wo; intro ac wo h
 refine ku h rfl (fun hc7=>?_) (fun hc7=>?_)
 ·
  have hd7:=of_decide_eq_true hc7
  refine gz h <| gS <| gx hK37 <| gq fun K38 hK38=>gB <| gr fun K39 hK39=>g0 (ay rfl) rfl <| g0 (aA rfl) rfl <| gn hK39 <| gr fun K40 hK40=>?_; clear h ac wo; intro ac wo h
  have hlt:i < dn b:=by omega
  have hml:=ow (x:=g) (y:=b*2 ^ s / 4294967296 ^ i % 4294967296) hgd.2 (Nat.mod_lt _ (by decide))
  have hcl:=mc_lt (p:=0) (b:=b*2 ^ s) (k:=i) hgd.2
  have hpr:=D.prod_step g i
  have hbl:=aad (X / 4294967296 ^ j+4294967296 ^ (dn b+1)) (g*(b*2 ^ s)) i
  refine rd0 h (ay rfl) rfl <| g0 (ay rfl) rfl <| g0 (ay rfl) rfl <| g0 (ay rfl) rfl ?_; clear h ac wo; intro ac wo h
  refine rd0 h (iT (i:=i) uu341 zz343 rfl rfl (h.dnn 1 rfl og) og) rfl <| g1 1 rfl (iM (k:=0) aa343 zz343 (d9 (n:=(dn b)) og) rfl (Nat.add_zero _) rfl rfl (v:=(.int .u32 ((((b*2 ^ s) / 4294967296 ^ i % 4294967296):Nat):Int))) rfl) rfl <| g0 (a8 uu343 uu260 rfl (r:=((((b*2 ^ s) / 4294967296 ^ i % 4294967296):Nat):Int)) (by rw [IntKind.wrap_u64]; omega)) rfl <| g0 (lD rfl rfl (r:=((g*((b*2 ^ s) / 4294967296 ^ i % 4294967296):Nat):Int)) (by rw [IntKind.wrap_u64]; omega)) rfl <| g0 (eV rfl rfl (r:=(((mc 0 g (b*2 ^ s) i)+(g*((b*2 ^ s) / 4294967296 ^ i % 4294967296)):Nat):Int)) (by rw [IntKind.wrap_u64]; omega)) rfl <| g0 (aA rfl) rfl <| gn hK40 <| gr fun K41 hK41=>g0 (ay rfl) rfl <| g0 (ay rfl) rfl <| g0 (ay rfl) rfl <| g0 (eV rfl rfl (r:=(((j+i):Nat):Int)) (by rw [IntKind.wrap_i64]; omega)) rfl ?_; clear h ac wo; intro ac wo h
  refine rd0 h (iT (i:=(j+i)) uu341 zz343 rfl rfl (h.dnn 2 rfl og) og) rfl <| g1 2 rfl (iM (k:=0) aa343 zz343 (jb og) rfl (Nat.add_zero _) rfl rfl (v:=(.int .u32 (((X / 4294967296 ^ (j+i) % 4294967296):Nat):Int))) rfl) rfl <| g0 (a8 uu343 uu2 rfl (r:=(((X / 4294967296 ^ (j+i) % 4294967296):Nat):Int)) (by rw [IntKind.wrap_i64]; omega)) rfl <| g0 (ay rfl) rfl <| g0 (fv rfl rfl (r:=((((X / 4294967296 ^ (j+i) % 4294967296):Nat):Int) - (((bw (X / 4294967296 ^ j+4294967296 ^ (dn b+1)) (g*(b*2 ^ s)) i):Nat):Int))) (wsub1 (Nat.mod_lt _ (by decide)) hbl)) rfl <| g0 (ay rfl) rfl <| g0 (a8 uu260 uu343 rfl (r:=((g*(b*2 ^ s) / 4294967296 ^ i % 4294967296:Nat):Int)) (by rw [IntKind.wrap_u32',hpr.1]; omega)) rfl <| g0 (a8 uu343 uu2 rfl (r:=((g*(b*2 ^ s) / 4294967296 ^ i % 4294967296:Nat):Int)) (by rw [IntKind.wrap_i64]; omega)) rfl <| g0 (fv rfl rfl (r:=(((((X / 4294967296 ^ (j+i) % 4294967296):Nat):Int) - (((bw (X / 4294967296 ^ j+4294967296 ^ (dn b+1)) (g*(b*2 ^ s)) i):Nat):Int)) - ((g*(b*2 ^ s) / 4294967296 ^ i % 4294967296:Nat):Int))) (wsub2 (Nat.mod_lt _ (by decide)) hbl (Nat.mod_lt _ (by decide)))) rfl <| g0 (aA rfl) rfl <| gn hK41 <| gr fun K42 hK42=>g0 (ay rfl) rfl <| g0 (ng rfl rfl (r:=(((mc 0 g (b*2 ^ s) (i+1)):Nat):Int)) (by decide) (by decide) (by rw [show (2:Int) ^ ((32:Int)).toNat=4294967296 from rfl]; rw [hpr.2]; omega)) rfl <| g0 (aA rfl) rfl <| gn hK42 <| gr fun K43 hK43=>g0 (aA rfl) rfl <| gn hK43 <| gq fun K44 hK44=>gr fun K45 hK45=>g0 (ay rfl) rfl <| g0 (jT rfl rfl) rfl <| gn hK45 ?_; clear h ac wo; intro ac wo h
  refine ku h rfl (fun hc8=>?_) (fun hc8=>?_)
  ·
   have hd8:=of_decide_eq_true hc8
   have hsb:=Hid.mk (D.sub_lt hgd.2 (i:=i) (Nat.le_of_lt hlt) (sub_lt0 hd8))
   refine gz h <| gR <| g0 (ay rfl) rfl <| g0 (eV rfl rfl (r:=((((((X / 4294967296 ^ (j+i) % 4294967296):Nat):Int) - (((bw (X / 4294967296 ^ j+4294967296 ^ (dn b+1)) (g*(b*2 ^ s)) i):Nat):Int)) - ((g*(b*2 ^ s) / 4294967296 ^ i % 4294967296:Nat):Int))+4294967296)) (wsub3 (Nat.mod_lt _ (by decide)) hbl (Nat.mod_lt _ (by decide)))) rfl <| g0 (aA rfl) rfl <| g0 (aA rfl) rfl <| gn hK44 <| gR <| g0 (ay rfl) rfl <| g0 (ay rfl) rfl <| g0 (ay rfl) rfl <| g0 (eV rfl rfl (r:=(((j+i):Nat):Int)) (by rw [IntKind.wrap_i64]; omega)) rfl <| g0 (ay rfl) rfl <| g0 (a8 uu2 uu343 rfl (r:=(((X / 4294967296 ^ j+4294967296 ^ (dn b+1) - g*(b*2 ^ s)) / 4294967296 ^ i % 4294967296:Nat):Int)) (by first | exact wcon1 (Nat.mod_lt _ (by decide)) hbl (Nat.mod_lt _ (by decide)) hd8 hsb.out.2 | exact wcon2 (Nat.mod_lt _ (by decide)) hbl (Nat.mod_lt _ (by decide)) hd8 hsb.out.2)) rfl ?_; clear h ac wo; intro ac wo h
   refine rd0 h (iT (i:=(j+i)) uu341 zz343 rfl rfl (h.dnn 2 rfl og) og) rfl ?_; clear h ac wo; intro ac wo h
   refine up h 2 rfl (g5 (k:=0) (u':=((X / 4294967296 ^ j+4294967296 ^ (dn b+1) - g*(b*2 ^ s)) / 4294967296 ^ i % 4294967296)) zz343 (jb og) rfl rfl rfl rfl rfl rfl rfl rfl) ?_; clear h ac wo; intro ac wo h
   replace h:=h.rowEq 2 rfl (pp (Nat.mod_lt _ (i6 j)))
   refine gz h <| gx (fun _ _=>fW) <| gN <| gx hK38 <| gR <| g0 (eV rfl rfl (r:=((i+1:Nat):Int)) (by rw [IntKind.wrap_i64]; omega)) rfl <| g0 (ay rfl) rfl <| gx (fun _ _=>fW) ?_; clear h ac wo; intro ac wo h
   exact az ⟨_,og,i+1,rfl,og,(h.pick [0,1,2,3,4] (by decide)).sub ⟨rfl,rfl,rfl,rfl,rfl,rfl,rfl,rfl,rfl,(by rw [hsb.out.1]; rfl),rfl,trivial⟩⟩
  ·
   have hd8:=of_decide_eq_false hc8
   have hsb:=Hid.mk (D.sub_ge hgd.2 (i:=i) (Nat.le_of_lt hlt) (sub_ge0 hd8))
   refine gz h <| gS <| gx hK44 <| gR <| g0 (ay rfl) rfl <| g0 (ay rfl) rfl <| g0 (ay rfl) rfl <| g0 (eV rfl rfl (r:=(((j+i):Nat):Int)) (by rw [IntKind.wrap_i64]; omega)) rfl <| g0 (ay rfl) rfl <| g0 (a8 uu2 uu343 rfl (r:=(((X / 4294967296 ^ j+4294967296 ^ (dn b+1) - g*(b*2 ^ s)) / 4294967296 ^ i % 4294967296:Nat):Int)) (by first | exact wcon1 (Nat.mod_lt _ (by decide)) hbl (Nat.mod_lt _ (by decide)) hd8 hsb.out.2 | exact wcon2 (Nat.mod_lt _ (by decide)) hbl (Nat.mod_lt _ (by decide)) hd8 hsb.out.2)) rfl ?_; clear h ac wo; intro ac wo h
   refine rd0 h (iT (i:=(j+i)) uu341 zz343 rfl rfl (h.dnn 2 rfl og) og) rfl ?_; clear h ac wo; intro ac wo h
   refine up h 2 rfl (g5 (k:=0) (u':=((X / 4294967296 ^ j+4294967296 ^ (dn b+1) - g*(b*2 ^ s)) / 4294967296 ^ i % 4294967296)) zz343 (jb og) rfl rfl rfl rfl rfl rfl rfl rfl) ?_; clear h ac wo; intro ac wo h
   replace h:=h.rowEq 2 rfl (pp (Nat.mod_lt _ (i6 j)))
   refine gz h <| gx (fun _ _=>fW) <| gN <| gx hK38 <| gR <| g0 (eV rfl rfl (r:=((i+1:Nat):Int)) (by rw [IntKind.wrap_i64]; omega)) rfl <| g0 (ay rfl) rfl <| gx (fun _ _=>fW) ?_; clear h ac wo; intro ac wo h
   exact az ⟨_,og,i+1,rfl,og,(h.pick [0,1,2,3,4] (by decide)).sub ⟨rfl,rfl,rfl,rfl,rfl,rfl,rfl,rfl,rfl,(by rw [hsb.out.1]; rfl),rfl,trivial⟩⟩
 ·
  have hd7:=of_decide_eq_false hc7
  refine kd ?_
  have hie:i=dn b:=by omega
  subst hie
  exact hK34 _ _ ((h.pick [0,1,2,3,4] (by decide)).sub ⟨rfl,rfl,rfl,rfl,rfl,rfl,rfl,rfl,rfl,trivial⟩)
end Go.Sx
namespace Go.Sx
open Go Go.RowKit Go.Proofs
set_option maxRecDepth 100000
set_option maxHeartbeats 40000000
attribute [local irreducible] Code.wp wpList Rd Step ObS Ent
theorem o3 {w0:World} {a b s j X g Z:Nat} {sv3:Value} {sv5:Value} {sv6:Value} {sv8:Value} {sv9:Value} (hda:dn a≤17592186044416) (hdb:dn b≤17592186044416) (hdl:dn b≤dn a) (hn2:2≤dn b) (hs31:s≤31) (hs32:s≤32) (hYn:b*2 ^ s < 4294967296 ^ dn b) (hYh:4294967296 ^ dn b≤2*(b*2 ^ s)) (hJ:j+1≤dn a+1 - dn b) (D:DS X (b*2 ^ s) (dn b) j) (hge:(X / 4294967296 ^ j / (b*2 ^ s))≤g) (hgd:g≤(X / 4294967296 ^ j / (b*2 ^ s))+1∧g < 4294967296) {ac:Act} {wo:World} (h:St w0 304 [(9,sv8),(12,(.int .i64 ((s:Nat):Int))),(13,sv6),(14,(.int .i64 (((dn b):Nat):Int))),(15,sv9),(16,(.int .i64 ((j:Nat):Int))),(18,(.int .u64 ((g:Nat):Int))),(24,(.int .i64 (((((X / 4294967296 ^ (j+dn b) % 4294967296):Nat):Int) - (((bw (X / 4294967296 ^ j+4294967296 ^ (dn b+1)) (g*(b*2 ^ s)) (dn b)):Nat):Int)) - ((g*(b*2 ^ s) / 4294967296 ^ (dn b) % 4294967296:Nat):Int))))] [.row (α:=Nat) 343 sv9 (dgs (dn a+1 - dn b) Z),.row (α:=Nat) 343 sv8 (dgs (dn b) (b*2 ^ s)),.row (α:=Nat) 343 sv6 (dgs (dn a+1) (((X / 4294967296 ^ j+4294967296 ^ (dn b+1) - g*(b*2 ^ s)) % 4294967296 ^ (dn b+1))*4294967296 ^ j+X % 4294967296 ^ j)),.row (α:=Nat) 343 sv5 (dgs (dn a) a),.row (α:=Nat) 343 sv3 (dgs (dn b) b)] ac wo) {K48:Act→World→Prop} {Q:Exit→Act→World→Prop} (hK48:∀ a_ w_,(St w0 304 [(9,sv8),(12,(.int .i64 ((s:Nat):Int))),(13,sv6),(14,(.int .i64 (((dn b):Nat):Int))),(15,sv9),(16,(.int .i64 ((j:Nat):Int))),(18,(.int .u64 (((X / 4294967296 ^ j / (b*2 ^ s)):Nat):Int)))] [.row (α:=Nat) 343 sv9 (dgs (dn a+1 - dn b) Z),.row (α:=Nat) 343 sv8 (dgs (dn b) (b*2 ^ s)),.row (α:=Nat) 343 sv6 (dgs (dn a+1) (qy X (b*2 ^ s) j)),.row (α:=Nat) 343 sv5 (dgs (dn a) a),.row (α:=Nat) 343 sv3 (dgs (dn b) b)] a_ w_)→K48 a_ w_):(subc [1,1,1,1,1,1,1,1,1,1,0,1,0,0,1,0,0,1,1,1,1,1,1,1,0] (Tryz.f203.body.getD .skip)).wp Tryz.prog (Exit.then K48 Q) ac wo:=by
 have hsn:=D.sign_neg hgd.2
 have hsp:=D.sign_pos hgd.2
 have hbl:=aad (X / 4294967296 ^ j+4294967296 ^ (dn b+1)) (g*(b*2 ^ s)) (dn b)
 refine gz h <| gr fun K49 hK49=>g0 (ay rfl) rfl <| g0 (jT rfl rfl) rfl <| gn hK49 ?_; clear h ac wo; intro ac wo h
 refine ku h rfl (fun hc9=>?_) (fun hc9=>?_)
 ·
  have hd9:=of_decide_eq_true hc9
  have hneg:=hsn og
  have hgn:=D.guess_neg hgd.1 hneg
  have hg1:1≤g:=by rw [hgn]; exact Nat.succ_le_succ (Nat.zero_le _)
  refine gz h <| gr fun K50 hK50=>g0 (ay rfl) rfl <| g0 (fv rfl rfl (r:=(((g - 1):Nat):Int)) (by rw [IntKind.wrap_u64]; omega)) rfl <| g0 (aA rfl) rfl <| gn hK50 <| gr fun K51 hK51=>g0 (aA rfl) rfl <| gn hK51 <| gq fun K52 hK52=>gr fun K53 hK53=>g0 (ay rfl) rfl <| g0 (ay rfl) rfl <| gn hK53 <| gB ?_; clear h ac wo; intro ac wo h
  replace h:=h.rowEq 2 rfl (by show _=dgs _ (mx _ j _); rw [wm (Nat.mod_lt _ (i6 j))]:(dgs (dn a+1) (((X / 4294967296 ^ j+4294967296 ^ (dn b+1) - g*(b*2 ^ s)) % 4294967296 ^ (dn b+1))*4294967296 ^ j+X % 4294967296 ^ j))=(dgs (dn a+1) (mx (((X / 4294967296 ^ j+4294967296 ^ (dn b+1) - g*(b*2 ^ s)) % 4294967296 ^ (dn b+1))*4294967296 ^ j+X % 4294967296 ^ j) (j+0) ((((X / 4294967296 ^ j+4294967296 ^ (dn b+1) - g*(b*2 ^ s)) % 4294967296 ^ (dn b+1))+(b*2 ^ s))*4294967296 ^ j+X % 4294967296 ^ j))))
  refine wp_loop_ghost (fun n_ a_ w_=>∃ (i:Nat),n_=dn b - i∧(i≤dn b)∧St w0 304 [(9,sv8),(12,(.int .i64 ((s:Nat):Int))),(13,sv6),(14,(.int .i64 (((dn b):Nat):Int))),(15,sv9),(16,(.int .i64 ((j:Nat):Int))),(18,(.int .u64 (((g - 1):Nat):Int))),(230,(.int .i64 (((dn b):Nat):Int))),(231,(.int .i64 ((i:Nat):Int))),(25,(.int .u64 (((cy ((X / 4294967296 ^ j+4294967296 ^ (dn b+1) - g*(b*2 ^ s)) % 4294967296 ^ (dn b+1)) (b*2 ^ s) i):Nat):Int)))] [.row (α:=Nat) 343 sv9 (dgs (dn a+1 - dn b) Z),.row (α:=Nat) 343 sv8 (dgs (dn b) (b*2 ^ s)),.row (α:=Nat) 343 sv6 (dgs (dn a+1) (mx (((X / 4294967296 ^ j+4294967296 ^ (dn b+1) - g*(b*2 ^ s)) % 4294967296 ^ (dn b+1))*4294967296 ^ j+X % 4294967296 ^ j) (j+i) ((((X / 4294967296 ^ j+4294967296 ^ (dn b+1) - g*(b*2 ^ s)) % 4294967296 ^ (dn b+1))+(b*2 ^ s))*4294967296 ^ j+X % 4294967296 ^ j))),.row (α:=Nat) 343 sv5 (dgs (dn a) a),.row (α:=Nat) 343 sv3 (dgs (dn b) b)] a_ w_) _ ⟨0,rfl,og,(h.pick [0,1,2,3,4] (by decide)).sub ⟨rfl,rfl,rfl,rfl,rfl,rfl,rfl,rfl,rfl,(by rw [zK]; rfl),trivial⟩⟩ ?_
  clear h ac wo; rintro _ ac wo ⟨i,rfl,hi,h⟩
  refine gz h <| gr fun K54 hK54=>g0 (jT rfl rfl) rfl <| gn hK54 <| gq fun K55 hK55=>?_; clear h ac wo; intro ac wo h
  refine ku h rfl (fun hc10=>?_) (fun hc10=>?_)
  ·
   have hd10:=of_decide_eq_true hc10
   refine gz h <| gS <| gx hK55 <| gq fun K56 hK56=>gB <| gr fun K57 hK57=>g0 (ay rfl) rfl <| g0 (aA rfl) rfl <| gn hK57 <| gq fun K58 hK58=>?_; clear h ac wo; intro ac wo h
   have hcy:=cy_le ((X / 4294967296 ^ j+4294967296 ^ (dn b+1) - g*(b*2 ^ s)) % 4294967296 ^ (dn b+1)) (b*2 ^ s) i
   have hdig:=r8 ((X / 4294967296 ^ j+4294967296 ^ (dn b+1) - g*(b*2 ^ s)) % 4294967296 ^ (dn b+1)) (b*2 ^ s) i
   have hnx:=zL ((X / 4294967296 ^ j+4294967296 ^ (dn b+1) - g*(b*2 ^ s)) % 4294967296 ^ (dn b+1)) (b*2 ^ s) i
   refine fU mixed [dv _,dv _,dv _,dv _,dv _,dv _,dw _ [2],dv _,dv _,dv _,dv _,dw _ [1],dv _,dv _,dv _,dv _] [⟨_,[]⟩,⟨_,[]⟩,⟨_,[]⟩,⟨_,[]⟩,⟨_,[]⟩] h rfl (by kernel_rfl) ⟨fun _ _=>om rfl,fun _ _=>om rfl,fun _ _=>om rfl,fun _ _=>om rfl,fun _ _=>bk (eV rfl rfl (r:=(((j+i):Nat):Int)) (by rw [IntKind.wrap_i64]; omega)),fun _ _=>bk (iT (i:=(j+i)) uu341 zz343 rfl rfl (h.dnn 2 rfl og) og),fun _ _=>jB _ rfl rfl (iM (k:=0) aa343 zz343 (rj (Nat.mod_lt _ (i6 j)) og) rfl (Nat.add_zero _) rfl rfl (v:=(.int .u32 (((((X / 4294967296 ^ j+4294967296 ^ (dn b+1) - g*(b*2 ^ s)) % 4294967296 ^ (dn b+1)) / 4294967296 ^ i % 4294967296):Nat):Int))) rfl),fun _ _=>bk (a8 uu343 uu260 rfl (r:=(((((X / 4294967296 ^ j+4294967296 ^ (dn b+1) - g*(b*2 ^ s)) % 4294967296 ^ (dn b+1)) / 4294967296 ^ i % 4294967296):Nat):Int)) (by rw [IntKind.wrap_u64]; omega)),fun _ _=>om rfl,fun _ _=>om rfl,fun _ _=>bk (iT (i:=i) uu341 zz343 rfl rfl (h.dnn 1 rfl og) og),fun _ _=>jB _ rfl rfl (iM (k:=0) aa343 zz343 (d9 (n:=(dn b)) og) rfl (Nat.add_zero _) rfl rfl (v:=(.int .u32 ((((b*2 ^ s) / 4294967296 ^ i % 4294967296):Nat):Int))) rfl),fun _ _=>bk (a8 uu343 uu260 rfl (r:=((((b*2 ^ s) / 4294967296 ^ i % 4294967296):Nat):Int)) (by rw [IntKind.wrap_u64]; omega)),fun _ _=>bk (eV rfl rfl (r:=(((((X / 4294967296 ^ j+4294967296 ^ (dn b+1) - g*(b*2 ^ s)) % 4294967296 ^ (dn b+1)) / 4294967296 ^ i % 4294967296)+((b*2 ^ s) / 4294967296 ^ i % 4294967296):Nat):Int)) (by rw [IntKind.wrap_u64]; omega)),fun _ _=>bk (eV rfl rfl (r:=(((cy ((X / 4294967296 ^ j+4294967296 ^ (dn b+1) - g*(b*2 ^ s)) % 4294967296 ^ (dn b+1)) (b*2 ^ s) i)+((((X / 4294967296 ^ j+4294967296 ^ (dn b+1) - g*(b*2 ^ s)) % 4294967296 ^ (dn b+1)) / 4294967296 ^ i % 4294967296)+((b*2 ^ s) / 4294967296 ^ i % 4294967296)):Nat):Int)) (by rw [IntKind.wrap_u64]; omega)),fun _ _=>bk (aA rfl),trivial⟩ ?_
   clear h ac wo; intro ξ ac wo hφ h
   replace h:St w0 304 [(9,sv8),(12,(.int .i64 ((s:Nat):Int))),(13,sv6),(14,(.int .i64 (((dn b):Nat):Int))),(15,sv9),(16,(.int .i64 ((j:Nat):Int))),(18,(.int .u64 (((g - 1):Nat):Int))),(230,(.int .i64 (((dn b):Nat):Int))),(231,(.int .i64 ((i:Nat):Int))),(25,(.int .u64 (((cy ((X / 4294967296 ^ j+4294967296 ^ (dn b+1) - g*(b*2 ^ s)) % 4294967296 ^ (dn b+1)) (b*2 ^ s) i)+((((X / 4294967296 ^ j+4294967296 ^ (dn b+1) - g*(b*2 ^ s)) % 4294967296 ^ (dn b+1)) / 4294967296 ^ i % 4294967296)+((b*2 ^ s) / 4294967296 ^ i % 4294967296)):Nat):Int))),(26,(.int .i64 ((i:Nat):Int)))] [.row (α:=Nat) 343 sv9 (dgs (dn a+1 - dn b) Z),.row (α:=Nat) 343 sv8 (dgs (dn b) (b*2 ^ s)),.row (α:=Nat) 343 sv6 (dgs (dn a+1) (mx (((X / 4294967296 ^ j+4294967296 ^ (dn b+1) - g*(b*2 ^ s)) % 4294967296 ^ (dn b+1))*4294967296 ^ j+X % 4294967296 ^ j) (j+i) ((((X / 4294967296 ^ j+4294967296 ^ (dn b+1) - g*(b*2 ^ s)) % 4294967296 ^ (dn b+1))+(b*2 ^ s))*4294967296 ^ j+X % 4294967296 ^ j))),.row (α:=Nat) 343 sv5 (dgs (dn a) a),.row (α:=Nat) 343 sv3 (dgs (dn b) b)] ac wo:=h.sub ⟨rfl,rfl,rfl,rfl,rfl,rfl,rfl,rfl,rfl,rfl,rfl,trivial⟩
   clear hφ ξ
   refine gz h <| gx hK58 <| gR <| g0 (ay rfl) rfl <| g0 (ay rfl) rfl <| g0 (ay rfl) rfl <| g0 (eV rfl rfl (r:=(((j+i):Nat):Int)) (by rw [IntKind.wrap_i64]; omega)) rfl <| g0 (ay rfl) rfl <| g0 (a8 uu260 uu343 rfl (r:=(((((X / 4294967296 ^ j+4294967296 ^ (dn b+1) - g*(b*2 ^ s)) % 4294967296 ^ (dn b+1))+(b*2 ^ s)) / 4294967296 ^ i % 4294967296:Nat):Int)) (by rw [IntKind.wrap_u32',hdig]; omega)) rfl <| g0 (ay rfl) rfl <| g0 (ng rfl rfl (r:=(((cy ((X / 4294967296 ^ j+4294967296 ^ (dn b+1) - g*(b*2 ^ s)) % 4294967296 ^ (dn b+1)) (b*2 ^ s) (i+1)):Nat):Int)) (by decide) (by decide) (by rw [show (2:Int) ^ ((32:Int)).toNat=4294967296 from rfl]; rw [hnx]; omega)) rfl ?_; clear h ac wo; intro ac wo h
   refine rd0 h (iT (i:=(j+i)) uu341 zz343 rfl rfl (h.dnn 2 rfl og) og) rfl ?_; clear h ac wo; intro ac wo h
   refine up h 2 rfl (g5 (k:=0) (u':=((((X / 4294967296 ^ j+4294967296 ^ (dn b+1) - g*(b*2 ^ s)) % 4294967296 ^ (dn b+1))+(b*2 ^ s)) / 4294967296 ^ i % 4294967296)) zz343 (rj (Nat.mod_lt _ (i6 j)) og) rfl rfl rfl rfl rfl rfl rfl rfl) ?_; clear h ac wo; intro ac wo h
   replace h:=h.rowEq 2 rfl (pp (Nat.mod_lt _ (i6 j)))
   refine rd0 h (aA rfl) rfl <| gx (fun _ _=>fW) <| gN <| gx hK56 <| gR <| g0 (eV rfl rfl (r:=((i+1:Nat):Int)) (by rw [IntKind.wrap_i64]; omega)) rfl <| g0 (ay rfl) rfl <| gx (fun _ _=>fW) ?_; clear h ac wo; intro ac wo h
   exact az ⟨_,og,i+1,rfl,og,h.re [0,1,2,3,4]⟩
  ·
   have hd10:=of_decide_eq_false hc10
   refine kd ?_
   refine hK52 _ _ ?_
   refine c_r ?_
   have hie:i=dn b:=by omega
   subst hie
   have hcy:=cy_le ((X / 4294967296 ^ j+4294967296 ^ (dn b+1) - g*(b*2 ^ s)) % 4294967296 ^ (dn b+1)) (b*2 ^ s) (dn b)
   have hdig:=r8 ((X / 4294967296 ^ j+4294967296 ^ (dn b+1) - g*(b*2 ^ s)) % 4294967296 ^ (dn b+1)) (b*2 ^ s) (dn b)
   have hyz:=r7 hYn (Nat.le_refl (dn b))
   refine rd0 h (ay rfl) rfl <| g0 (ay rfl) rfl <| g0 (ay rfl) rfl <| g0 (eV rfl rfl (r:=((j+(dn b):Nat):Int)) (by rw [IntKind.wrap_i64]; omega)) rfl ?_; clear h ac wo; intro ac wo h
   refine rd0 h (iT (i:=(j+(dn b))) uu341 zz343 rfl rfl (h.dnn 2 rfl og) og) rfl <| g1 2 rfl (iM (k:=0) aa343 zz343 (rj (Nat.mod_lt _ (i6 j)) og) rfl (Nat.add_zero _) rfl rfl (v:=(.int .u32 (((((X / 4294967296 ^ j+4294967296 ^ (dn b+1) - g*(b*2 ^ s)) % 4294967296 ^ (dn b+1)) / 4294967296 ^ (dn b) % 4294967296):Nat):Int))) rfl) rfl <| g0 (ay rfl) rfl <| g0 (a8 uu260 uu343 rfl (r:=(((cy ((X / 4294967296 ^ j+4294967296 ^ (dn b+1) - g*(b*2 ^ s)) % 4294967296 ^ (dn b+1)) (b*2 ^ s) (dn b)):Nat):Int)) (by rw [IntKind.wrap_u32']; omega)) rfl <| g0 (eV rfl rfl (r:=((((((X / 4294967296 ^ j+4294967296 ^ (dn b+1) - g*(b*2 ^ s)) % 4294967296 ^ (dn b+1))+(b*2 ^ s)) / 4294967296 ^ (dn b) % 4294967296):Nat):Int)) (by rw [IntKind.wrap_u32',hdig,hyz]; omega)) rfl ?_; clear h ac wo; intro ac wo h
   refine rd0 h (iT (i:=(j+(dn b))) uu341 zz343 rfl rfl (h.dnn 2 rfl og) og) rfl ?_; clear h ac wo; intro ac wo h
   refine up h 2 rfl (g5 (k:=0) (u':=((((X / 4294967296 ^ j+4294967296 ^ (dn b+1) - g*(b*2 ^ s)) % 4294967296 ^ (dn b+1))+(b*2 ^ s)) / 4294967296 ^ (dn b) % 4294967296)) zz343 (rj (Nat.mod_lt _ (i6 j)) og) rfl rfl rfl rfl rfl rfl rfl rfl) ?_; clear h ac wo; intro ac wo h
   replace h:=h.rowEq 2 rfl (D.set_neg hgd.1 hneg)
   refine fW ?_
   exact hK48 _ _ ((h.pick [0,1,2,3,4] (by decide)).sub ⟨rfl,rfl,rfl,rfl,rfl,rfl,(congrArg (fun x:Nat=>some (Value.int .u64 (x:Int))) (show (g - 1)=(X / 4294967296 ^ j / (b*2 ^ s)) from by rw [hgn,Nat.add_sub_cancel])),trivial⟩)
 ·
  have hd9:=of_decide_eq_false hc9
  have hpos:=hsp og
  have hgn:=D.guess_pos hge hpos
  replace h:=h.rowEq 2 rfl (D.set_pos hgd.2 hge hpos:(dgs (dn a+1) (((X / 4294967296 ^ j+4294967296 ^ (dn b+1) - g*(b*2 ^ s)) % 4294967296 ^ (dn b+1))*4294967296 ^ j+X % 4294967296 ^ j))=(dgs (dn a+1) (qy X (b*2 ^ s) j)))
  refine nJ ?_
  exact hK48 _ _ ((h.pick [0,1,2,3,4] (by decide)).sub ⟨rfl,rfl,rfl,rfl,rfl,rfl,(congrArg (fun x:Nat=>some (Value.int .u64 (x:Int))) (show g=(X / 4294967296 ^ j / (b*2 ^ s)) from hgn)),trivial⟩)
end Go.Sx
namespace Go.Sx
open Go Go.RowKit Go.Proofs
set_option maxRecDepth 100000
set_option maxHeartbeats 40000000
attribute [local irreducible] Code.wp wpList Rd Step ObS Ent
def bH (a b:Nat):Nat×Nat:=(a / b,a % b)
theorem jq (a:Nat) (b:Nat) (k:Nat) (hk:k≤40) (za:SzB k a) (zb:SzB k b) (hb:0 < b) (w0:World):Calls Tryz.prog 203 #[(.string (bs a)),(.string (bs b))] w0 (dh w0 (.tuple #[(.string (bs ((bH a b).1))),(.string (bs ((bH a b).2)))]) (SzB k ((bH a b).1)∧SzB k ((bH a b).2))):=by
 refine enter (N:=304) (args:=[(.string (bs a)),(.string (bs b))]) Tryz.func203 rfl rfl ?_; intro ac h
 have hda:=ij za
 have hdb:=ij zb
 refine qD fun K1 hK1=>?_
 refine rd0 h (aA rfl) rfl <| g0 (aA rfl) rfl <| gn hK1 <| gq fun K2 hK2=>gr fun K3 hK3=>g0 (ay rfl) rfl <| g0 (ay rfl) rfl <| gl Tryz.call200 rfl (gG a b) rfl <| g0 (ay rfl) rfl <| g0 (cY rfl rfl) rfl <| g0 (cY rfl rfl) rfl <| g0 (cY rfl rfl) rfl <| g0 (aA rfl) rfl <| g0 (aA rfl) rfl <| g0 (aA rfl) rfl <| gn hK3 <| gr fun K4 hK4=>g0 (ay rfl) rfl <| gn hK4 ?_; clear h ac; intro ac wo h
 refine ku h rfl (fun hc1=>?_) (fun hc1=>?_)
 ·
  obtain ⟨ha6,hb6,hw⟩:=lG hc1
  simp only [hw] at h
  refine uR fun K5 hK5=>?_
  refine fU mixed [dv _,dv _,dv _,dv _,dv _,dv _,dv _,dv _,dv _,dv _] [] h rfl (by kernel_rfl) ⟨fun _ _=>om rfl,fun _ _=>om rfl,fun _ _=>bk (oV rfl rfl (r:=(((a / b):Nat):Int)) og (by rw [Int.tdiv_eq_ediv_of_nonneg (Int.natCast_nonneg _)]; exact qG (n:=a / b) (Nat.lt_of_le_of_lt (Nat.div_le_self _ _) og))),fun _ _=>i0 (iC cc202 rfl (dz (a / b) (by have:=Nat.div_le_self a b; omega))),fun _ _=>om rfl,fun _ _=>om rfl,fun _ _=>bk (ru rfl rfl (r:=(((a % b):Nat):Int)) og (by rw [Int.tmod_eq_emod_of_nonneg (Int.natCast_nonneg _)]; rfl)),fun _ _=>i0 (iC cc202 rfl (dz (a % b) (by have:=Nat.mod_le a b; omega))),fun _ _=>bk (aA rfl),fun _ _=>bk (aA rfl),trivial⟩ ?_
  clear h ac wo; intro ξ ac wo hφ h
  replace h:St w0 304 [(4,(.string (bs (bK (a / b))))),(5,(.string (bs (bK (a % b)))))] [] ac wo:=h.sub ⟨rfl,rfl,trivial⟩
  clear hφ ξ
  refine hK5 _ _ ?_
  refine c_ret ?_
  exact (rt h) (h.retP (by unfold bH; rfl) ⟨ip za (Nat.div_le_self _ _),ip za (Nat.mod_le _ _)⟩)
 ·
  have p2:=ar ((eQ a b) w0)
  refine gz h <| gS <| gx hK2 <| gq fun K6 hK6=>gr fun K7 hK7=>g0 (ay rfl) rfl <| g0 (ay rfl) rfl <| gl Tryz.call198 rfl (eQ a b) rfl <| g0 (jT rfl rfl) rfl <| gn hK7 ?_; clear h ac wo; intro ac wo h
  refine ku h rfl (fun hc2=>?_) (fun hc2=>?_)
  ·
   have hd2:=of_decide_eq_true hc2
   have hlt:=zP hc2
   refine gz h <| gr fun K8 hK8=>g0 (ay rfl) rfl <| g0 (aA rfl) rfl <| g0 (aA rfl) rfl <| gn hK8 <| gT ?_; clear h ac wo; intro ac wo h
   have hd:bH a b=(0,a):=(by unfold bH; rw [Nat.div_eq_of_lt hlt,Nat.mod_eq_of_lt hlt])
   exact (rt h) (h.retP (by rw [hd] <;> rfl) ⟨ip za (Nat.div_le_self _ _),ip za (Nat.mod_le _ _)⟩)
  ·
   have hd2:=of_decide_eq_false hc2
   have hle:=zR hc2
   have hdl:=zD hle
   have hd1:=dn_ge hb
   refine gz h <| gS <| gx hK6 <| gr fun K9 hK9=>g0 (ay rfl) rfl ?_; clear h ac wo; intro ac wo h
   refine clr (xs:=(dgs (dn b) b)) h cc273 (vs:=[(.string (bs b))]) rfl (kk (d7 b (kr zb))) rfl ?_; clear h ac wo; intro sv3 ac wo hpsv3 h
   refine rd0 h (aA rfl) rfl <| gn hK9 <| gq fun K10 hK10=>gr fun K11 hK11=>g0 (ay rfl) rfl ?_; clear h ac wo; intro ac wo h
   refine rd0 h (g9 uu341 rfl (h.dsl 0 rfl)) rfl <| g0 (ur rfl rfl) rfl <| gn hK11 ?_; clear h ac wo; intro ac wo h
   refine ku h rfl (fun hc3=>?_) (fun hc3=>?_)
   ·
    have hd3:=eq_of_beq hc3
    have h1b:=dgs_one (b:=b) og
    refine gz h <| gr fun K12 hK12=>g0 (ay rfl) rfl ?_; clear h ac wo; intro ac wo h
    refine clr (xs:=(dgs (dn a) a)) h cc273 (vs:=[(.string (bs a))]) rfl (kk (d7 a (kr za))) rfl ?_; clear h ac wo; intro sv4 ac wo hpsv4 h
    refine rd0 h (aA rfl) rfl <| gn hK12 <| gr fun K13 hK13=>g0 (ay rfl) rfl <| g0 (ay rfl) rfl ?_; clear h ac wo; intro ac wo h
    refine rd0 h (iT (i:=0) uu341 zz343 rfl rfl (h.dnn 1 rfl og) og) rfl <| g1 1 rfl (iM (k:=0) aa343 zz343 h1b.1 rfl (Nat.add_zero _) rfl rfl (v:=(.int .u32 ((b:Nat):Int))) rfl) rfl ?_; clear h ac wo; intro ac wo h
    refine clx h 0 rfl Tryz.call274 (vs:=[sv4,(.int .u32 ((b:Nat):Int))]) rfl (fun w_ B_ hb_ hs_=>ms (dn a) a sv4 b (i5 a) hb h1b.2 og w0 w_ B_ hb_ hs_) rfl ?_; clear h ac wo; intro ac wo h
    refine rd0 h (aA rfl) rfl <| gn hK13 <| gr fun K14 hK14=>g0 (ay rfl) rfl ?_; clear h ac wo; intro ac wo h
    refine clq h cc275 (vs:=[sv4]) rfl (fun w_ hB_ hS_=>eU (dn a) (a / b) sv4 (Nat.lt_of_le_of_lt (Nat.div_le_self _ _) (i5 a)) og w_ (row_view hS_ 0 rfl)) rfl ?_; clear h ac wo; intro ac wo h
    refine rd0 h (ay rfl) rfl <| g0 (a8 uu343 uu260 rfl (r:=((a % b:Nat):Int)) (by rw [IntKind.wrap_u64]; have:=Nat.mod_lt a hb; omega)) rfl <| gl cc202 rfl (dz (a % b) (by have:=Nat.mod_lt a hb; omega)) rfl <| g0 (aA rfl) rfl <| g0 (aA rfl) rfl <| gn hK14 <| gT ?_; clear h ac wo; intro ac wo h
    exact (rt h) (h.retP (by unfold bH; rfl) ⟨ip za (Nat.div_le_self _ _),ip za (Nat.mod_le _ _)⟩)
   ·
    have hd3:=ne_of_beq_false hc3
    have hn2:2≤dn b:=by omega
    refine gz h <| gS <| gx hK10 <| gr fun K15 hK15=>g0 (ay rfl) rfl <| g0 (ay rfl) rfl ?_; clear h ac wo; intro ac wo h
    refine rd0 h (g9 uu341 rfl (h.dsl 0 rfl)) rfl <| g0 (fv rfl rfl (r:=(((dn b - 1):Nat):Int)) (by rw [IntKind.wrap_i64]; omega)) rfl ?_; clear h ac wo; intro ac wo h
    refine rd0 h (iT (i:=(dn b - 1)) uu341 zz343 rfl rfl (h.dnn 0 rfl og) og) rfl <| g1 0 rfl (iM (k:=0) aa343 zz343 (d9 (n:=(dn b)) og) rfl (Nat.add_zero _) rfl rfl (v:=(.int .u32 (((b / 4294967296 ^ (dn b - 1) % 4294967296):Nat):Int))) rfl) rfl <| gl Tryz.call276 rfl (lz32 (b / 4294967296 ^ (dn b - 1) % 4294967296) (Nat.mod_lt _ (by decide))) rfl <| g0 (aA rfl) rfl <| gn hK15 <| gr fun K16 hK16=>?_; clear h ac wo; intro ac wo h
    obtain ⟨s,hs⟩:∃ s,s=32 - Lib.bitLen (b / 4294967296 ^ (dn b - 1) % 4294967296):=⟨_,rfl⟩
    rw [← hs] at h
    obtain ⟨hs31,hYn,hYh⟩:=wQ hb hs
    have hs32:s≤32:=by omega
    refine rd0 h (ay rfl) rfl ?_; clear h ac wo; intro ac wo h
    refine clr (xs:=(dgs (dn a) a)) h cc273 (vs:=[(.string (bs a))]) rfl (kk (d7 a (kr za))) rfl ?_; clear h ac wo; intro sv5 ac wo hpsv5 h
    refine rd0 h (ay rfl) rfl ?_; clear h ac wo; intro ac wo h
    refine clr (xs:=(dgs ((dn a)+1) (a*2 ^ s))) h Tryz.call277 (vs:=[sv5,(.int .i64 ((s:Nat):Int))]) rfl (fun w_ hB_ hS_=>jc (dn a) a sv5 s (i5 a) hs31 og w_ (row_view hS_ 0 rfl)) rfl ?_; clear h ac wo; intro sv6 ac wo hpsv6 h
    refine rd0 h (aA rfl) rfl <| gn hK16 <| gr fun K17 hK17=>g0 (ay rfl) rfl <| g0 (ay rfl) rfl ?_; clear h ac wo; intro ac wo h
    refine clr (xs:=(dgs ((dn b)+1) (b*2 ^ s))) h Tryz.call277 (vs:=[sv3,(.int .i64 ((s:Nat):Int))]) rfl (fun w_ hB_ hS_=>jc (dn b) b sv3 s (i5 b) hs31 og w_ (row_view hS_ 2 rfl)) rfl ?_; clear h ac wo; intro sv7 ac wo hpsv7 h
    refine rd0 h (ay rfl) rfl ?_; clear h ac wo; intro ac wo h
    refine rd0 h (g9 uu341 rfl (h.dsl 3 rfl)) rfl ?_; clear h ac wo; intro ac wo h
    refine up1 h 0 rfl (s_cut (n:=(dn b)) uu341 zz343 rfl rfl (by rw [cX]; omega)) rfl ?_; clear h ac wo; intro sv8 ac wo slsv8 h
    replace h:=h.rowEq 0 rfl (vT og)
    refine rd0 h (aA rfl) rfl <| gn hK17 <| gr fun K18 hK18=>g0 (ay rfl) rfl ?_; clear h ac wo; intro ac wo h
    refine rd0 h (g9 uu341 rfl (h.dsl 0 rfl)) rfl <| g0 (aA rfl) rfl <| gn hK18 <| gr fun K19 hK19=>g0 (ay rfl) rfl ?_; clear h ac wo; intro ac wo h
    refine rd0 h (g9 uu341 rfl (h.dsl 1 rfl)) rfl <| g0 (ay rfl) rfl <| g0 (fv rfl rfl (r:=(((dn a+1 - dn b):Nat):Int)) (by rw [IntKind.wrap_i64]; omega)) rfl ?_; clear h ac wo; intro ac wo h
    refine nw h (mu (n:=(dn a+1 - dn b)) ((0:Nat)) rfl pE rfl rfl rfl og og) rfl ?_; clear h ac wo; intro sv9 ac wo nnsv9 h
    replace h:=h.rowEq 0 rfl ((nH _).symm)
    refine rd0 h (aA rfl) rfl <| gn hK19 <| gq fun K20 hK20=>gr fun K21 hK21=>g0 (ay rfl) rfl ?_; clear h ac wo; intro ac wo h
    refine rd0 h (g9 uu341 rfl (h.dsl 0 rfl)) rfl <| g0 (fv rfl rfl (r:=((((dn a+1 - dn b):Nat):Int) - 1)) (by rw [IntKind.wrap_i64]; omega)) rfl <| g0 (aA rfl) rfl <| gn hK21 <| gB ?_; clear h ac wo; intro ac wo h
    refine wp_loop_ghost (fun n_ a_ w_=>∃ (J:Nat) (X:Nat) (Z:Nat),n_=1*J∧(J≤dn a+1 - dn b)∧(X < (b*2 ^ s)*4294967296 ^ J)∧(X+(b*2 ^ s)*Z=a*2 ^ s)∧(Z % 4294967296 ^ J=0)∧St w0 304 [(9,sv8),(12,(.int .i64 ((s:Nat):Int))),(13,sv6),(14,(.int .i64 (((dn b):Nat):Int))),(15,sv9),(16,(.int .i64 (((J:Nat):Int) - 1)))] [.row (α:=Nat) 343 sv9 (dgs (dn a+1 - dn b) Z),.row (α:=Nat) 343 sv8 (dgs (dn b) (b*2 ^ s)),.row (α:=Nat) 343 sv6 (dgs (dn a+1) X),.row (α:=Nat) 343 sv5 (dgs (dn a) a),.row (α:=Nat) 343 sv3 (dgs (dn b) b)] a_ w_) _ ⟨(dn a+1 - dn b),(a*2 ^ s),0,rfl,(Nat.le_refl _),(tQ hle hs31 hYh),(by simp),(Nat.zero_mod _),h.re [0,1,2,3,4]⟩ ?_
    clear h ac wo; rintro _ ac wo ⟨J,X,Z,rfl,hJ,hXl,hsum,hZ,h⟩
    refine gz h <| gq fun K22 hK22=>gr fun K23 hK23=>g0 (ay rfl) rfl <| g0 (ym rfl rfl) rfl <| gn hK23 ?_; clear h ac wo; intro ac wo h
    refine ku h rfl (fun hc4=>?_) (fun hc4=>?_)
    ·
     have hd4:=of_decide_eq_true hc4
     obtain ⟨j,rfl⟩:∃ j,J=j+1:=⟨J - 1,by omega⟩
     rw [show (((j+1:Nat):Int) - 1)=((j:Nat):Int) by omega] at h
     have D:DS X (b*2 ^ s) (dn b) j:=⟨hn2,hXl,hYn,hYh⟩
     have hv1:=D.v1_lt
     have hv1h:=D.v1_hi
     have hhi:=D.hi_lt
     refine nJ ?_
     refine hK22 _ _ ?_
     refine uR fun K24 hK24=>?_
     refine uT ?_
     refine uR fun K25 hK25=>?_
     refine fU mixed [dv _,dv _,dv _,dv _,dv _,dw _ [2],dv _,dv _,dv _,dv _,dv _,dv _,dv _,dv _,dw _ [2],dv _,dv _,dv _] [⟨_,[]⟩,⟨_,[]⟩,⟨_,[]⟩,⟨_,[]⟩,⟨_,[]⟩] h rfl (by kernel_rfl) ⟨fun _ _=>om rfl,fun _ _=>om rfl,fun _ _=>om rfl,fun _ _=>bk (eV rfl rfl (r:=((j+(dn b):Nat):Int)) (by rw [IntKind.wrap_i64]; omega)),fun _ _=>bk (iT (i:=(j+(dn b))) uu341 zz343 rfl rfl (h.dnn 2 rfl og) og),fun _ _=>jB _ rfl rfl (iM (k:=0) aa343 zz343 (d9 (n:=(dn a+1)) og) rfl (Nat.add_zero _) rfl rfl (v:=(.int .u32 (((X / 4294967296 ^ (j+(dn b)) % 4294967296):Nat):Int))) rfl),fun _ _=>bk (a8 uu343 uu260 rfl (r:=(((X / 4294967296 ^ (j+(dn b)) % 4294967296):Nat):Int)) (by rw [IntKind.wrap_u64]; omega)),fun _ _=>bk (sS rfl rfl (r:=(((X / 4294967296 ^ (j+dn b) % 4294967296*2 ^ 32):Nat):Int)) (by decide) (by decide) (qF rfl og)),fun _ _=>om rfl,fun _ _=>om rfl,fun _ _=>om rfl,fun _ _=>bk (eV rfl rfl (r:=((j+(dn b):Nat):Int)) (by rw [IntKind.wrap_i64]; omega)),fun _ _=>bk (fv rfl rfl (r:=(((j+dn b - 1):Nat):Int)) (by rw [IntKind.wrap_i64]; omega)),fun _ _=>bk (iT (i:=(j+dn b - 1)) uu341 zz343 rfl rfl (h.dnn 2 rfl og) og),fun _ _=>jB _ rfl rfl (iM (k:=0) aa343 zz343 (d9 (n:=(dn a+1)) og) rfl (Nat.add_zero _) rfl rfl (v:=(.int .u32 (((X / 4294967296 ^ (j+dn b - 1) % 4294967296):Nat):Int))) rfl),fun _ _=>bk (a8 uu343 uu260 rfl (r:=(((X / 4294967296 ^ (j+dn b - 1) % 4294967296):Nat):Int)) (by rw [IntKind.wrap_u64]; omega)),fun _ _=>bk (uo rfl rfl (r:=(((X / 4294967296 ^ (j+dn b - 1)):Nat):Int)) (Eq.trans (j6 (k:=32) _ _ og (Nat.mod_lt _ (by decide)) og) (congrArg (fun x:Nat=>(x:Int)) D.hi_two.symm))),fun _ _=>bk (aA rfl),trivial⟩ ?_
     clear h ac wo; intro ξ ac wo hφ h
     replace h:St w0 304 [(9,sv8),(12,(.int .i64 ((s:Nat):Int))),(13,sv6),(14,(.int .i64 (((dn b):Nat):Int))),(15,sv9),(16,(.int .i64 ((j:Nat):Int))),(17,(.int .u64 (((X / 4294967296 ^ (j+dn b - 1)):Nat):Int)))] [.row (α:=Nat) 343 sv9 (dgs (dn a+1 - dn b) Z),.row (α:=Nat) 343 sv8 (dgs (dn b) (b*2 ^ s)),.row (α:=Nat) 343 sv6 (dgs (dn a+1) X),.row (α:=Nat) 343 sv5 (dgs (dn a) a),.row (α:=Nat) 343 sv3 (dgs (dn b) b)] ac wo:=h.sub ⟨rfl,rfl,rfl,rfl,rfl,rfl,rfl,trivial⟩
     clear hφ ξ
     refine hK25 _ _ ?_
     refine uR fun K26 hK26=>?_
     refine fU mixed [dv _,dv _,dv _,dv _,dv _,dw _ [1],dv _,dv _,dv _,dv _,dv _,dv _,dv _,dw _ [1],dv _,dv _,dv _,dv _] [⟨_,[]⟩,⟨_,[]⟩,⟨_,[]⟩,⟨_,[]⟩,⟨_,[]⟩] h rfl (by kernel_rfl) ⟨fun _ _=>om rfl,fun _ _=>om rfl,fun _ _=>om rfl,fun _ _=>bk (fv rfl rfl (r:=(((dn b - 1):Nat):Int)) (by rw [IntKind.wrap_i64]; omega)),fun _ _=>bk (iT (i:=(dn b - 1)) uu341 zz343 rfl rfl (h.dnn 1 rfl og) og),fun _ _=>jB _ rfl rfl (iM (k:=0) aa343 zz343 D.y_top rfl (Nat.add_zero _) rfl rfl (v:=(.int .u32 ((((b*2 ^ s) / 4294967296 ^ (dn b - 1)):Nat):Int))) rfl),fun _ _=>bk (a8 uu343 uu260 rfl (r:=((((b*2 ^ s) / 4294967296 ^ (dn b - 1)):Nat):Int)) (by rw [IntKind.wrap_u64]; omega)),fun _ _=>bk (oV rfl rfl (r:=((((X / 4294967296 ^ (j+dn b - 1)) / ((b*2 ^ s) / 4294967296 ^ (dn b - 1))):Nat):Int)) (nz_nat hv1h) (by rw [Int.tdiv_eq_ediv_of_nonneg (Int.natCast_nonneg _)]; exact qG (n:=(X / 4294967296 ^ (j+dn b - 1)) / ((b*2 ^ s) / 4294967296 ^ (dn b - 1))) (Nat.lt_of_le_of_lt (Nat.div_le_self _ _) og))),fun _ _=>om rfl,fun _ _=>om rfl,fun _ _=>om rfl,fun _ _=>bk (fv rfl rfl (r:=(((dn b - 1):Nat):Int)) (by rw [IntKind.wrap_i64]; omega)),fun _ _=>bk (iT (i:=(dn b - 1)) uu341 zz343 rfl rfl (h.dnn 1 rfl og) og),fun _ _=>jB _ rfl rfl (iM (k:=0) aa343 zz343 D.y_top rfl (Nat.add_zero _) rfl rfl (v:=(.int .u32 ((((b*2 ^ s) / 4294967296 ^ (dn b - 1)):Nat):Int))) rfl),fun _ _=>bk (a8 uu343 uu260 rfl (r:=((((b*2 ^ s) / 4294967296 ^ (dn b - 1)):Nat):Int)) (by rw [IntKind.wrap_u64]; omega)),fun _ _=>bk (ru rfl rfl (r:=((((X / 4294967296 ^ (j+dn b - 1)) % ((b*2 ^ s) / 4294967296 ^ (dn b - 1))):Nat):Int)) (nz_nat hv1h) (by rw [Int.tmod_eq_emod_of_nonneg (Int.natCast_nonneg _)]; rfl)),fun _ _=>bk (aA rfl),fun _ _=>bk (aA rfl),trivial⟩ ?_
     clear h ac wo; intro ξ ac wo hφ h
     replace h:St w0 304 [(9,sv8),(12,(.int .i64 ((s:Nat):Int))),(13,sv6),(14,(.int .i64 (((dn b):Nat):Int))),(15,sv9),(16,(.int .i64 ((j:Nat):Int))),(18,(.int .u64 ((((X / 4294967296 ^ (j+dn b - 1)) / ((b*2 ^ s) / 4294967296 ^ (dn b - 1))):Nat):Int))),(19,(.int .u64 ((((X / 4294967296 ^ (j+dn b - 1)) % ((b*2 ^ s) / 4294967296 ^ (dn b - 1))):Nat):Int)))] [.row (α:=Nat) 343 sv9 (dgs (dn a+1 - dn b) Z),.row (α:=Nat) 343 sv8 (dgs (dn b) (b*2 ^ s)),.row (α:=Nat) 343 sv6 (dgs (dn a+1) X),.row (α:=Nat) 343 sv5 (dgs (dn a) a),.row (α:=Nat) 343 sv3 (dgs (dn b) b)] ac wo:=h.sub ⟨rfl,rfl,rfl,rfl,rfl,rfl,rfl,rfl,trivial⟩
     clear hφ ξ
     refine hK26 _ _ ?_
     refine xj (fun a_ w_=>∃ (g:Nat),((X / 4294967296 ^ j / (b*2 ^ s))≤g)∧(g≤(X / 4294967296 ^ j / (b*2 ^ s))+1∧g < 4294967296)∧St w0 304 [(9,sv8),(12,(.int .i64 ((s:Nat):Int))),(13,sv6),(14,(.int .i64 (((dn b):Nat):Int))),(15,sv9),(16,(.int .i64 ((j:Nat):Int))),(18,(.int .u64 ((g:Nat):Int)))] [.row (α:=Nat) 343 sv9 (dgs (dn a+1 - dn b) Z),.row (α:=Nat) 343 sv8 (dgs (dn b) (b*2 ^ s)),.row (α:=Nat) 343 sv6 (dgs (dn a+1) X),.row (α:=Nat) 343 sv5 (dgs (dn a) a),.row (α:=Nat) 343 sv3 (dgs (dn b) b)] a_ w_) (fun K27 hK27=>?_) ?_
     ·
      exact o5 hda hdb hdl hn2 hs31 hs32 hYn hYh hJ D (h.sub ⟨rfl,rfl,rfl,rfl,rfl,rfl,rfl,rfl,trivial⟩) hK27
     ·
      clear h ac wo; intro ac wo h
      obtain ⟨g,hge,hgd,h⟩:=h
      refine gz h <| gr fun K33 hK33=>g0 (aA rfl) rfl <| g0 (aA rfl) rfl <| gn hK33 ?_; clear h ac wo; intro ac wo h
      refine xj (fun a_ w_=>St w0 304 [(9,sv8),(12,(.int .i64 ((s:Nat):Int))),(13,sv6),(14,(.int .i64 (((dn b):Nat):Int))),(15,sv9),(16,(.int .i64 ((j:Nat):Int))),(18,(.int .u64 ((g:Nat):Int))),(20,(.int .i64 (((bw (X / 4294967296 ^ j+4294967296 ^ (dn b+1)) (g*(b*2 ^ s)) (dn b)):Nat):Int))),(21,(.int .u64 (((mc 0 g (b*2 ^ s) (dn b)):Nat):Int)))] [.row (α:=Nat) 343 sv9 (dgs (dn a+1 - dn b) Z),.row (α:=Nat) 343 sv8 (dgs (dn b) (b*2 ^ s)),.row (α:=Nat) 343 sv6 (dgs (dn a+1) (mx X (j+(dn b)) ((X / 4294967296 ^ j+4294967296 ^ (dn b+1) - g*(b*2 ^ s))*4294967296 ^ j+X % 4294967296 ^ j))),.row (α:=Nat) 343 sv5 (dgs (dn a) a),.row (α:=Nat) 343 sv3 (dgs (dn b) b)] a_ w_) (fun K34 hK34=>?_) ?_
      ·
       exact o4 hda hdb hdl hn2 hs31 hs32 hYn hYh hJ D hge hgd (h.sub ⟨rfl,rfl,rfl,rfl,rfl,rfl,rfl,rfl,rfl,trivial⟩) hK34
      ·
       clear h ac wo; intro ac wo h
       refine qD fun K46 hK46=>?_
       have hsb:=Hid.mk (D.sub_step hgd.2 (i:=dn b) (Nat.le_refl _))
       have hbl:=aad (X / 4294967296 ^ j+4294967296 ^ (dn b+1)) (g*(b*2 ^ s)) (dn b)
       have hpt:=D.prod_top hgd.2
       have hsn:=D.sign_neg hgd.2
       have hsp:=D.sign_pos hgd.2
       refine rd0 h (ay rfl) rfl <| g0 (ay rfl) rfl <| g0 (ay rfl) rfl <| g0 (eV rfl rfl (r:=((j+(dn b):Nat):Int)) (by rw [IntKind.wrap_i64]; omega)) rfl ?_; clear h ac wo; intro ac wo h
       refine rd0 h (iT (i:=(j+(dn b))) uu341 zz343 rfl rfl (h.dnn 2 rfl og) og) rfl <| g1 2 rfl (iM (k:=0) aa343 zz343 (jb og) rfl (Nat.add_zero _) rfl rfl (v:=(.int .u32 (((X / 4294967296 ^ (j+dn b) % 4294967296):Nat):Int))) rfl) rfl <| g0 (a8 uu343 uu2 rfl (r:=(((X / 4294967296 ^ (j+dn b) % 4294967296):Nat):Int)) (by rw [IntKind.wrap_i64]; omega)) rfl <| g0 (ay rfl) rfl <| g0 (fv rfl rfl (r:=((((X / 4294967296 ^ (j+dn b) % 4294967296):Nat):Int) - (((bw (X / 4294967296 ^ j+4294967296 ^ (dn b+1)) (g*(b*2 ^ s)) (dn b)):Nat):Int))) (wsub1 (Nat.mod_lt _ (by decide)) hbl)) rfl <| g0 (ay rfl) rfl <| g0 (a8 uu260 uu2 rfl (r:=((g*(b*2 ^ s) / 4294967296 ^ (dn b) % 4294967296:Nat):Int)) (by rw [hpt,IntKind.wrap_i64]; omega)) rfl <| g0 (fv rfl rfl (r:=(((((X / 4294967296 ^ (j+dn b) % 4294967296):Nat):Int) - (((bw (X / 4294967296 ^ j+4294967296 ^ (dn b+1)) (g*(b*2 ^ s)) (dn b)):Nat):Int)) - ((g*(b*2 ^ s) / 4294967296 ^ (dn b) % 4294967296:Nat):Int))) (wsub2 (Nat.mod_lt _ (by decide)) hbl (Nat.mod_lt _ (by decide)))) rfl <| g0 (aA rfl) rfl <| gn hK46 <| gr fun K47 hK47=>g0 (ay rfl) rfl <| g0 (ay rfl) rfl <| g0 (ay rfl) rfl <| g0 (eV rfl rfl (r:=((j+(dn b):Nat):Int)) (by rw [IntKind.wrap_i64]; omega)) rfl <| g0 (ay rfl) rfl <| g0 (a8 uu2 uu343 rfl (r:=(((X / 4294967296 ^ j+4294967296 ^ (dn b+1) - g*(b*2 ^ s)) / 4294967296 ^ (dn b) % 4294967296:Nat):Int)) (wcon3 (Nat.mod_lt _ (by decide)) hbl (Nat.mod_lt _ (by decide)) hsb.out.2)) rfl ?_; clear h ac wo; intro ac wo h
       refine rd0 h (iT (i:=(j+(dn b))) uu341 zz343 rfl rfl (h.dnn 2 rfl og) og) rfl ?_; clear h ac wo; intro ac wo h
       refine up h 2 rfl (g5 (k:=0) (u':=((X / 4294967296 ^ j+4294967296 ^ (dn b+1) - g*(b*2 ^ s)) / 4294967296 ^ (dn b) % 4294967296)) zz343 (jb og) rfl rfl rfl rfl rfl rfl rfl rfl) ?_; clear h ac wo; intro ac wo h
       replace h:=h.rowEq 2 rfl (D.set_top)
       refine fW ?_
       refine hK47 _ _ ?_
       refine xj (fun a_ w_=>St w0 304 [(9,sv8),(12,(.int .i64 ((s:Nat):Int))),(13,sv6),(14,(.int .i64 (((dn b):Nat):Int))),(15,sv9),(16,(.int .i64 ((j:Nat):Int))),(18,(.int .u64 (((X / 4294967296 ^ j / (b*2 ^ s)):Nat):Int)))] [.row (α:=Nat) 343 sv9 (dgs (dn a+1 - dn b) Z),.row (α:=Nat) 343 sv8 (dgs (dn b) (b*2 ^ s)),.row (α:=Nat) 343 sv6 (dgs (dn a+1) (qy X (b*2 ^ s) j)),.row (α:=Nat) 343 sv5 (dgs (dn a) a),.row (α:=Nat) 343 sv3 (dgs (dn b) b)] a_ w_) (fun K48 hK48=>?_) ?_
       ·
        exact o3 hda hdb hdl hn2 hs31 hs32 hYn hYh hJ D hge hgd (h.sub ⟨rfl,rfl,rfl,rfl,rfl,rfl,rfl,rfl,trivial⟩) hK48
       ·
        clear h ac wo; intro ac wo h
        refine gz h <| gR <| g0 (ay rfl) rfl <| g0 (ay rfl) rfl <| g0 (ay rfl) rfl <| g0 (a8 uu260 uu343 rfl (r:=(((X / 4294967296 ^ j / (b*2 ^ s)):Nat):Int)) (wl D.q_lt)) rfl ?_; clear h ac wo; intro ac wo h
        refine rd0 h (iT (i:=j) uu341 zz343 rfl rfl (h.dnn 0 rfl og) og) rfl ?_; clear h ac wo; intro ac wo h
        refine up h 0 rfl (g5 (k:=0) (u':=(X / 4294967296 ^ j / (b*2 ^ s))) zz343 (d9 (n:=(dn a+1 - dn b)) og) rfl rfl rfl rfl rfl rfl rfl rfl) ?_; clear h ac wo; intro ac wo h
        replace h:=h.rowEq 0 rfl (vU (q_digit hZ) D.q_lt)
        refine gz h <| gx (fun _ _=>fW) <| gN <| gx hK24 <| gR <| g0 (ay rfl) rfl <| g0 (fv rfl rfl (r:=(((j:Nat):Int) - 1)) (by rw [IntKind.wrap_i64]; omega)) rfl <| g0 (aA rfl) rfl <| gx (fun _ _=>fW) ?_; clear h ac wo; intro ac wo h
        exact az ⟨_,og,j,(qy X (b*2 ^ s) j),(Z+(X / 4294967296 ^ j / (b*2 ^ s))*4294967296 ^ j),rfl,og,(nextX_lt D.pos),(by rw [yC]; exact hsum),(yB hZ),h.re [0,1,2,3,4]⟩
    ·
     have hd4:=of_decide_eq_false hc4
     have hJ0:J=0:=by omega
     subst hJ0
     rw [Nat.pow_zero,Nat.mul_one] at hXl
     obtain ⟨hq,hr⟩:=div_end hb hXl hsum
     refine gz h <| gE <| gx hK20 <| gr fun K59 hK59=>g0 (ay rfl) rfl ?_; clear h ac wo; intro ac wo h
     refine nw h (mu (n:=(dn b)) ((0:Nat)) rfl pE rfl rfl rfl og og) rfl ?_; clear h ac wo; intro sv10 ac wo nnsv10 h
     refine rd0 h (aA rfl) rfl <| gn hK59 <| gq fun K60 hK60=>gr fun K61 hK61=>g0 (ay rfl) rfl <| g0 (ay rfl) rfl <| gn hK61 <| gB ?_; clear h ac wo; intro ac wo h
     replace h:=h.rowEq 0 rfl (by rw [rN]; exact (nH _).symm:(List.replicate (dn b) (0:Nat))=(dgs (dn b) (mx 0 0 (X / 2 ^ s))))
     refine wp_loop_ghost (fun n_ a_ w_=>∃ (i:Nat),n_=dn b - i∧(i≤dn b)∧St w0 304 [(12,(.int .i64 ((s:Nat):Int))),(13,sv6),(15,sv9),(27,sv10),(276,(.int .i64 (((dn b):Nat):Int))),(277,(.int .i64 ((i:Nat):Int)))] [.row (α:=Nat) 343 sv10 (dgs (dn b) (mx 0 i (X / 2 ^ s))),.row (α:=Nat) 343 sv9 (dgs (dn a+1 - dn b) Z),.row (α:=Nat) 343 sv8 (dgs (dn b) (b*2 ^ s)),.row (α:=Nat) 343 sv6 (dgs (dn a+1) X),.row (α:=Nat) 343 sv5 (dgs (dn a) a),.row (α:=Nat) 343 sv3 (dgs (dn b) b)] a_ w_) _ ⟨0,rfl,og,h.re [0,1,2,3,4,5]⟩ ?_
     clear h ac wo; rintro _ ac wo ⟨i,rfl,hi,h⟩
     refine gz h <| gr fun K62 hK62=>g0 (jT rfl rfl) rfl <| gn hK62 <| gq fun K63 hK63=>?_; clear h ac wo; intro ac wo h
     refine ku h rfl (fun hc11=>?_) (fun hc11=>?_)
     ·
      have hd11:=of_decide_eq_true hc11
      refine gz h <| gS <| gx hK63 <| gq fun K64 hK64=>gB <| gr fun K65 hK65=>g0 (ay rfl) rfl <| g0 (aA rfl) rfl <| gn hK65 ?_; clear h ac wo; intro ac wo h
      refine fU mixed [dv _,dv _,dv _,dv _,dv _,dv _,dw _ [3],dv _,dv _,dv _,dv _,dv _,dw _ [3],dv _,dv _,dv _,dv _,dv _,dv _,dw _ [0]] [⟨.row (α:=Nat) 343 sv10 (dgs (dn b) (mx 0 i (X / 2 ^ s))),[(19,.con (.row (α:=Nat) 343 sv10 ((dgs (dn b) (mx 0 i (X / 2 ^ s))).set i (X / 2 ^ s / 4294967296 ^ i % 4294967296))))]⟩,⟨_,[]⟩,⟨_,[]⟩,⟨_,[]⟩,⟨_,[]⟩,⟨_,[]⟩] h rfl (by kernel_rfl) ⟨fun _ _=>om rfl,fun _ _=>om rfl,fun _ _=>om rfl,fun _ _=>om rfl,fun _ _=>bk (eV rfl rfl (r:=((i+1:Nat):Int)) (by rw [IntKind.wrap_i64]; omega)),fun _ _=>bk (iT (i:=(i+1)) uu341 zz343 rfl rfl (h.dnn 3 rfl og) og),fun _ _=>jB _ rfl rfl (iM (k:=0) aa343 zz343 (d9 (n:=(dn a+1)) og) rfl (Nat.add_zero _) rfl rfl (v:=(.int .u32 (((X / 4294967296 ^ (i+1) % 4294967296):Nat):Int))) rfl),fun _ _=>bk (a8 uu343 uu260 rfl (r:=(((X / 4294967296 ^ (i+1) % 4294967296):Nat):Int)) (by rw [IntKind.wrap_u64]; omega)),fun _ _=>bk (sS rfl rfl (r:=(((X / 4294967296 ^ (i+1) % 4294967296*2 ^ 32):Nat):Int)) (by decide) (by decide) (qF rfl og)),fun _ _=>om rfl,fun _ _=>om rfl,fun _ _=>bk (iT (i:=i) uu341 zz343 rfl rfl (h.dnn 3 rfl og) og),fun _ _=>jB _ rfl rfl (iM (k:=0) aa343 zz343 (d9 (n:=(dn a+1)) og) rfl (Nat.add_zero _) rfl rfl (v:=(.int .u32 (((X / 4294967296 ^ i % 4294967296):Nat):Int))) rfl),fun _ _=>bk (a8 uu343 uu260 rfl (r:=(((X / 4294967296 ^ i % 4294967296):Nat):Int)) (by rw [IntKind.wrap_u64]; omega)),fun _ _=>bk (uo rfl rfl (r:=(((X / 4294967296 ^ (i+1) % 4294967296*4294967296+X / 4294967296 ^ i % 4294967296):Nat):Int)) (j6 (k:=32) _ _ og (Nat.mod_lt _ (by decide)) og)),fun _ _=>om rfl,fun _ _=>bk (ng rfl rfl (r:=((((X / 4294967296 ^ (i+1) % 4294967296*4294967296+X / 4294967296 ^ i % 4294967296) / 2 ^ s):Nat):Int)) og (by simp [IntKind.bits] <;> omega) (shr_nat rfl)),fun _ _=>bk (a8 uu260 uu343 rfl (r:=((X / 2 ^ s / 4294967296 ^ i % 4294967296:Nat):Int)) (by rw [xW hs32 i,IntKind.wrap_u32']; omega)),fun _ _=>bk (iT (i:=i) uu341 zz343 rfl rfl (h.dnn 0 rfl og) og),fun _ _=>lS _ [.row (α:=Nat) 343 sv10 ((dgs (dn b) (mx 0 i (X / 2 ^ s))).set i (X / 2 ^ s / 4294967296 ^ i % 4294967296))] rfl rfl (g5 (k:=0) (u':=(X / 2 ^ s / 4294967296 ^ i % 4294967296)) zz343 (jb og) rfl rfl rfl rfl rfl rfl rfl rfl),trivial⟩ ?_
      clear h ac wo; intro ξ ac wo hφ h
      replace h:St w0 304 [(12,(.int .i64 ((s:Nat):Int))),(13,sv6),(15,sv9),(27,sv10),(276,(.int .i64 (((dn b):Nat):Int))),(277,(.int .i64 ((i:Nat):Int)))] [.row (α:=Nat) 343 sv10 ((dgs (dn b) (mx 0 i (X / 2 ^ s))).set i (X / 2 ^ s / 4294967296 ^ i % 4294967296)),.row (α:=Nat) 343 sv9 (dgs (dn a+1 - dn b) Z),.row (α:=Nat) 343 sv8 (dgs (dn b) (b*2 ^ s)),.row (α:=Nat) 343 sv6 (dgs (dn a+1) X),.row (α:=Nat) 343 sv5 (dgs (dn a) a),.row (α:=Nat) 343 sv3 (dgs (dn b) b)] ac wo:=h.sub ⟨rfl,rfl,rfl,rfl,rfl,rfl,trivial⟩
      clear hφ ξ
      refine gz h <| gN <| gx hK64 <| gR <| g0 (eV rfl rfl (r:=((i+1:Nat):Int)) (by rw [IntKind.wrap_i64]; omega)) rfl <| g0 (ay rfl) rfl <| gx (fun _ _=>fW) ?_; clear h ac wo; intro ac wo h
      replace h:=h.rowEq 0 rfl (mC:((dgs (dn b) (mx 0 i (X / 2 ^ s))).set i (X / 2 ^ s / 4294967296 ^ i % 4294967296))=(dgs (dn b) (mx 0 (i+1) (X / 2 ^ s))))
      exact az ⟨_,og,i+1,rfl,og,h.re [0,1,2,3,4,5]⟩
     ·
      have hd11:=of_decide_eq_false hc11
      refine kd ?_
      refine hK60 _ _ ?_
      refine qD fun K66 hK66=>?_
      have hie:i=dn b:=by omega
      subst hie
      have hRl:X / 2 ^ s < 4294967296 ^ dn b:=by rw [hr]; exact Nat.lt_trans (Nat.mod_lt _ hb) (i5 b)
      replace h:=h.rowEq 0 rfl (by rw [ta (i6 _) hRl]:(dgs (dn b) (mx 0 (dn b) (X / 2 ^ s)))=(dgs (dn b) (X / 2 ^ s)))
      have hZl:Z < 4294967296 ^ (dn a+1 - dn b):=by
       rw [hq]
       have h1:=tQ hle hs31 hYh
       rw [Nat.div_lt_iff_lt_mul hb]
       rw [Nat.mul_right_comm] at h1
       have h2:=Nat.lt_of_mul_lt_mul_right h1
       rwa [Nat.mul_comm] at h2
      refine rd0 h (ay rfl) rfl ?_; clear h ac wo; intro ac wo h
      refine clq h cc275 (vs:=[sv9]) rfl (fun w_ hB_ hS_=>eU (dn a+1 - dn b) Z sv9 hZl og w_ (row_view hS_ 1 rfl)) rfl ?_; clear h ac wo; intro ac wo h
      refine rd0 h (ay rfl) rfl ?_; clear h ac wo; intro ac wo h
      refine clq h cc275 (vs:=[sv10]) rfl (fun w_ hB_ hS_=>eU (dn b) (X / 2 ^ s) sv10 hRl og w_ (row_view hS_ 0 rfl)) rfl ?_; clear h ac wo; intro ac wo h
      refine rd0 h (aA rfl) rfl <| g0 (aA rfl) rfl <| gn hK66 <| gT ?_; clear h ac wo; intro ac wo h
      have hd:bH a b=(Z,(X / 2 ^ s)):=(by unfold bH; rw [hq,hr])
      exact (rt h) (h.retP (by rw [hd] <;> rfl) ⟨ip za (Nat.div_le_self _ _),ip za (Nat.mod_le _ _)⟩)
end Go.Sx
