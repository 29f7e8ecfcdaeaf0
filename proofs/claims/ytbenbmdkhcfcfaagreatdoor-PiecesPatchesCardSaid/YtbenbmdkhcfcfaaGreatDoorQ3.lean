import Derived.Test.YtbenbmdkhcfcfaaGreatDoorQ1
set_option linter.unusedVariables false
set_option linter.unusedSimpArgs false
open Go.Proofs.Tryz renaming prog → zP, isAgg71 → aa71, sizeOf71 → zz71, isAgg4 → aa4, underlying4 → nn4, runUnderlying55 → uu55, runUnderlying50 → uu50, runUnderlying126 → uu126, runUnderlying86 → uu86, runUnderlying66 → uu66, sizeOf4 → zz4, sizeOf53 → zz53, runUnderlying264 → uu264
open Go.IntKind renaming wrap_i64 → wI
set_option maxRecDepth 100000
set_option maxHeartbeats 40000000
namespace Go.Sx
open Go Go.RowKit Go.Proofs
attribute [local irreducible] Code.wp wpList Rd gW ObS Ent
attribute [local irreducible] an bB ah aO az c8
theorem eqi86:EqIn zP 5 86 vV:=eqS (c:=cV) (fun _=>rfl) Tryz.underlying86 Tryz.stoodInHeld86 fun d x y w hd=>by
 refine Eq.trans (eqF DC (eV aa71 zz71 (v:=vR (x.lo)) rfl w) (eV aa71 zz71 (v:=vR (y.lo)) rfl w) (yj d _ _ w og) (eqF DC (eV aa71 zz71 (v:=vR (x.hi)) rfl w) (eV aa71 zz71 (v:=vR (y.hi)) rfl w) (yj d _ _ w og) (eqF DC (ip aa4 rfl w) (ip aa4 rfl w) (eqB nn4 d og _ _ w) (eqF DC (ip aa4 rfl w) (ip aa4 rfl w) (eqB nn4 d og _ _ w) eqF0)))) ?_
 congr 1
 rw [decide_eq_decide]
 cases x; cases y; simp
theorem eqp86:EqP zP 86 vV:=EqIn.p (k:=5) rfl (c:=fun x=>(cV x).toArray) (fun _=>rfl) Tryz.eqGuardType86 eqi86
instance zi57:Ep zP 86 Iv inferInstance vV:=⟨eqp86⟩
theorem uE:SlT zP 164 264 32 360 (zc [2,2,2,2,1,2,2,2,2,1,1,1,2,2,2,2,2,2]):=⟨Tryz.underlying164,Tryz.t264,_,Tryz.type264,rfl,rfl,rfl,rfl,rfl,by decide,by decide⟩
theorem mr (w : World) : (method (Tryz.prog.types.size + Made.depth) 55 (.agg #[]) "Equal").run zP w = .ok (367, .agg #[]) w := kM (P := zP) (T := 55) Tryz.type55 (by kernel_rfl) uu55 w
instance zi58 : Mt zP 55 (.agg #[]) "Equal" 367 := ⟨mr⟩
theorem lJ (w : World) : (nilAhead (Tryz.prog.types.size + Made.depth) 55 (.agg #[]) "Equal").run zP w = .ok (some false) w := jn (P := zP) (T := 55) (f := 367) Tryz.type55 (by kernel_rfl) uu55 w
instance zi59 : Nl zP 55 (.agg #[]) "Equal" := ⟨lJ⟩
def jb (l:List (U Qd)) (more:List GR) (out:List GR) (i:Nat):(List GR) :=
 out
def de (l:List (U Qd)) (more:List GR) (out:List GR) (i:Nat):Nx ((List GR)×Nat) (List GR) :=
 bif (decide ((i:Int) < (l.length:Int))) then
  .go ((aw (aw out (((gt l i).iv).lo)) (((gt l i).iv).hi)),(i+1))
 else
  .out (out,i)
def am (l:List (U Qd)) (more:List GR):(List GR) :=
 fin (bt (fun s=>de l more s.1 s.2) ((l.length - 0)+1) (more,0)) (fun s=>jb l more s.1 s.2) (fun r=>r)
theorem ja (l:List (U Qd)) (lv:Value) (more:List GR) (morev:Value) (hl:l.length≤100) (hm:more.length≤100) (zl:All (gk 30) l) (zmore:All (SzR 30) more) (w0 w:World) (B:Asn) (hbel:Below w0.heap.size w0 w) (hsep:∃ Z_,Sep w0.heap.size w [.row (α:=GR) 71 morev more,B] Z_) (hlv:View w0 lv l):Calls zP 61 #[lv,morev] w (RetY w0 (fun v=>All (SzR 30) (am l more)∧(am l more).length≤more.length+2*l.length) (fun v=>[.row (α:=GR) 71 v (am l more),B])):=by
 refine lU (N:=30) Tryz.func61 rfl rfl hbel hsep ?_; intro ac h
 have hlenl:=hlv.len
 have hlenmore:=h.len 0 rfl
 obtain ⟨X1,hX1⟩:∃ X,bt (fun s=>de l more s.1 s.2) ((l.length - 0)+1) (more,0)=X:=⟨_,rfl⟩
 refine gz h <| (W) ?_; clear h ac; intro ac wo h
 refine wp_loop_ghost (fun n_ a_ w_=>∃ (out:List GR) (i:Nat) (outv:Value),((l.length - i) < n_)∧(bt (fun s=>de l more s.1 s.2) n_ (out,i)=X1)∧(i≤l.length)∧(All (SzR 30) out)∧(out.length≤more.length+2*i)∧St w0 30 [(0,lv),(5,outv),(6,(iN i))] [.row (α:=GR) 71 outv out,B] a_ w_) ((l.length - 0)+1) ⟨more,0,morev,og,hX1,og,zmore,og,h.rs⟩ ?_
 clear h ac wo; rintro n1 ac wo ⟨out,i,outv,hm1,hL1,hi,zout,hol,h⟩
 obtain ⟨m1,rfl⟩:∃ m,n1=m+1:=⟨n1 - 1,by omega⟩
 refine gz h <| (ai) ?_ ?_ <;> clear h ac wo <;> intro ac wo h hc1
 ·
  have hd1:=of_decide_eq_true hc1
  refine gz h <| (W) ?_; clear h ac wo; intro ac wo h
  refine im mixed [dv _,dv _,dv _,dv _,dv _,dv _,dv _,⟨.nd (.con (All (SzR 30) (aw out (((gt l i).iv).lo))∧(aw out (((gt l i).iv).lo)).length≤out.length+1)),[0]⟩,dv _,dv _,dv _,dv _,dv _,dv _,⟨.nd (.con (All (SzR 30) (aw (aw out (((gt l i).iv).lo)) (((gt l i).iv).hi))∧(aw (aw out (((gt l i).iv).lo)) (((gt l i).iv).hi)).length≤(aw out (((gt l i).iv).lo)).length+1)),[0]⟩,⟨.nd (.two 15 14 fun a b=>a=b),[]⟩] [⟨.row (α:=GR) 71 outv out,[(7,.one 7 fun v=>.row (α:=GR) 71 v (aw out (((gt l i).iv).lo))),(14,.one 14 fun v=>.row (α:=GR) 71 v (aw (aw out (((gt l i).iv).lo)) (((gt l i).iv).hi)))]⟩,ge _] h rfl (by kernel_rfl) ⟨fun _ _=>om rfl,fun _ _=>om rfl,fun _ _=>om rfl,fun _ _=>bg (iy (i:=i) uu50 Tryz.sizeOf126 rfl rfl (hlv.nn (i:=i) og) og),fun _ _=>bg (fs uu126 rfl Tryz.sizeOf86 rfl (hlv.nn (i:=0) og) rfl rfl (k':=i*32+0)),fun _ _=>bg (fs uu86 rfl zz71 rfl (hlv.nn (i:=0) og) rfl (by first | rfl | (simp only [Nat.add_assoc] <;> rfl)) (k':=i*32+0)),fun _ _=>bg (lE (k:=0) aa71 zz71 hlv (ff og) rfl rfl rfl rfl (v:=(vR (((gt l i).iv).lo))) rfl),fun _ _=>mo (ψ:=fun _=>All (SzR 30) (aw out (((gt l i).iv).lo))∧(aw out (((gt l i).iv).lo)).length≤out.length+1) (B:=fun v=>[.row (α:=GR) 71 v (aw out (((gt l i).iv).lo))]) [.row (α:=GR) 71 outv out] rfl (fun v _=>by simp only [dO,bA] <;> rfl) (fun v hv=>hv) (ji (vs:=[outv,(vR (((gt l i).iv).lo))]) (A:=fun v=>[.row (α:=GR) 71 v (aw out (((gt l i).iv).lo))]) (ck Tryz.call156 rfl) (fun w_ B_ hB_ hS_=>jT out outv (((gt l i).iv).lo) og zout ((All.gt zl (bL _)).1).1 w0 w_ B_ hB_ hS_ )),fun _ _=>om rfl,fun _ _=>om rfl,fun _ _=>bg (iy (i:=i) uu50 Tryz.sizeOf126 rfl rfl (hlv.nn (i:=i) og) og),fun _ _=>bg (fs uu126 rfl Tryz.sizeOf86 rfl (hlv.nn (i:=0) og) rfl rfl (k':=i*32+0)),fun _ _=>bg (fs uu86 rfl zz71 rfl (hlv.nn (i:=0) og) rfl (by first | rfl | (simp only [Nat.add_assoc] <;> rfl)) (k':=i*32+9)),fun _ _=>bg (lE (k:=9) aa71 zz71 hlv (ff og) rfl rfl rfl rfl (v:=(vR (((gt l i).iv).hi))) rfl),(fun ξ hφ=>by have of5_7:All (SzR 30) (aw out (((gt l i).iv).lo))∧(aw out (((gt l i).iv).lo)).length≤out.length+1:=hφ 7 rfl; have pof5_7:=of5_7.2; exact mo (ψ:=fun _=>All (SzR 30) (aw (aw out (((gt l i).iv).lo)) (((gt l i).iv).hi))∧(aw (aw out (((gt l i).iv).lo)) (((gt l i).iv).hi)).length≤(aw out (((gt l i).iv).lo)).length+1) (B:=fun v=>[.row (α:=GR) 71 v (aw (aw out (((gt l i).iv).lo)) (((gt l i).iv).hi))]) [.row (α:=GR) 71 (ξ 7) (aw out (((gt l i).iv).lo))] rfl (fun v _=>by simp only [dO,bA] <;> rfl) (fun v hv=>hv) (ji (vs:=[(ξ 7),(vR (((gt l i).iv).hi))]) (A:=fun v=>[.row (α:=GR) 71 v (aw (aw out (((gt l i).iv).lo)) (((gt l i).iv).hi))]) (ck Tryz.call156 rfl) (fun w_ B_ hB_ hS_=>jT (aw out (((gt l i).iv).lo)) (ξ 7) (((gt l i).iv).hi) og of5_7.1 ((All.gt zl (bL _)).1).2 w0 w_ B_ hB_ hS_ ))),(fun ξ hφ=>by have of5_7:All (SzR 30) (aw out (((gt l i).iv).lo))∧(aw out (((gt l i).iv).lo)).length≤out.length+1:=hφ 7 rfl; have pof5_7:=of5_7.2; have of5_14:All (SzR 30) (aw (aw out (((gt l i).iv).lo)) (((gt l i).iv).hi))∧(aw (aw out (((gt l i).iv).lo)) (((gt l i).iv).hi)).length≤(aw out (((gt l i).iv).lo)).length+1:=hφ 14 rfl; have pof5_14:=of5_14.2; exact ob_n (φ:=.two 15 14 fun a b=>a=b) (v:=ξ 14) [] rfl rfl (by show upd ξ 15 (ξ 14) 15=upd ξ 15 (ξ 14) 14; rw [bA,lP DC]) (ay rfl)),trivial⟩ ?_
  clear h ac wo; intro ξ ac wo hφ h
  replace h:St w0 30 [(0,lv),(5,ξ 15),(6,(iN i))] [.row (α:=GR) 71 (ξ 14) (aw (aw out (((gt l i).iv).lo)) (((gt l i).iv).hi)),B] ac wo:=(h.pick [0,1] DC).sub ⟨rfl,rfl,rfl,trivial⟩
  have of5_7:All (SzR 30) (aw out (((gt l i).iv).lo))∧(aw out (((gt l i).iv).lo)).length≤out.length+1:=hφ 7
  have pof5_7:=of5_7.2
  have of5_14:All (SzR 30) (aw (aw out (((gt l i).iv).lo)) (((gt l i).iv).hi))∧(aw (aw out (((gt l i).iv).lo)) (((gt l i).iv).hi)).length≤(aw out (((gt l i).iv).lo)).length+1:=hφ 14
  have pof5_14:=of5_14.2
  rw [show ξ 15=ξ 14 from hφ 15] at h
  generalize hsv14:ξ 14=sv1 at h; clear hsv14
  clear hφ ξ
  have hg:=bI hL1 pt
  exact (nx h) fun _ _ h=>by exact ⟨m1,og,_,_,_,og,hg,og,of5_14.1,og,h.re [0,1]⟩
 ·
  have hd1:=of_decide_eq_false hc1
  have hx1:=cG hL1 pt
  have hd:am l more=out:=pt
  exact (rx h) fun _ _ h=>((h.pick [0,1] DC).retY (by rw [hd]; exact ⟨zout,og⟩) (by rw [hd]; rfl))
attribute [irreducible] am
def kS (l:List (U Qd)) (ts:List GR) (out:List (At Qd)) (i:Nat) (i2:Nat) (out2:List (At Qd)):(List (At Qd)) :=
 out2
def gp (l:List (U Qd)) (ts:List GR) (out:List (At Qd)) (i:Nat) (i2:Nat) (out2:List (At Qd)) (k3:Nat) (out3:List (At Qd)):Nx (Nat×(List (At Qd))) (List (At Qd)) :=
 .go ((i2+1),out3)
def cP (l:List (U Qd)) (ts:List GR) (out:List (At Qd)) (i:Nat) (i2:Nat) (out2:List (At Qd)) (k3:Nat) (out3:List (At Qd)):Nx (Nat×(List (At Qd))) (List (At Qd)) :=
 bif (decide ((k3:Int) < (l.length:Int))) then
  bif (aT ((gt l k3).iv) ((gt out3 i2).frm) ((gt out3 i2).til) ((gt out3 i2).gap)) then
   .go ((k3+1),(out3.set i2 (⟨(gt out3 i2).frm,(gt out3 i2).til,(gt out3 i2).gap,true,(gt l k3).f⟩:At Qd)))
  else
   .go ((k3+1),out3)
 else
  .out (k3,out3)
def cX (l:List (U Qd)) (ts:List GR) (out:List (At Qd)) (i:Nat) (i2:Nat) (out2:List (At Qd)):Nx (Nat×(List (At Qd))) (List (At Qd)) :=
 bif (decide ((i2:Int) < (out2.length:Int))) then
  fin (bt (fun s=>cP l ts out i i2 out2 s.1 s.2) ((l.length - 0)+1) (0,out2)) (fun s=>gp l ts out i i2 out2 s.1 s.2) (fun r=>.ret r)
 else
  .out (i2,out2)
def gu (l:List (U Qd)) (ts:List GR) (out:List (At Qd)) (i:Nat):(List (At Qd)) :=
 fin (bt (fun s=>cX l ts out i s.1 s.2) ((out.length - 0)+1) (0,out)) (fun s=>kS l ts out i s.1 s.2) (fun r=>r)
def bY (l:List (U Qd)) (ts:List GR) (out:List (At Qd)) (i:Nat):Nx ((List (At Qd))×Nat) (List (At Qd)) :=
 bif (decide ((i:Int) < (ts.length:Int))) then
  bif (decide (((i+1:Nat):Int) < (ts.length:Int))) then
   .go (((out++[(⟨(gt ts i),(gt ts i),false,false,(⟨(⟨(⟨false,0⟩:GI),(⟨false,0⟩:GI)⟩:GQ),(⟨(⟨false,0⟩:GI),(⟨false,0⟩:GI)⟩:GQ),(⟨(⟨false,0⟩:GI),(⟨false,0⟩:GI)⟩:GQ)⟩:Qd)⟩:At Qd)])++[(⟨(gt ts i),(gt ts (i+1)),true,false,(⟨(⟨(⟨false,0⟩:GI),(⟨false,0⟩:GI)⟩:GQ),(⟨(⟨false,0⟩:GI),(⟨false,0⟩:GI)⟩:GQ),(⟨(⟨false,0⟩:GI),(⟨false,0⟩:GI)⟩:GQ)⟩:Qd)⟩:At Qd)]),(i+1))
  else
   .go ((out++[(⟨(gt ts i),(gt ts i),false,false,(⟨(⟨(⟨false,0⟩:GI),(⟨false,0⟩:GI)⟩:GQ),(⟨(⟨false,0⟩:GI),(⟨false,0⟩:GI)⟩:GQ),(⟨(⟨false,0⟩:GI),(⟨false,0⟩:GI)⟩:GQ)⟩:Qd)⟩:At Qd)]),(i+1))
 else
  .out (out,i)
def bT (l:List (U Qd)) (ts:List GR):(List (At Qd)) :=
 fin (bt (fun s=>bY l ts s.1 s.2) ((ts.length - 0)+1) ([],0)) (fun s=>gu l ts s.1 s.2) (fun r=>r)
theorem iO (l:List (U Qd)) (lv:Value) (ts:List GR) (tsv:Value) (hl:l.length≤1000) (ht:ts.length≤1000) (zl:All (gk 30) l) (zts:All (SzR 30) ts) (w0:World) (hlv:View w0 lv l) (htsv:View w0 tsv ts):Calls zP 110 #[lv,tsv] w0 (RetR w0 264 (bT l ts) (All (SzAD 30) (bT l ts)∧Alt (bT l ts)∧(bT l ts).length≤2*ts.length)):=by
 refine enter (N:=92) Tryz.func110 rfl rfl ?_; intro ac h
 have hlenl:=hlv.len
 have hlents:=htsv.len
 refine gz h <| (W) ?_; clear h ac; intro ac wo h
 replace h:=h.nilRow (α:=At Qd) 264
 obtain ⟨X1,hX1⟩:∃ X,bt (fun s=>bY l ts s.1 s.2) ((ts.length - 0)+1) ([],0)=X:=⟨_,rfl⟩
 refine wp_loop_ghost (fun n_ a_ w_=>∃ (out:List (At Qd)) (i:Nat) (outv:Value),((ts.length - i) < n_)∧(bt (fun s=>bY l ts s.1 s.2) n_ (out,i)=X1)∧(i≤ts.length)∧(All (SzAD 30) out)∧(out.length=2*i∨(i=ts.length∧out.length+1=2*i))∧(Alt out)∧St w0 92 [(0,lv),(1,tsv),(5,outv),(6,(iN i))] [.row (α:=At Qd) 264 outv out] a_ w_) ((ts.length - 0)+1) ⟨[],0,(.slice none 0 0),og,hX1,og,All.nil,(Or.inl rfl),Alt.nil,h.rs⟩ ?_
 clear h ac wo; rintro n1 ac wo ⟨out,i,outv,hm1,hL1,hi,zout,hol,hal,h⟩
 obtain ⟨m1,rfl⟩:∃ m,n1=m+1:=⟨n1 - 1,by omega⟩
 refine gz h <| (ai) ?_ ?_ <;> clear h ac wo <;> intro ac wo h hc1
 ·
  have hd1:=of_decide_eq_true hc1
  refine gz h <| (W) ?_; clear h ac wo; intro ac wo h
  replace h:=h.emps 1
  refine im mixed [dv _,dv _,dv _,dv _,dv _,dv _,dv _,dv _,dv _,dv _,⟨.nd (.one 10 fun v=>NN v 1),[1]⟩,⟨.nd (.con True),[0,1]⟩,⟨.nd (.two 12 11 fun a b=>a=b),[]⟩] [⟨.row (α:=At Qd) 264 outv out,[(11,.one 11 fun v=>.row (α:=At Qd) 264 v (out++[(⟨(gt ts i),(gt ts i),false,false,oD⟩:At Qd)]))]⟩,⟨.emp,[(10,.one 10 fun v=>.row (α:=At Qd) 264 v ([(⟨(gt ts i),(gt ts i),false,false,oD⟩:At Qd)]))]⟩] h rfl (by kernel_rfl) ⟨fun _ _=>om rfl,fun _ _=>om rfl,fun _ _=>om rfl,fun _ _=>bg (iy (i:=i) uu66 zz71 rfl rfl (htsv.nn (i:=i) og) og),fun _ _=>bg (lE (k:=0) aa71 zz71 htsv (ff og) rfl (Nat.add_zero _) rfl rfl (v:=(vR (gt ts i))) rfl),fun _ _=>om rfl,fun _ _=>om rfl,fun _ _=>bg (iy (i:=i) uu66 zz71 rfl rfl (htsv.nn (i:=i) og) og),fun _ _=>bg (lE (k:=0) aa71 zz71 htsv (ff og) rfl (Nat.add_zero _) rfl rfl (v:=(vR (gt ts i))) rfl),fun _ _=>bg (bN bld264 rfl rfl (v:=(vAD (⟨(gt ts i),(gt ts i),false,false,oD⟩:At Qd))) rfl),fun _ _=>mo (ψ:=fun v=>NN v 1) (B:=fun v=>[.row (α:=At Qd) 264 v ([(⟨(gt ts i),(gt ts i),false,false,oD⟩:At Qd)])]) [.emp] rfl (fun v _=>by simp only [dO,bA] <;> rfl) (fun v hv=>by simpa [DF.one,bA] using hv) (jX (cA (α:=At Qd) (xs:=[.tmp 24]) (vs:=[(vAD (⟨(gt ts i),(gt ts i),false,false,oD⟩:At Qd))]) [(⟨(gt ts i),(gt ts i),false,false,oD⟩:At Qd)] uE rfl rfl rfl DC)),fun ξ hφ=>mo (B:=fun v=>[.row (α:=At Qd) 264 v (out++[(⟨(gt ts i),(gt ts i),false,false,oD⟩:At Qd)]),.row (α:=At Qd) 264 (ξ 10) ([(⟨(gt ts i),(gt ts i),false,false,oD⟩:At Qd)])]) [.row (α:=At Qd) 264 outv out,.row (α:=At Qd) 264 (ξ 10) ([(⟨(gt ts i),(gt ts i),false,false,oD⟩:At Qd)])] rfl (fun v _=>by simp only [dO,bA] <;> rfl) (fun _ _=>trivial) (fe (xs:=out) (ys:=[(⟨(gt ts i),(gt ts i),false,false,oD⟩:At Qd)]) uE (fun w hs=>(row_view hs 0 rfl)) rfl rfl og),fun ξ hφ=>ob_n (φ:=.two 12 11 fun a b=>a=b) (v:=ξ 11) [] rfl rfl (by show upd ξ 12 (ξ 11) 12=upd ξ 12 (ξ 11) 11; rw [bA,lP DC]) (ay rfl),trivial⟩ ?_
  clear h ac wo; intro ξ ac wo hφ h
  replace h:St w0 92 [(0,lv),(1,tsv),(5,ξ 12),(6,(iN i))] [.row (α:=At Qd) 264 (ξ 11) (out++[(⟨(gt ts i),(gt ts i),false,false,oD⟩:At Qd)])] ac wo:=(h.pick [0] DC).sub ⟨rfl,rfl,rfl,rfl,trivial⟩
  rw [show ξ 12=ξ 11 from hφ 12] at h
  generalize hsv11:ξ 11=sv2 at h; clear hsv11
  clear hφ ξ
  refine gz h <| (ai) ?_ ?_ <;> clear h ac wo <;> intro ac wo h hc2
  ·
   have hd2:=of_decide_eq_true hc2
   replace h:=h.emps 1
   refine im mixed [dv _,dv _,dv _,dv _,dv _,dv _,dv _,dv _,dv _,dv _,dv _,⟨.nd (.one 11 fun v=>NN v 1),[1]⟩,⟨.nd (.con True),[0,1]⟩,⟨.nd (.two 13 12 fun a b=>a=b),[]⟩] [⟨.row (α:=At Qd) 264 sv2 (out++[(⟨(gt ts i),(gt ts i),false,false,oD⟩:At Qd)]),[(12,.one 12 fun v=>.row (α:=At Qd) 264 v ((out++[(⟨(gt ts i),(gt ts i),false,false,oD⟩:At Qd)])++[(⟨(gt ts i),(gt ts (i+1)),true,false,oD⟩:At Qd)]))]⟩,⟨.emp,[(11,.one 11 fun v=>.row (α:=At Qd) 264 v ([(⟨(gt ts i),(gt ts (i+1)),true,false,oD⟩:At Qd)]))]⟩] h rfl (by kernel_rfl) ⟨fun _ _=>om rfl,fun _ _=>om rfl,fun _ _=>om rfl,fun _ _=>bg (iy (i:=i) uu66 zz71 rfl rfl (htsv.nn (i:=i) og) og),fun _ _=>bg (lE (k:=0) aa71 zz71 htsv (ff og) rfl (Nat.add_zero _) rfl rfl (v:=(vR (gt ts i))) rfl),fun _ _=>om rfl,fun _ _=>om rfl,fun _ _=>bg (eH rfl rfl (r:=((i+1:Nat):Int)) (by rw [wI]; first | omega | grind)),fun _ _=>bg (iy (i:=(i+1)) uu66 zz71 rfl rfl (htsv.nn (i:=(i+1)) og) og),fun _ _=>bg (lE (k:=0) aa71 zz71 htsv (ff og) rfl (Nat.add_zero _) rfl rfl (v:=(vR (gt ts (i+1)))) rfl),fun _ _=>bg (bN bld264 rfl rfl (v:=(vAD (⟨(gt ts i),(gt ts (i+1)),true,false,oD⟩:At Qd))) rfl),fun _ _=>mo (ψ:=fun v=>NN v 1) (B:=fun v=>[.row (α:=At Qd) 264 v ([(⟨(gt ts i),(gt ts (i+1)),true,false,oD⟩:At Qd)])]) [.emp] rfl (fun v _=>by simp only [dO,bA] <;> rfl) (fun v hv=>by simpa [DF.one,bA] using hv) (jX (cA (α:=At Qd) (xs:=[.tmp 42]) (vs:=[(vAD (⟨(gt ts i),(gt ts (i+1)),true,false,oD⟩:At Qd))]) [(⟨(gt ts i),(gt ts (i+1)),true,false,oD⟩:At Qd)] uE rfl rfl rfl DC)),fun ξ hφ=>mo (B:=fun v=>[.row (α:=At Qd) 264 v ((out++[(⟨(gt ts i),(gt ts i),false,false,oD⟩:At Qd)])++[(⟨(gt ts i),(gt ts (i+1)),true,false,oD⟩:At Qd)]),.row (α:=At Qd) 264 (ξ 11) ([(⟨(gt ts i),(gt ts (i+1)),true,false,oD⟩:At Qd)])]) [.row (α:=At Qd) 264 sv2 (out++[(⟨(gt ts i),(gt ts i),false,false,oD⟩:At Qd)]),.row (α:=At Qd) 264 (ξ 11) ([(⟨(gt ts i),(gt ts (i+1)),true,false,oD⟩:At Qd)])] rfl (fun v _=>by simp only [dO,bA] <;> rfl) (fun _ _=>trivial) (fe (xs:=(out++[(⟨(gt ts i),(gt ts i),false,false,oD⟩:At Qd)])) (ys:=[(⟨(gt ts i),(gt ts (i+1)),true,false,oD⟩:At Qd)]) uE (fun w hs=>(row_view hs 0 rfl)) rfl rfl og),fun ξ hφ=>ob_n (φ:=.two 13 12 fun a b=>a=b) (v:=ξ 12) [] rfl rfl (by show upd ξ 13 (ξ 12) 13=upd ξ 13 (ξ 12) 12; rw [bA,lP DC]) (ay rfl),trivial⟩ ?_
   clear h ac wo; intro ξ ac wo hφ h
   replace h:St w0 92 [(0,lv),(1,tsv),(5,ξ 13),(6,(iN i))] [.row (α:=At Qd) 264 (ξ 12) ((out++[(⟨(gt ts i),(gt ts i),false,false,oD⟩:At Qd)])++[(⟨(gt ts i),(gt ts (i+1)),true,false,oD⟩:At Qd)])] ac wo:=(h.pick [0] DC).sub ⟨rfl,rfl,rfl,rfl,trivial⟩
   rw [show ξ 13=ξ 12 from hφ 13] at h
   generalize hsv12:ξ 12=sv3 at h; clear hsv12
   clear hφ ξ
   refine gz h <| (W) ?_; clear h ac wo; intro ac wo h
   have hnl:¬ (i=ts.length):=by omega
   have hg:=bI hL1 pt
   exact aD ⟨m1,og,_,_,_,og,hg,og,(All.app (All.app zout (All.cons ⟨(All.gt zts (m8 _)),(All.gt zts (m8 _)),⟨⟨(bJ 0 DC og),(bJ 0 DC og)⟩,⟨(bJ 0 DC og),(bJ 0 DC og)⟩,⟨(bJ 0 DC og),(bJ 0 DC og)⟩⟩⟩ All.nil)) (All.cons ⟨(All.gt zts (m8 _)),(All.gt zts (m8 _)),⟨⟨(bJ 0 DC og),(bJ 0 DC og)⟩,⟨(bJ 0 DC og),(bJ 0 DC og)⟩,⟨(bJ 0 DC og),(bJ 0 DC og)⟩⟩⟩ All.nil)),(by simp; omega),(by first | exact (hal.snoc (by simp; omega)).snoc (by simp; omega) | exact hal.snoc (by simp; omega)),h.re [0]⟩
  ·
   have hd2:=of_decide_eq_false hc2
   refine gz h <| (W) ?_; clear h ac wo; intro ac wo h
   have hnl:¬ (i=ts.length):=by omega
   have hg:=bI hL1 pt
   exact aD ⟨m1,og,_,_,_,og,hg,og,(All.app zout (All.cons ⟨(All.gt zts (m8 _)),(All.gt zts (m8 _)),⟨⟨(bJ 0 DC og),(bJ 0 DC og)⟩,⟨(bJ 0 DC og),(bJ 0 DC og)⟩,⟨(bJ 0 DC og),(bJ 0 DC og)⟩⟩⟩ All.nil)),(by simp; omega),(by first | exact (hal.snoc (by simp; omega)).snoc (by simp; omega) | exact hal.snoc (by simp; omega)),h.re [0]⟩
 ·
  have hd1:=of_decide_eq_false hc1
  have hx1:=cG hL1 pt
  obtain ⟨X2,hX2⟩:∃ X,bt (fun s=>cX l ts out i s.1 s.2) ((out.length - 0)+1) (0,out)=X:=⟨_,rfl⟩
  refine gz h <| (W) ?_; clear h ac wo; intro ac wo h
  refine wp_loop_ghost (fun n_ a_ w_=>∃ (i2:Nat) (out2:List (At Qd)),((out2.length - i2) < n_)∧(bt (fun s=>cX l ts out i s.1 s.2) n_ (i2,out2)=X2)∧(i2≤out2.length)∧(All (SzAD 30) out2)∧(Alt out2)∧(out2.length≤2*ts.length)∧St w0 92 [(0,lv),(5,outv),(7,(iN i2))] [.row (α:=At Qd) 264 outv out2] a_ w_) ((out.length - 0)+1) ⟨0,out,og,hX2,og,zout,hal,og,h.rs⟩ ?_
  clear h ac wo; rintro n2 ac wo ⟨i2,out2,hm2,hL2,hi2,zout2,hal2,hle2,h⟩
  obtain ⟨m2,rfl⟩:∃ m,n2=m+1:=⟨n2 - 1,by omega⟩
  refine gz h <| (ai) ?_ ?_ <;> clear h ac wo <;> intro ac wo h hc3
  ·
   have hd3:=of_decide_eq_true hc3
   obtain ⟨X3,hX3⟩:∃ X,bt (fun s=>cP l ts out i i2 out2 s.1 s.2) ((l.length - 0)+1) (0,out2)=X:=⟨_,rfl⟩
   refine gz h <| (W) ?_; clear h ac wo; intro ac wo h
   refine wp_loop_ghost (fun n_ a_ w_=>∃ (k3:Nat) (out3:List (At Qd)),((l.length - k3) < n_)∧(bt (fun s=>cP l ts out i i2 out2 s.1 s.2) n_ (k3,out3)=X3)∧(k3≤l.length)∧(All (SzAD 30) out3)∧(out3.length=out2.length)∧(Alt out3)∧St w0 92 [(0,lv),(5,outv),(7,(iN i2)),(8,(iN k3))] [.row (α:=At Qd) 264 outv out3] a_ w_) ((l.length - 0)+1) ⟨0,out2,og,hX3,og,zout2,rfl,hal2,h.rs⟩ ?_
   clear h ac wo; rintro n3 ac wo ⟨k3,out3,hm3,hL3,hk3,zout3,hl3,hal3,h⟩
   obtain ⟨m3,rfl⟩:∃ m,n3=m+1:=⟨n3 - 1,by omega⟩
   refine gz h <| (ai) ?_ ?_ <;> clear h ac wo <;> intro ac wo h hc4
   ·
    have hd4:=of_decide_eq_true hc4
    refine gz h <| (dr0 (hob:=(oK (jS ((gt l k3).iv) ((gt out3 i2).frm) ((gt out3 i2).til) ((gt out3 i2).gap) (All.gt zl (bL _)).1 (All.gt zout3 (fR _)).1 (All.gt zout3 (fR _)).2.1)) <| oE)) <| (ai) ?_ ?_ <;> clear h ac wo <;> intro ac wo h hc5
    ·
     have q:=hc5; try simp at q
     refine gz h <| (W) ?_; clear h ac wo; intro ac wo h
     refine up h 0 rfl (ia (k:=19) (u':=(⟨(gt out3 i2).frm,(gt out3 i2).til,(gt out3 i2).gap,true,(gt out3 i2).f⟩:At Qd)) zz4 (ff og) rfl rfl rfl rfl rfl rfl rfl rfl) ?_; clear h ac wo; intro ac wo h
     refine gz h <| (W) ?_; clear h ac wo; intro ac wo h
     refine up h 0 rfl (ia (k:=20) (u':=(⟨(gt out3 i2).frm,(gt out3 i2).til,(gt out3 i2).gap,true,(gt l k3).f⟩:At Qd)) zz53 (mR og) rfl rfl rfl rfl rfl rfl rfl rfl) ?_; clear h ac wo; intro ac wo h
     replace h:=h.rowEq 0 rfl (by rw [List.set_set]:_=(out3.set i2 (⟨(gt out3 i2).frm,(gt out3 i2).til,(gt out3 i2).gap,true,(gt l k3).f⟩:At Qd)))
     have hg:=bI hL3 pt
     exact (nx h) fun _ _ h=>by exact ⟨m3,og,_,_,og,hg,og,(All.set zout3 ⟨(All.gt zout3 (fR _)).1,(All.gt zout3 (fR _)).2.1,(All.gt zl (bL _)).2⟩),(by first | exact hl3 | (simp; exact hl3)),(by first | exact hal3.set rfl | exact hal3),h.re [0]⟩
    ·
     have q:=hc5; try simp at q
     have hg:=bI hL3 pt
     exact (nx h) fun _ _ h=>by exact ⟨m3,og,_,_,og,hg,og,zout3,(by first | exact hl3 | (simp; exact hl3)),(by first | exact hal3.set rfl | exact hal3),h.re [0]⟩
   ·
    have hd4:=of_decide_eq_false hc4
    have hx3:=cG hL3 pt
    have hg:=bI hL2 pt
    exact (nx h) fun _ _ h=>by exact ⟨m2,og,_,_,og,hg,og,zout3,hal3,og,h.re [0]⟩
  ·
   have hd3:=of_decide_eq_false hc3
   have hx2:=cG hL2 pt
   have hd:bT l ts=out2:=pt
   exact (rx h) fun _ _ h=>(by rw [hd]; exact h.retR 0 rfl ⟨zout2,⟨hal2,by omega⟩⟩)
attribute [irreducible] bT
def kZ (a:List (U Qd)) (b:List (U Qd)) (i:Nat):Bool :=
 true
def eA (a:List (U Qd)) (b:List (U Qd)) (i:Nat):Nx Nat Bool :=
 bif (decide ((i:Int) < (a.length:Int))) then
  bif ((!(decide ((gt a i).iv=(gt b i).iv))) || (!(aX ((gt a i).f) ((gt b i).f)))) then
   .ret false
  else
   .go (i+1)
 else
  .out i
def dG (a:List (U Qd)) (b:List (U Qd)):Bool :=
 bif (((a.length:Int)) != ((b.length:Int))) then
  false
 else
  fin (bt (fun s=>eA a b s) ((a.length - 0)+1) 0) (fun s=>kZ a b s) (fun r=>r)
theorem kY (a:List (U Qd)) (av:Value) (b:List (U Qd)) (bv:Value) (za:All (gk 20) a) (zb:All (gk 20) b) (w0:World) (hav:View w0 av a) (hbv:View w0 bv b):Calls zP 76 #[(.iface 55 (.agg #[])),av,bv] w0 (RetP w0 (.bool (dG a b)) (True)):=by
 refine enter (N:=48) Tryz.func76 rfl rfl ?_; intro ac h
 have hlena:=hav.len
 have hlenb:=hbv.len
 refine gz h <| (ai) ?_ ?_ <;> clear h <;> intro _ _ h hc1
 ·
  have q:=hc1; try simp at q
  have hd:dG a b=false:=pt
  exact (rx h) fun _ _ h=>(h.retP (by rw [hd] <;> rfl) trivial)
 ·
  have q:=hc1; try simp at q
  obtain ⟨X1,hX1⟩:∃ X,bt (fun s=>eA a b s) ((a.length - 0)+1) 0=X:=⟨_,rfl⟩
  refine gz h <| (W) ?_; clear h; intro _ _ h
  refine wp_loop_ghost (fun n_ a_ w_=>∃ (i:Nat),((a.length - i) < n_)∧(bt (fun s=>eA a b s) n_ i=X1)∧(i≤a.length)∧St w0 48 [(0,(.iface 55 (.agg #[]))),(1,av),(2,bv),(7,(iN i))] [] a_ w_) ((a.length - 0)+1) ⟨0,og,hX1,og,h.rs⟩ ?_
  clear h; rintro n1 _ _ ⟨i,hm1,hL1,hi,h⟩
  obtain ⟨m1,rfl⟩:∃ m,n1=m+1:=⟨n1 - 1,by omega⟩
  refine gz h <| (ai) ?_ ?_ <;> clear h <;> intro _ _ h hc2
  ·
   have hd2:=of_decide_eq_true hc2
   refine gz h <| (dr0 (hob:=(oG (by exact fun hg=>gg ((gt a i).f) ((gt b i).f) (All.gt za (bL _)).2 (All.gt zb (bL _)).2)) <| oE)) <| (ai) ?_ ?_ <;> clear h <;> intro _ _ h hc3
   ·
    have q:=hc3; try simp at q
    have hr1:=iH hL1 pt
    have hd:dG a b=false:=pt
    exact (rx h) fun _ _ h=>(h.retP (by rw [hd] <;> rfl) trivial)
   ·
    have q:=hc3; try simp at q
    have hg:=bI hL1 pt
    exact (nx h) fun _ _ h=>by exact ⟨m1,og,_,og,hg,og,h.re []⟩
  ·
   have hd2:=of_decide_eq_false hc2
   have hx1:=cG hL1 pt
   have hd:dG a b=true:=pt
   exact (rx h) fun _ _ h=>(h.retP (by rw [hd] <;> rfl) trivial)
attribute [irreducible] dG
end Go.Sx
namespace Go.Sx
open Go Go.RowKit Go.Proofs
attribute [local irreducible] Code.wp wpList Rd gW ObS Ent
attribute [local irreducible] an bB ah aO az c8
theorem kn (w : World) : (method (Tryz.prog.types.size + Made.depth) 55 (.agg #[]) "Reduce").run zP w = .ok (368, .agg #[]) w := kM (P := zP) (T := 55) Tryz.type55 (by kernel_rfl) uu55 w
instance zi60 : Mt zP 55 (.agg #[]) "Reduce" 368 := ⟨kn⟩
theorem kV (w : World) : (nilAhead (Tryz.prog.types.size + Made.depth) 55 (.agg #[]) "Reduce").run zP w = .ok (some false) w := jn (P := zP) (T := 55) (f := 368) Tryz.type55 (by kernel_rfl) uu55 w
instance zi61 : Nl zP 55 (.agg #[]) "Reduce" := ⟨kV⟩
theorem nq (w : World) : (method (Tryz.prog.types.size + Made.depth) 55 (.agg #[]) "Same").run zP w = .ok (369, .agg #[]) w := kM (P := zP) (T := 55) Tryz.type55 (by kernel_rfl) uu55 w
instance zi62 : Mt zP 55 (.agg #[]) "Same" 369 := ⟨nq⟩
theorem mq (w : World) : (nilAhead (Tryz.prog.types.size + Made.depth) 55 (.agg #[]) "Same").run zP w = .ok (some false) w := jn (P := zP) (T := 55) (f := 369) Tryz.type55 (by kernel_rfl) uu55 w
instance zi63 : Nl zP 55 (.agg #[]) "Same" := ⟨mq⟩
def kR (l:List (At Qd)) (out:List (U Qd)) (i:Nat):(List (U Qd)) :=
 out
def cO (l:List (At Qd)) (out:List (U Qd)) (i:Nat):Nx ((List (U Qd))×Nat) (List (U Qd)) :=
 bif (decide ((i:Int) < (l.length:Int))) then
  bif (gt l i).gap then
   bif (!(gt l i).has) then
    .go (out,(i+1))
   else
    bif (((((decide ((i:Int)≥2)) && (gt l (i - 2)).has) && (gt l (i - 1)).has) && (aB ((gt l (i - 2)).f) ((gt l (i - 1)).f) ((gt l i).frm))) && (aX ((gt l (i - 2)).f) ((gt l i).f))) then
     .go ((out.set (out.length - 1) (⟨(⟨((gt out (out.length - 1)).iv).lo,(gt l i).til,((gt out (out.length - 1)).iv).openLo,true⟩:Iv),(gt out (out.length - 1)).f⟩:U Qd)),(i+1))
    else
     .go ((out++[(⟨(⟨(gt l i).frm,(gt l i).til,(!(((gt l (i - 1)).has && (aB ((gt l i).f) ((gt l (i - 1)).f) ((gt l i).frm))) && (!(((decide ((i:Int)≥2)) && (gt l (i - 2)).has) && (aB ((gt l (i - 2)).f) ((gt l (i - 1)).f) ((gt l i).frm)))))),true⟩:Iv),(gt l i).f⟩:U Qd)]),(i+1))
  else
   bif (!(gt l i).has) then
    .go (out,(i+1))
   else
    bif (((decide ((i:Int)>0)) && (gt l (i - 1)).has) && (aB ((gt l (i - 1)).f) ((gt l i).f) ((gt l i).frm))) then
     .go ((out.set (out.length - 1) (⟨(⟨((gt out (out.length - 1)).iv).lo,((gt out (out.length - 1)).iv).hi,((gt out (out.length - 1)).iv).openLo,false⟩:Iv),(gt out (out.length - 1)).f⟩:U Qd)),(i+1))
    else
     bif (((decide (((i+1:Nat):Int) < (l.length:Int))) && (gt l (i+1)).has) && (aB ((gt l (i+1)).f) ((gt l i).f) ((gt l i).frm))) then
      .go (out,(i+1))
     else
      .go ((out++[(⟨(⟨(gt l i).frm,(gt l i).til,false,false⟩:Iv),(ar ((gt l i).f) ((gt l i).frm))⟩:U Qd)]),(i+1))
 else
  .out (out,i)
def dc (l:List (At Qd)):(List (U Qd)) :=
 fin (bt (fun s=>cO l s.1 s.2) ((l.length - 0)+1) ([],0)) (fun s=>kR l s.1 s.2) (fun r=>r)
theorem iM (l:List (At Qd)) (lv:Value) (hl:l.length≤1000) (halt:Alt l) (zl:All (SzAD 30) l) (w0:World) (hlv:View w0 lv l):Calls zP 109 #[(.iface 55 (.agg #[])),lv] w0 (RetR w0 126 (dc l) (All (gk 20) (dc l)∧(dc l).length≤l.length)):=by
 refine enter (N:=233) Tryz.func109 rfl rfl ?_; intro ac h
 have hlenl:=hlv.len
 refine gz h <| (W) ?_; clear h ac; intro ac wo h
 replace h:=h.nilRow (α:=U Qd) 126
 obtain ⟨X1,hX1⟩:∃ X,bt (fun s=>cO l s.1 s.2) ((l.length - 0)+1) ([],0)=X:=⟨_,rfl⟩
 refine wp_loop_ghost (fun n_ a_ w_=>∃ (out:List (U Qd)) (i:Nat) (outv:Value),((l.length - i) < n_)∧(bt (fun s=>cO l s.1 s.2) n_ (out,i)=X1)∧(i≤l.length)∧(All (gk 20) out)∧(out.length≤i)∧(∀ j,j < i→(gt l j).gap=true→(gt l j).has=true→0 < out.length)∧St w0 233 [(0,(.iface 55 (.agg #[]))),(1,lv),(5,outv),(6,(iN i))] [.row (α:=U Qd) 126 outv out] a_ w_) ((l.length - 0)+1) ⟨[],0,(.slice none 0 0),og,hX1,og,All.nil,og,(fun j hj=>absurd hj (Nat.not_lt_zero j)),h.rs⟩ ?_
 clear h ac wo; rintro n1 ac wo ⟨out,i,outv,hm1,hL1,hi,zout,hol,hne,h⟩
 obtain ⟨m1,rfl⟩:∃ m,n1=m+1:=⟨n1 - 1,by omega⟩
 refine gz h <| (ai) ?_ ?_ <;> clear h ac wo <;> intro ac wo h hc1
 ·
  have hd1:=of_decide_eq_true hc1
  refine gz h <| (xa) fun b1=>(ai) ?_ ?_ <;> clear h ac wo <;> intro ac wo h hc2
  ·
   have q:=hc2; try simp at q
   have hodd:=halt.odd og hc2
   refine gz h <| (ai) ?_ ?_ <;> clear h ac wo <;> intro ac wo h hc3
   ·
    have q:=hc3; try simp at q
    have hg:=bI hL1 pt
    exact (nx h) fun _ _ h=>by exact ⟨m1,og,_,_,_,og,hg,og,zout,og,(np hne (fun hn_=>by first | exact hn_ | (simp; done) | (simp; omega)) (fun hg_ hh_=>by first | (simp; done) | (simp; omega) | simp_all)),h.re [1]⟩
   ·
    have q:=hc3; try simp at q
    refine gz h <| (xa) fun b2=>(dr0 (hob:=(oX (h:=by exact fun _=>oh (acc:=[]) rfl rfl rfl rfl (fun hg=>fh (db rfl hg) rfl (r:=(((i - 2):Nat):Int)) (by rw [wI]; first | omega | (simp at hg; omega) | grind)))) <| (oX (h:=by exact fun _=>oh (acc:=[]) rfl rfl rfl rfl (fun hg=>fh (db rfl hg) rfl (r:=(((i - 2):Nat):Int)) (by rw [wI]; first | omega | (simp at hg; omega) | grind)))) <| (oG (by exact fun hg=>dT ((gt l (i - 2)).f) ((gt l (i - 1)).f) ((gt l i).frm) (dh (All.gt zl (fR _)).2.2 og) (dh (All.gt zl (fR _)).2.2 og) (All.gt zl (fR _)).1)) <| (oX (h:=by exact fun _=>oh (acc:=[]) rfl rfl rfl rfl (fun hg=>fh (db rfl hg) rfl (r:=(((i - 2):Nat):Int)) (by rw [wI]; first | omega | (simp at hg; omega) | grind)))) <| (oG (by exact fun hg=>gg ((gt l (i - 2)).f) ((gt l i).f) (dh (All.gt zl (fR _)).2.2 og) (dh (All.gt zl (fR _)).2.2 og))) <| oE)) <| (ai) ?_ ?_ <;> clear h ac wo <;> intro ac wo h hc4
    ·
     have q:=hc4; try simp at q
     have h2i:=of_decide_eq_true (andL (andL (andL (andL hc4))))
     have hon:0 < out.length:=hne (i - 2) og (halt.gap og og) (andR (andL (andL (andL hc4))))
     refine gz h <| (W) ?_; clear h ac wo; intro ac wo h
     refine up h 2 rfl (ia (k:=9) (u':=(⟨(⟨((gt out (out.length - 1)).iv).lo,(gt l i).til,((gt out (out.length - 1)).iv).openLo,((gt out (out.length - 1)).iv).openHi⟩:Iv),(gt out (out.length - 1)).f⟩:U Qd)) zz71 (ff og) rfl rfl rfl rfl rfl rfl rfl rfl) ?_; clear h ac wo; intro ac wo h
     refine gz h <| (W) ?_; clear h ac wo; intro ac wo h
     refine up h 2 rfl (ia (k:=19) (u':=(⟨(⟨((gt out (out.length - 1)).iv).lo,(gt l i).til,((gt out (out.length - 1)).iv).openLo,true⟩:Iv),(gt out (out.length - 1)).f⟩:U Qd)) zz4 (mR og) rfl rfl rfl rfl rfl rfl rfl rfl) ?_; clear h ac wo; intro ac wo h
     replace h:=h.rowEq 2 rfl (by rw [List.set_set]:_=(out.set (out.length - 1) (⟨(⟨((gt out (out.length - 1)).iv).lo,(gt l i).til,((gt out (out.length - 1)).iv).openLo,true⟩:Iv),(gt out (out.length - 1)).f⟩:U Qd)))
     refine gz h <| (W) ?_; clear h ac wo; intro ac wo h
     refine tr h rfl ?_
     have hg:=bI hL1 pt
     exact (nx h) fun _ _ h=>by exact ⟨m1,og,_,_,_,og,hg,og,(All.set zout ⟨⟨((All.gt zout (bL _)).1).1,(cr (All.gt zl (fR _)).2.1 og)⟩,(All.gt zout (bL _)).2⟩),og,(np hne (fun hn_=>by first | exact hn_ | (simp; done) | (simp; omega)) (fun hg_ hh_=>by first | (simp; done) | (simp; omega) | simp_all)),h.re [2]⟩
    ·
     have q:=hc4; try simp at q
     refine gz h <| (W) ?_; clear h ac wo; intro ac wo h
     refine c_ifT h rfl ?_
     refine gz h <| (dr0 (hob:=(oG (by exact fun hg=>dT ((gt l i).f) ((gt l (i - 1)).f) ((gt l i).frm) (dh (All.gt zl (fR _)).2.2 og) (dh (All.gt zl (fR _)).2.2 og) (All.gt zl (fR _)).1)) <| (oX (h:=by exact fun _=>og3 (acc:=[]) rfl rfl rfl rfl (fun hg=>Rd.step (fh (db rfl hg) rfl (r:=(((i - 2):Nat):Int)) (by rw [wI]; first | omega | (simp at hg; omega) | grind))))) <| (oX (h:=by exact fun _=>og3 (acc:=[]) rfl rfl rfl rfl (fun hg=>Rd.step (fh (db rfl hg) rfl (r:=(((i - 2):Nat):Int)) (by rw [wI]; first | omega | (simp at hg; omega) | grind))))) <| (oG (by exact fun hg=>dT ((gt l (i - 2)).f) ((gt l (i - 1)).f) ((gt l i).frm) (dh (All.gt zl (fR _)).2.2 og) (dh (All.gt zl (fR _)).2.2 og) (All.gt zl (fR _)).1)) <| oE)) <| (xo (hs:=by exact bN qf exs rfl (v:=(vV (⟨(gt l i).frm,(gt l i).til,(!(((gt l (i - 1)).has && (aB ((gt l i).f) ((gt l (i - 1)).f) ((gt l i).frm))) && (!(((decide ((i:Int)≥2)) && (gt l (i - 2)).has) && (aB ((gt l (i - 2)).f) ((gt l (i - 1)).f) ((gt l i).frm)))))),true⟩:Iv))) rfl)) <| (xo (hs:=by exact bN jh exs rfl (v:=(vUD (⟨(⟨(gt l i).frm,(gt l i).til,(!(((gt l (i - 1)).has && (aB ((gt l i).f) ((gt l (i - 1)).f) ((gt l i).frm))) && (!(((decide ((i:Int)≥2)) && (gt l (i - 2)).has) && (aB ((gt l (i - 2)).f) ((gt l (i - 1)).f) ((gt l i).frm)))))),true⟩:Iv),(gt l i).f⟩:U Qd))) rfl)) <| ?_; clear h ac wo; intro ac wo h
     refine nw h (cA (α:=U Qd) (xs:=[.tmp 147]) (vs:=[(vUD (⟨(⟨(gt l i).frm,(gt l i).til,(!(((gt l (i - 1)).has && (aB ((gt l i).f) ((gt l (i - 1)).f) ((gt l i).frm))) && (!(((decide ((i:Int)≥2)) && (gt l (i - 2)).has) && (aB ((gt l (i - 2)).f) ((gt l (i - 1)).f) ((gt l i).frm)))))),true⟩:Iv),(gt l i).f⟩:U Qd))]) [(⟨(⟨(gt l i).frm,(gt l i).til,(!(((gt l (i - 1)).has && (aB ((gt l i).f) ((gt l (i - 1)).f) ((gt l i).frm))) && (!(((decide ((i:Int)≥2)) && (gt l (i - 2)).has) && (aB ((gt l (i - 2)).f) ((gt l (i - 1)).f) ((gt l i).frm)))))),true⟩:Iv),(gt l i).f⟩:U Qd)] slt50 rfl rfl rfl DC) rfl ?_; clear h ac wo; intro sv2 ac wo nnsv2 h
     refine on2 h 3 0 rfl rfl (fe (xs:=out) (ys:=[(⟨(⟨(gt l i).frm,(gt l i).til,(!(((gt l (i - 1)).has && (aB ((gt l i).f) ((gt l (i - 1)).f) ((gt l i).frm))) && (!(((decide ((i:Int)≥2)) && (gt l (i - 2)).has) && (aB ((gt l (i - 2)).f) ((gt l (i - 1)).f) ((gt l i).frm)))))),true⟩:Iv),(gt l i).f⟩:U Qd)]) slt50 (fun w hs=>(row_view hs 0 rfl)) rfl rfl og) rfl ?_; clear h ac wo; intro sv3 ac wo apsv3 h
     have hg:=bI hL1 pt
     exact (nx h) fun _ _ h=>by exact ⟨m1,og,_,_,_,og,hg,og,(All.app zout (All.cons ⟨⟨(cr (All.gt zl (fR _)).1 og),(cr (All.gt zl (fR _)).2.1 og)⟩,(dh (All.gt zl (fR _)).2.2 og)⟩ All.nil)),og,(np hne (fun hn_=>by first | exact hn_ | (simp; done) | (simp; omega)) (fun hg_ hh_=>by first | (simp; done) | (simp; omega) | simp_all)),h.re [0]⟩
  ·
   have q:=hc2; try simp at q
   have heven:=halt.even og hc2
   refine gz h <| (ai) ?_ ?_ <;> clear h ac wo <;> intro ac wo h hc5
   ·
    have q:=hc5; try simp at q
    have hg:=bI hL1 pt
    exact (nx h) fun _ _ h=>by exact ⟨m1,og,_,_,_,og,hg,og,zout,og,(np hne (fun hn_=>by first | exact hn_ | (simp; done) | (simp; omega)) (fun hg_ hh_=>by first | (simp; done) | (simp; omega) | simp_all)),h.re [1]⟩
   ·
    have q:=hc5; try simp at q
    refine gz h <| (dr0 (hob:=(oG (by exact fun hg=>dT ((gt l (i - 1)).f) ((gt l i).f) ((gt l i).frm) (dh (All.gt zl (fR _)).2.2 og) (dh (All.gt zl (fR _)).2.2 og) (All.gt zl (fR _)).1)) <| oE)) <| (ai) ?_ ?_ <;> clear h ac wo <;> intro ac wo h hc6
    ·
     have q:=hc6; try simp at q
     have h1i:=of_decide_eq_true (andL (andL hc6))
     have hon:0 < out.length:=hne (i - 1) og (halt.gap og og) (andR (andL hc6))
     refine gz h <| (W) ?_; clear h ac wo; intro ac wo h
     refine up h 1 rfl (ia (k:=19) (u':=(⟨(⟨((gt out (out.length - 1)).iv).lo,((gt out (out.length - 1)).iv).hi,((gt out (out.length - 1)).iv).openLo,false⟩:Iv),(gt out (out.length - 1)).f⟩:U Qd)) zz4 (ff og) rfl rfl rfl rfl rfl rfl rfl rfl) ?_; clear h ac wo; intro ac wo h
     have hg:=bI hL1 pt
     exact (nx h) fun _ _ h=>by exact ⟨m1,og,_,_,_,og,hg,og,(All.set zout ⟨⟨((All.gt zout (bL _)).1).1,((All.gt zout (bL _)).1).2⟩,(All.gt zout (bL _)).2⟩),og,(np hne (fun hn_=>by first | exact hn_ | (simp; done) | (simp; omega)) (fun hg_ hh_=>by first | (simp; done) | (simp; omega) | simp_all)),h.re [1]⟩
    ·
     have q:=hc6; try simp at q
     refine gz h <| (dr0 (hob:=(oG (by exact fun hg=>dT ((gt l (i+1)).f) ((gt l i).f) ((gt l i).frm) (dh (All.gt zl (fR _)).2.2 og) (dh (All.gt zl (fR _)).2.2 og) (All.gt zl (fR _)).1)) <| oE)) <| (ai) ?_ ?_ <;> clear h ac wo <;> intro ac wo h hc7
     ·
      have q:=hc7; try simp at q
      have hg:=bI hL1 pt
      exact (nx h) fun _ _ h=>by exact ⟨m1,og,_,_,_,og,hg,og,zout,og,(np hne (fun hn_=>by first | exact hn_ | (simp; done) | (simp; omega)) (fun hg_ hh_=>by first | (simp; done) | (simp; omega) | simp_all)),h.re [1]⟩
     ·
      have q:=hc7; try simp at q
      refine gz h <| (W) ?_; clear h ac wo; intro ac wo h
      have s4:=Calls.pr ((fun w_ hB_ hS_=>fU ((gt l i).f) ((gt l i).frm) (All.gt zl (fR _)).2.2 (All.gt zl (fR _)).1 w_ ) _ h.bel h.sep)
      replace h:=h.emps 1
      refine im mixed [dv _,dv _,dw _ [0],dv _,dw _ [0],dv _,dv _,dv _,dw _ [0],dv _,dw _ [0],dv _,dv _,⟨.nd (.one 13 fun v=>NN v 1),[2]⟩,⟨.nd (.con True),[1,2]⟩,⟨.nd (.two 15 14 fun a b=>a=b),[]⟩] [ge _,⟨.row (α:=U Qd) 126 outv out,[(14,.one 14 fun v=>.row (α:=U Qd) 126 v (out++[(⟨(⟨(gt l i).frm,(gt l i).til,false,false⟩:Iv),(ar ((gt l i).f) ((gt l i).frm))⟩:U Qd)]))]⟩,⟨.emp,[(13,.one 13 fun v=>.row (α:=U Qd) 126 v ([(⟨(⟨(gt l i).frm,(gt l i).til,false,false⟩:Iv),(ar ((gt l i).f) ((gt l i).frm))⟩:U Qd)]))]⟩] h rfl (by kernel_rfl) ⟨fun _ _=>om rfl,fun _ _=>bg (fa uu264 rfl zz71 rfl rfl rfl (k':=0)),fun _ _=>js _ rfl rfl (jr aa71 zz71 rfl rfl rfl (v:=(vR ((gt l i).frm))) rfl),fun _ _=>bg (fa uu264 rfl zz71 rfl rfl rfl (k':=9)),fun _ _=>js _ rfl rfl (jr aa71 zz71 rfl rfl rfl (v:=(vR ((gt l i).til))) rfl),fun _ _=>bg (bN qf rfl rfl (v:=(vV (⟨(gt l i).frm,(gt l i).til,false,false⟩:Iv))) rfl),fun _ _=>om rfl,fun _ _=>bg (fa uu264 rfl zz53 rfl rfl rfl (k':=20)),fun _ _=>js _ rfl rfl (jr Tryz.isAgg53 zz53 rfl rfl rfl (v:=(vD ((gt l i).f))) rfl),fun _ _=>bg (fa uu264 rfl zz71 rfl rfl rfl (k':=0)),fun _ _=>js _ rfl rfl (jr aa71 zz71 rfl rfl rfl (v:=(vR ((gt l i).frm))) rfl),fun _ _=>kD (fB (ent_i kn Tryz.call368 rfl rfl) (kk (fU ((gt l i).f) ((gt l i).frm) (All.gt zl (fR _)).2.2 (All.gt zl (fR _)).1))),fun _ _=>bg (bN jh rfl rfl (v:=(vUD (⟨(⟨(gt l i).frm,(gt l i).til,false,false⟩:Iv),(ar ((gt l i).f) ((gt l i).frm))⟩:U Qd))) rfl),fun _ _=>mo (ψ:=fun v=>NN v 1) (B:=fun v=>[.row (α:=U Qd) 126 v ([(⟨(⟨(gt l i).frm,(gt l i).til,false,false⟩:Iv),(ar ((gt l i).f) ((gt l i).frm))⟩:U Qd)])]) [.emp] rfl (fun v _=>by simp only [dO,bA] <;> rfl) (fun v hv=>by simpa [DF.one,bA] using hv) (jX (cA (α:=U Qd) (xs:=[.tmp 229]) (vs:=[(vUD (⟨(⟨(gt l i).frm,(gt l i).til,false,false⟩:Iv),(ar ((gt l i).f) ((gt l i).frm))⟩:U Qd))]) [(⟨(⟨(gt l i).frm,(gt l i).til,false,false⟩:Iv),(ar ((gt l i).f) ((gt l i).frm))⟩:U Qd)] slt50 rfl rfl rfl DC)),fun ξ hφ=>mo (B:=fun v=>[.row (α:=U Qd) 126 v (out++[(⟨(⟨(gt l i).frm,(gt l i).til,false,false⟩:Iv),(ar ((gt l i).f) ((gt l i).frm))⟩:U Qd)]),.row (α:=U Qd) 126 (ξ 13) ([(⟨(⟨(gt l i).frm,(gt l i).til,false,false⟩:Iv),(ar ((gt l i).f) ((gt l i).frm))⟩:U Qd)])]) [.row (α:=U Qd) 126 outv out,.row (α:=U Qd) 126 (ξ 13) ([(⟨(⟨(gt l i).frm,(gt l i).til,false,false⟩:Iv),(ar ((gt l i).f) ((gt l i).frm))⟩:U Qd)])] rfl (fun v _=>by simp only [dO,bA] <;> rfl) (fun _ _=>trivial) (fe (xs:=out) (ys:=[(⟨(⟨(gt l i).frm,(gt l i).til,false,false⟩:Iv),(ar ((gt l i).f) ((gt l i).frm))⟩:U Qd)]) slt50 (fun w hs=>(row_view hs 0 rfl)) rfl rfl og),fun ξ hφ=>ob_n (φ:=.two 15 14 fun a b=>a=b) (v:=ξ 14) [] rfl rfl (by show upd ξ 15 (ξ 14) 15=upd ξ 15 (ξ 14) 14; rw [bA,lP DC]) (ay rfl),trivial⟩ ?_
      clear h ac wo; intro ξ ac wo hφ h
      replace h:St w0 233 [(0,(.iface 55 (.agg #[]))),(1,lv),(5,ξ 15),(6,(iN i))] [.blk b1 (cAD (gt l i)) 264,.row (α:=U Qd) 126 (ξ 14) (out++[(⟨(⟨(gt l i).frm,(gt l i).til,false,false⟩:Iv),(ar ((gt l i).f) ((gt l i).frm))⟩:U Qd)])] ac wo:=(h.pick [0,1] DC).sub ⟨rfl,rfl,rfl,rfl,trivial⟩
      rw [show ξ 15=ξ 14 from hφ 15] at h
      generalize hsv14:ξ 14=sv5 at h; clear hsv14
      clear hφ ξ
      have hg:=bI hL1 pt
      exact (nx h) fun _ _ h=>by exact ⟨m1,og,_,_,_,og,hg,og,(All.app zout (All.cons ⟨⟨(cr (All.gt zl (fR _)).1 og),(cr (All.gt zl (fR _)).2.1 og)⟩,s4⟩ All.nil)),og,(np hne (fun hn_=>by first | exact hn_ | (simp; done) | (simp; omega)) (fun hg_ hh_=>by first | (simp; done) | (simp; omega) | simp_all)),h.re [1]⟩
 ·
  have hd1:=of_decide_eq_false hc1
  have hx1:=cG hL1 pt
  have hd:dc l=out:=pt
  exact (rx h) fun _ _ h=>(by rw [hd]; exact h.retR 0 rfl ⟨zout,og⟩)
attribute [irreducible] dc
def bo (l:List (U Qd)):(List (U Qd)) :=
 (dc (bT l (am l ([]))))
theorem iI (l:List (U Qd)) (lv:Value) (hl:l.length≤100) (zl:All (gk 30) l) (w0:World) (hlv:View w0 lv l):Calls zP 26 #[(.iface 55 (.agg #[])),lv] w0 (RetR w0 126 (bo l) (All (gk 20) (bo l)∧(bo l).length≤4*l.length)):=by
 refine enter (N:=11) Tryz.func26 rfl rfl ?_; intro ac h
 have hlenl:=hlv.len
 refine gz h <| (W) ?_; clear h; intro _ _ h
 replace h:=h.nilRow (α:=GR) 71
 refine on1 h 0 rfl (ji (vs:=[lv,(.slice none 0 0)]) (A:=fun v=>[.row (α:=GR) 71 v (am l ([]))]) (ck Tryz.call61 rfl) (fun w_ B_ hB_ hS_=>ja l lv ([]) (.slice none 0 0) og og zl All.nil w0 w_ B_ hB_ hS_ hlv)) rfl ?_; clear h; intro sv2 _ _ s3 h
 have p4:=s3.2
 have s5:=RetR.pr ((fun w_ hB_ hS_=>iO l lv (am l ([])) sv2 og og zl s3.1 w_ (hlv.below hB_) (row_view hS_ 0 rfl)) _ h.bel h.sep)
 have p6:=s5.2
 have p6_0:=p6.1
 have p6_1:=p6.2
 refine jj (xs:=(bT l (am l ([])))) h (ck Tryz.call110 rfl) (fun w_ hB_ hS_=>iO l lv (am l ([])) sv2 og og zl s3.1 w_ (hlv.below hB_) (row_view hS_ 0 rfl)) rfl ?_; clear h; intro sv7 _ _ _ h
 have s8:=RetR.pr ((fun w_ hB_ hS_=>iM (bT l (am l ([]))) sv7 og og s5.1 w_ (row_view hS_ 0 rfl)) _ h.bel h.sep)
 have p9:=s8.2
 refine jj (xs:=(dc (bT l (am l ([]))))) h (ck Tryz.call109 rfl) (fun w_ hB_ hS_=>iM (bT l (am l ([]))) sv7 og og s5.1 w_ (row_view hS_ 0 rfl)) rfl ?_; clear h; intro sv10 _ _ _ h
 exact (rx h) fun _ _ h=>(by unfold bo; exact h.retR 0 rfl ⟨s8.1,og⟩)
attribute [irreducible] bo
end Go.Sx
