/- A part of the proof of movingpointRestricts. -/
import Derived.Test.YtbenbmdkhcfcfaaGreatDoorM4
import Derived.Test.YtbenbmdkhcfcfaaGreatDoorM2
set_option linter.unusedVariables false
set_option linter.unusedSimpArgs false
open Go.Proofs.Tryz renaming runUnderlying29 → uu29, runUnderlying31 → uu31, runUnderlying88 → uu88, runUnderlying247 → uu247, zeroValue29 → vv29, zeroValue31 → vv31, zeroValue88 → vv88, zeroValue247 → vv247, sizeOf27 → zz27, isAgg25 → aa25, sizeOf25 → zz25, runUnderlying71 → uu71, isAgg27 → aa27, zeroValue25 → vv25, call97 → cc97
namespace Go.Sx
open Go Go.RowKit Go.Proofs
set_option maxRecDepth 100000
structure Pnt where
  x : GQ
  y : GQ
  deriving DecidableEq
structure Smp where
  t : GQ
  p : Pnt
  deriving DecidableEq
structure RPt where
  x : GR
  y : GR
  deriving DecidableEq
def cPt (x : Pnt) : List Value := cQ x.x ++ cQ x.y
def cSm (x : Smp) : List Value := cQ x.t ++ cPt x.p
def cRP (x : RPt) : List Value := cR x.x ++ cR x.y
def vPt (x : Pnt) : Value := .agg (cPt x).toArray
def vSm (x : Smp) : Value := .agg (cSm x).toArray
def vRP (x : RPt) : Value := .agg (cRP x).toArray
instance yM5_1 : Inhabited Pnt := ⟨⟨oQ, oQ⟩⟩
instance yM5_2 : Inhabited Smp := ⟨⟨oQ, ⟨oQ, oQ⟩⟩⟩
theorem onePt (x : Pnt) : ∀ c ∈ cPt x, c.oneCell' = true := ew (tq _) (tq _)
instance yM5_3 : Cod Pnt := ⟨cPt, 8, fun _ => rfl, onePt, by decide⟩
instance yM5_4 : Cod Smp := ⟨cSm, 12, fun _ => rfl, fun x => ew (tq _) (onePt _), by decide⟩
instance yM5_5 : Cod RPt := ⟨cRP, 18, fun _ => rfl, fun x => ew (tj _) (tj _), by decide⟩
instance yM5_6 (x : Pnt) : Cel (vPt x) (cPt x) := ⟨rfl⟩
instance yM5_7 (x : Smp) : Cel (vSm x) (cSm x) := ⟨rfl⟩
instance yM5_8 (x : RPt) : Cel (vRP x) (cRP x) := ⟨rfl⟩
instance yM5_9 (x : Pnt) : Dc (cPt x) (vPt x) := ⟨rfl⟩
instance yM5_10 (x : Smp) : Dc (cSm x) (vSm x) := ⟨rfl⟩
instance yM5_11 (x : RPt) : Dc (cRP x) (vRP x) := ⟨rfl⟩
def SzPt (k : Nat) (x : Pnt) : Prop := SzQ k x.x ∧ SzQ k x.y
def tV (k : Nat) (x : Smp) : Prop := SzQ k x.t ∧ SzPt k x.p
instance yM5_12 : Sz Tryz.prog 29 8 := ⟨Tryz.sizeOf29⟩
instance yM5_13 : Sz Tryz.prog 31 12 := ⟨Tryz.sizeOf31⟩
instance yM5_14 : Sz Tryz.prog 88 36 := ⟨Tryz.sizeOf88⟩
instance yM5_15 : Sz Tryz.prog 247 18 := ⟨Tryz.sizeOf247⟩
instance yM5_16 : Sz Tryz.prog 66 1 := ⟨Tryz.sizeOf66⟩
instance yM5_17 : Ag Tryz.prog 66 false := ⟨Tryz.isAgg66⟩
instance yM5_18 : Sz Tryz.prog 33 1 := ⟨Tryz.sizeOf33⟩
instance yM5_19 : Ag Tryz.prog 33 false := ⟨Tryz.isAgg33⟩
instance yM5_20 : Sz Tryz.prog 23 1 := ⟨Tryz.sizeOf23⟩
instance yM5_21 : Ag Tryz.prog 23 false := ⟨Tryz.isAgg23⟩
instance yM5_22 : Ag Tryz.prog 29 true := ⟨Tryz.isAgg29⟩
instance yM5_23 : Ag Tryz.prog 31 true := ⟨Tryz.isAgg31⟩
instance yM5_24 : Ag Tryz.prog 88 true := ⟨Tryz.isAgg88⟩
instance yM5_25 : Ag Tryz.prog 247 true := ⟨Tryz.isAgg247⟩
instance yM5_26 : Un Tryz.prog 23 (.slice 31) := ⟨Tryz.runUnderlying23⟩
instance yM5_27 : Un Tryz.prog 33 (.slice 88) := ⟨Tryz.runUnderlying33⟩
instance yM5_28 : Fl Tryz.prog 29 0 27 0 := ⟨⟨_, _, uu29, rfl, rfl, rfl⟩⟩
instance yM5_29 : Fl Tryz.prog 29 1 27 4 := ⟨⟨_, _, uu29, rfl, rfl, rfl⟩⟩
instance yM5_30 : Fl Tryz.prog 31 0 27 0 := ⟨⟨_, _, uu31, rfl, rfl, rfl⟩⟩
instance yM5_31 : Fl Tryz.prog 31 1 29 4 := ⟨⟨_, _, uu31, rfl, rfl, rfl⟩⟩
instance yM5_32 : Fl Tryz.prog 88 0 86 0 := ⟨⟨_, _, uu88, rfl, rfl, rfl⟩⟩
instance yM5_33 : Fl Tryz.prog 88 1 79 20 := ⟨⟨_, _, uu88, rfl, rfl, rfl⟩⟩
instance yM5_34 : Fl Tryz.prog 247 0 71 0 := ⟨⟨_, _, uu247, rfl, rfl, rfl⟩⟩
instance yM5_35 : Fl Tryz.prog 247 1 71 9 := ⟨⟨_, _, uu247, rfl, rfl, rfl⟩⟩
instance yM5_36 : Cf Tryz.prog 3 := ⟨Tryz.call3⟩
instance yM5_37 : Cf Tryz.prog 4 := ⟨Tryz.call4⟩
instance yM5_38 : Cf Tryz.prog 6 := ⟨Tryz.call6⟩
instance yM5_39 : Cf Tryz.prog 7 := ⟨Tryz.call7⟩
instance yM5_40 : Cf Tryz.prog 9 := ⟨Tryz.call9⟩
instance yM5_41 : Cf Tryz.prog 10 := ⟨Tryz.call10⟩
instance yM5_42 : Cf Tryz.prog 13 := ⟨Tryz.call13⟩
instance yM5_43 : Cf Tryz.prog 14 := ⟨Tryz.call14⟩
instance yM5_44 : Cf Tryz.prog 15 := ⟨Tryz.call15⟩
instance yM5_45 : Cf Tryz.prog 16 := ⟨Tryz.call16⟩
instance yM5_46 : Cf Tryz.prog 17 := ⟨Tryz.call17⟩
instance yM5_47 : Cf Tryz.prog 18 := ⟨Tryz.call18⟩
instance yM5_48 : Cf Tryz.prog 19 := ⟨Tryz.call19⟩
instance yM5_49 : Cf Tryz.prog 23 := ⟨Tryz.call23⟩
instance yM5_50 : Cf Tryz.prog 40 := ⟨Tryz.call40⟩
instance yM5_51 : Cf Tryz.prog 41 := ⟨Tryz.call41⟩
instance yM5_52 : Cf Tryz.prog 42 := ⟨Tryz.call42⟩
instance yM5_53 : Cf Tryz.prog 43 := ⟨Tryz.call43⟩
instance yM5_54 : Cf Tryz.prog 45 := ⟨Tryz.call45⟩
instance yM5_55 : Cf Tryz.prog 46 := ⟨Tryz.call46⟩
instance yM5_56 : Cf Tryz.prog 47 := ⟨Tryz.call47⟩
instance yM5_57 : Cf Tryz.prog 48 := ⟨Tryz.call48⟩
instance yM5_58 : Cf Tryz.prog 49 := ⟨Tryz.call49⟩
instance yM5_59 : Cf Tryz.prog 50 := ⟨Tryz.call50⟩
instance yM5_60 : Cf Tryz.prog 51 := ⟨Tryz.call51⟩
instance yM5_61 : Cf Tryz.prog 52 := ⟨Tryz.call52⟩
instance yM5_62 : Cf Tryz.prog 53 := ⟨Tryz.call53⟩
instance yM5_63 : Cf Tryz.prog 54 := ⟨Tryz.call54⟩
instance yM5_64 : Cf Tryz.prog 64 := ⟨Tryz.call64⟩
instance yM5_65 : Cf Tryz.prog 65 := ⟨Tryz.call65⟩
instance yM5_66 : Cf Tryz.prog 66 := ⟨Tryz.call66⟩
instance yM5_67 : Cf Tryz.prog 67 := ⟨Tryz.call67⟩
instance yM5_68 : Cf Tryz.prog 68 := ⟨Tryz.call68⟩
instance yM5_69 : Cf Tryz.prog 69 := ⟨Tryz.call69⟩
instance yM5_70 : Cf Tryz.prog 70 := ⟨Tryz.call70⟩
instance yM5_71 : Cf Tryz.prog 71 := ⟨Tryz.call71⟩
instance yM5_72 : Cf Tryz.prog 72 := ⟨Tryz.call72⟩
instance yM5_73 : Cf Tryz.prog 73 := ⟨Tryz.call73⟩
instance yM5_74 : Cf Tryz.prog 74 := ⟨Tryz.call74⟩
instance yM5_75 : Cf Tryz.prog 78 := ⟨Tryz.call78⟩
instance yM5_76 : Cf Tryz.prog 79 := ⟨Tryz.call79⟩
instance yM5_77 : Cf Tryz.prog 80 := ⟨Tryz.call80⟩
instance yM5_78 : Cf Tryz.prog 81 := ⟨Tryz.call81⟩
instance yM5_79 : Cf Tryz.prog 82 := ⟨Tryz.call82⟩
instance yM5_80 : Cf Tryz.prog 83 := ⟨Tryz.call83⟩
instance yM5_81 : Cf Tryz.prog 84 := ⟨Tryz.call84⟩
instance yM5_82 : Cf Tryz.prog 89 := ⟨Tryz.call89⟩
instance yM5_83 : Cf Tryz.prog 90 := ⟨Tryz.call90⟩
instance yM5_84 : Cf Tryz.prog 91 := ⟨Tryz.call91⟩
instance yM5_85 : Cf Tryz.prog 99 := ⟨Tryz.call99⟩
instance yM5_86 : Cf Tryz.prog 100 := ⟨Tryz.call100⟩
instance yM5_87 : Cf Tryz.prog 102 := ⟨Tryz.call102⟩
instance yM5_88 : Cf Tryz.prog 103 := ⟨Tryz.call103⟩
instance yM5_89 : Cf Tryz.prog 132 := ⟨Tryz.call132⟩
instance yM5_90 : Cf Tryz.prog 133 := ⟨Tryz.call133⟩
instance yM5_91 : Cf Tryz.prog 138 := ⟨Tryz.call138⟩
instance yM5_92 : Cf Tryz.prog 139 := ⟨Tryz.call139⟩
instance yM5_93 : Cf Tryz.prog 140 := ⟨Tryz.call140⟩
instance yM5_94 : Cf Tryz.prog 141 := ⟨Tryz.call141⟩
instance yM5_95 : Cf Tryz.prog 142 := ⟨Tryz.call142⟩
instance yM5_96 : Cf Tryz.prog 143 := ⟨Tryz.call143⟩
instance yM5_97 : Cf Tryz.prog 144 := ⟨Tryz.call144⟩
instance yM5_98 : Cf Tryz.prog 145 := ⟨Tryz.call145⟩
instance yM5_99 : Cf Tryz.prog 146 := ⟨Tryz.call146⟩
instance yM5_100 : Cf Tryz.prog 147 := ⟨Tryz.call147⟩
instance yM5_101 : Cf Tryz.prog 162 := ⟨Tryz.call162⟩
instance yM5_102 : Cf Tryz.prog 163 := ⟨Tryz.call163⟩
instance yM5_103 : Cf Tryz.prog 164 := ⟨Tryz.call164⟩
instance yM5_104 : Cf Tryz.prog 165 := ⟨Tryz.call165⟩
instance yM5_105 : Cf Tryz.prog 166 := ⟨Tryz.call166⟩
instance yM5_106 : Cf Tryz.prog 167 := ⟨Tryz.call167⟩
instance yM5_107 : Cf Tryz.prog 168 := ⟨Tryz.call168⟩
instance yM5_108 : Cf Tryz.prog 169 := ⟨Tryz.call169⟩
instance yM5_109 : Cf Tryz.prog 170 := ⟨Tryz.call170⟩
instance yM5_110 : Cf Tryz.prog 171 := ⟨Tryz.call171⟩
instance yM5_111 : Cf Tryz.prog 172 := ⟨Tryz.call172⟩
instance yM5_112 : Cf Tryz.prog 173 := ⟨Tryz.call173⟩
instance yM5_113 : Cf Tryz.prog 174 := ⟨Tryz.call174⟩
instance yM5_114 : Cf Tryz.prog 175 := ⟨Tryz.call175⟩
instance yM5_115 : Cf Tryz.prog 176 := ⟨Tryz.call176⟩
instance yM5_116 : Cf Tryz.prog 177 := ⟨Tryz.call177⟩
instance yM5_117 : Cf Tryz.prog 182 := ⟨Tryz.call182⟩
instance yM5_118 : Cf Tryz.prog 183 := ⟨Tryz.call183⟩
instance yM5_119 : Cf Tryz.prog 184 := ⟨Tryz.call184⟩
instance yM5_120 : Cf Tryz.prog 185 := ⟨Tryz.call185⟩
instance yM5_121 : Cf Tryz.prog 186 := ⟨Tryz.call186⟩
instance yM5_122 : Cf Tryz.prog 188 := ⟨Tryz.call188⟩
instance yM5_123 : Cf Tryz.prog 189 := ⟨Tryz.call189⟩
instance yM5_124 : Cf Tryz.prog 197 := ⟨Tryz.call197⟩
instance yM5_125 : Cf Tryz.prog 198 := ⟨Tryz.call198⟩
instance yM5_126 : Cf Tryz.prog 199 := ⟨Tryz.call199⟩
instance yM5_127 : Cf Tryz.prog 200 := ⟨Tryz.call200⟩
instance yM5_128 : Cf Tryz.prog 217 := ⟨Tryz.call217⟩
instance yM5_129 : Cf Tryz.prog 218 := ⟨Tryz.call218⟩
instance yM5_130 : Cf Tryz.prog 220 := ⟨Tryz.call220⟩
instance yM5_131 : Cf Tryz.prog 221 := ⟨Tryz.call221⟩
instance yM5_132 : Cf Tryz.prog 222 := ⟨Tryz.call222⟩
instance yM5_133 : Cf Tryz.prog 233 := ⟨Tryz.call233⟩
instance yM5_134 : Cf Tryz.prog 234 := ⟨Tryz.call234⟩
instance yM5_135 : Cf Tryz.prog 235 := ⟨Tryz.call235⟩
instance yM5_136 : Cf Tryz.prog 236 := ⟨Tryz.call236⟩
instance yM5_137 : Cf Tryz.prog 237 := ⟨Tryz.call237⟩
instance yM5_138 : Cf Tryz.prog 238 := ⟨Tryz.call238⟩
instance yM5_139 : Cf Tryz.prog 239 := ⟨Tryz.call239⟩
instance yM5_140 : Cf Tryz.prog 240 := ⟨Tryz.call240⟩
instance yM5_141 : Cf Tryz.prog 241 := ⟨Tryz.call241⟩
instance yM5_142 : Cf Tryz.prog 242 := ⟨Tryz.call242⟩
instance yM5_143 : Cf Tryz.prog 248 := ⟨Tryz.call248⟩
instance yM5_144 : Cf Tryz.prog 254 := ⟨Tryz.call254⟩
instance yM5_145 : Cf Tryz.prog 277 := ⟨Tryz.call277⟩
instance yM5_146 : Cf Tryz.prog 298 := ⟨Tryz.call298⟩
instance yM5_147 : Cf Tryz.prog 299 := ⟨Tryz.call299⟩
instance yM5_148 : Cf Tryz.prog 300 := ⟨Tryz.call300⟩
instance yM5_149 : Cf Tryz.prog 301 := ⟨Tryz.call301⟩
instance yM5_150 : Cf Tryz.prog 302 := ⟨Tryz.call302⟩
instance yM5_151 : Cf Tryz.prog 303 := ⟨Tryz.call303⟩
instance yM5_152 : Cf Tryz.prog 304 := ⟨Tryz.call304⟩
instance yM5_153 : Cf Tryz.prog 313 := ⟨Tryz.call313⟩
instance yM5_154 : Cf Tryz.prog 315 := ⟨Tryz.call315⟩
instance yM5_155 : Cf Tryz.prog 317 := ⟨Tryz.call317⟩
instance yM5_156 : Cf Tryz.prog 320 := ⟨Tryz.call320⟩
instance yM5_157 : Cf Tryz.prog 321 := ⟨Tryz.call321⟩
instance yM5_158 : Cf Tryz.prog 331 := ⟨Tryz.call331⟩
instance yM5_159 : Cf Tryz.prog 332 := ⟨Tryz.call332⟩
instance yM5_160 : Cf Tryz.prog 334 := ⟨Tryz.call334⟩
instance yM5_161 : Cf Tryz.prog 341 := ⟨Tryz.call341⟩
instance yM5_162 : Cf Tryz.prog 342 := ⟨Tryz.call342⟩
def oUN : U Ln := ⟨⟨⟨oQ, oQ, false⟩, ⟨oQ, oQ, false⟩, false, false⟩, ⟨oQ, oQ, oQ, oQ⟩⟩
instance yM5_163 : Zc Tryz.prog 29 (cPt ⟨oQ, oQ⟩) := ⟨⟨_, vv29, rfl⟩⟩
instance yM5_164 : Zc Tryz.prog 31 (cSm ⟨oQ, ⟨oQ, oQ⟩⟩) := ⟨⟨_, vv31, rfl⟩⟩
instance yM5_165 : Zc Tryz.prog 88 (cUN oUN) := ⟨⟨_, vv88, rfl⟩⟩
instance yM5_166 : Zc Tryz.prog 247 (cRP ⟨⟨oQ, oQ, false⟩, ⟨oQ, oQ, false⟩⟩) := ⟨⟨_, vv247, rfl⟩⟩
instance yM5_167 : Zc Tryz.prog 66 [.slice none 0 0] := ⟨⟨_, Tryz.zeroValue66, rfl⟩⟩
instance yM5_168 : Sh Tryz.prog 29 Pnt vPt := ⟨trivial⟩
instance yM5_169 : Sh Tryz.prog 31 Smp vSm := ⟨trivial⟩
instance yM5_170 : Sh Tryz.prog 88 (U Ln) vUN := ⟨trivial⟩
instance yM5_171 : Sh Tryz.prog 247 RPt vRP := ⟨trivial⟩
theorem tQ : BuildF Tryz.prog 88 (cUN oUN) [(0, 20), (20, 16)] := BuildF.of vv88 rfl uu88 (by intro w; simp [Tryz.sizeOf86, Tryz.sizeOf79])
theorem bld29 : BuildF Tryz.prog 29 (cPt ⟨oQ, oQ⟩) [(0, 4), (4, 4)] := BuildF.of vv29 rfl uu29 (by intro w; simp [zz27])
theorem bld31 : BuildF Tryz.prog 31 (cSm ⟨oQ, ⟨oQ, oQ⟩⟩) [(0, 4), (4, 8)] := BuildF.of vv31 rfl uu31 (by intro w; simp [zz27, Tryz.sizeOf29])
theorem bld247 : BuildF Tryz.prog 247 (cRP ⟨⟨oQ, oQ, false⟩, ⟨oQ, oQ, false⟩⟩) [(0, 9), (9, 9)] := BuildF.of vv247 rfl uu247 (by intro w; simp [Tryz.sizeOf71])
instance yM5_172 (x : Iv) (f : Ln) : Bu Tryz.prog 88 [0, 1] [vV x, vN f] (vUN (⟨x, f⟩ : U Ln)) := Bu.of tQ rfl rfl
instance yM5_173 (x : Iv) (f : Ln) : Bu Tryz.prog 199 [0, 1] [vV x, vN f] (vUN (⟨x, f⟩ : U Ln)) := Bu.of m8 rfl rfl
instance yM5_174 (x y : GQ) : Bu Tryz.prog 29 [0, 1] [vQ x, vQ y] (vPt ⟨x, y⟩) := Bu.of bld29 rfl rfl
instance yM5_175 (x : GQ) (p : Pnt) : Bu Tryz.prog 31 [0, 1] [vQ x, vPt p] (vSm ⟨x, p⟩) := Bu.of bld31 rfl rfl
instance yM5_176 (x y : GR) : Bu Tryz.prog 247 [0, 1] [vR x, vR y] (vRP ⟨x, y⟩) := Bu.of bld247 rfl rfl
instance yM5_177 (a b c d : GQ) : Bu Tryz.prog 79 [0, 1, 2, 3] [vQ a, vQ b, vQ c, vQ d] (vN ⟨a, b, c, d⟩) := Bu.of wr rfl rfl
instance yM5_178 (a c : GQ) : Bu Tryz.prog 79 [0, 2] [vQ a, vQ c] (vN ⟨a, oQ, c, oQ⟩) := Bu.of wr rfl rfl
instance yM5_179 (a c d : GQ) : Bu Tryz.prog 79 [0, 2, 3] [vQ a, vQ c, vQ d] (vN ⟨a, oQ, c, d⟩) := Bu.of wr rfl rfl
instance yM5_180 (x y : GR) : Bu Tryz.prog 86 [0, 1] [vR x, vR y] (vV ⟨x, y, false, false⟩) := Bu.of kX rfl rfl
instance yM5_181 (x y : GR) (b : Bool) : Bu Tryz.prog 86 [0, 1, 2] [vR x, vR y, .bool b] (vV ⟨x, y, b, false⟩) := Bu.of kX rfl rfl
instance yM5_182 : Bu Tryz.prog 80 [] [] (.agg #[]) := Bu.of bld80 rfl rfl
instance yM5_183 : Ie Tryz.prog 80 := ⟨fun hx => uO Tryz.runUnderlying80 rfl hx⟩
theorem j7 : SlT Tryz.prog 33 88 36 408 (cUN oUN) := ⟨Tryz.underlying33, Tryz.t88, _, Tryz.type88, rfl, rfl, rfl, rfl, rfl, by decide, by decide⟩
theorem slt23 : SlT Tryz.prog 23 31 12 144 (cSm ⟨oQ, ⟨oQ, oQ⟩⟩) := ⟨Tryz.underlying23, Tryz.t31, _, Tryz.type31, rfl, rfl, rfl, rfl, rfl, by decide, by decide⟩
section
variable {P : Program} {w0 w : World} {N : Nat} {F : List (Nat × Value)} {L : List Asn} {a : Act} {fn : Func} {R : Ending → World → Prop}
theorem no {α : Type} [Cod α] {ol : List Oper} {H : List Hist} {ξ : Nat → Value} {G : (Nat → Value) → List (Nat × Value)} {st et bytes i : Nat} {zero : List Value} {x : Operand} {v : Value} {dst : Option Tmp} {ty : TypeId} {pos : String} {aft : Array Edge} (e0 : Nat) (u : α) (hT : SlT P st et (Cod.n α) bytes zero) (hx : evs (fE (G ξ) (ef (.buildSlice st 1 #[(0, x)]))) [x] = some [v]) (hv : [v].map (fun v => v.cells.toList) = [u].map Cod.enc)
    (h1 : de H [e0] i ξ = [.emp] := by rfl) (h2 : ∀ v, de H [e0] (i + 1) (upd ξ i v) = [.row et v [u]] := by (intro v; simp only [de, bC] <;> rfl)) : ObS P w0 ol H G ξ i ⟨dst, .buildSlice st 1 #[(0, x)], ty, pos, aft, none⟩ ⟨.nd (.one i fun v => NN v 1), [e0]⟩ :=
  nN (ψ := fun v => NN v 1) (B := fun v => [.row et v [u]]) [.emp] h1 (fun v _ => h2 v) (fun v hv => by simpa [DF.one, bC] using hv) (jA (dp (α := α) (xs := [x]) [u] hT hx hv rfl (by decide)))
theorem u4 {α : Type} [Cod α] {ol : List Oper} {H : List Hist} {ξ : Nat → Value} {G : (Nat → Value) → List (Nat × Value)} {st et bytes i j : Nat} {zero : List Value} {x y : Operand} {sv : Value} {dst : Option Tmp} {ty : TypeId} {pos : String} {aft : Array Edge} (eo e0 : Nat) {xs : List α} {u : α} (hT : SlT P st et (Cod.n α) bytes zero) (hx : ev (fE (G ξ) (ef (.call ⟨.builtin .append, #[x, y], #[st, st]⟩))) x = some sv) (hy : ev (fE (G ξ) (ef (.call ⟨.builtin .append, #[x, y], #[st, st]⟩))) y = some (ξ j)) (hl : xs.length + 1 ≤ 34359738368)
    (h1 : de H [eo, e0] i ξ = [.row et sv xs, .row et (ξ j) [u]]) (h2 : ∀ v, de H [eo, e0] (i + 1) (upd ξ i v) = [.row et v (xs ++ [u]), .row et (ξ j) [u]]) : ObS P w0 ol H G ξ i ⟨dst, .call ⟨.builtin .append, #[x, y], #[st, st]⟩, ty, pos, aft, none⟩ ⟨.nd (.con True), [eo, e0]⟩ :=
  nN (B := fun v => [.row et v (xs ++ [u]), .row et (ξ j) [u]]) [.row et sv xs, .row et (ξ j) [u]] h1 (fun v _ => h2 v) (fun _ _ => trivial) (fB (xs := xs) (ys := [u]) hT (fun w hs => (row_view hs 0 rfl)) hx hy hl)
theorem rl {ol : List Oper} {H : List Hist} {ξ : Nat → Value} {G : (Nat → Value) → List (Nat × Value)} {i j : Nat} {x : Operand} {dst : Option Tmp} {ty : TypeId} {pos : String} {aft : Array Edge} (hij : j ≠ i) (hx : ev (fE (G ξ) (ef (.assign x))) x = some (ξ j)) : ObS P w0 ol H G ξ i ⟨dst, .assign x, ty, pos, aft, none⟩ ⟨.nd (.two i j fun a b => a = b), []⟩ :=
  ob_n (φ := .two i j fun a b => a = b) (v := ξ j) [] rfl rfl (by show upd ξ i (ξ j) i = upd ξ i (ξ j) j; rw [bC, mA hij]) (aA hx)
theorem rtc {t ty b n e : Nat} {cs : List Value} {v : Value} (i : Nat) (h : St w0 N F L a w) (hR : R (.returned v) w) (hrs : fn.results = [.cell t ty].toArray := by rfl) (ha : Ag P ty true := by infer_instance) (hz : Sz P ty n := by infer_instance) (hx : look F t = some (ptr b 0) := by rfl) (hi : L[i]? = some (Asn.blk b cs e) := by rfl)
    (h0 : Nat.blt 0 n = true := by rfl) (hl : ((cs.drop 0).take n).length = n := by rfl) (hv : mkv true ((cs.drop 0).take n) = v := by rfl) : bodyPost P fn R .ret a w :=
  ret h hrs (.cell hx hi ha.h hz.h h0 hl hv .nil) rfl hR
theorem rtc2 {t ty b n e u : Nat} {cs : List Value} {v x : Value} (i : Nat) (h : St w0 N F L a w) (hR : R (.returned (.tuple [v, x].toArray)) w) (hrs : fn.results = [.cell t ty, .tmp u].toArray := by rfl) (ha : Ag P ty true := by infer_instance) (hz : Sz P ty n := by infer_instance) (hx : look F t = some (ptr b 0) := by rfl) (hi : L[i]? = some (Asn.blk b cs e) := by rfl)
    (hu : look F u = some x := by rfl) (h0 : Nat.blt 0 n = true := by rfl) (hl : ((cs.drop 0).take n).length = n := by rfl) (hv : mkv true ((cs.drop 0).take n) = v := by rfl) : bodyPost P fn R .ret a w :=
  ret h hrs (.cell hx hi ha.h hz.h h0 hl hv (.tmp hu .nil)) rfl hR
end
end Go.Sx
namespace Go.Sx
theorem tm_sz [K : Key] {x : GR} (h : Tm x) : SzR 36 x := h.szr
end Go.Sx
namespace Go.Sx
open Go Go.RowKit Go.Proofs
set_option maxRecDepth 100000
set_option maxHeartbeats 40000000
attribute [local irreducible] Code.wp wpList Rd Step ObS Ent
attribute [local irreducible] am aQ ah aw aD bU
def ag (a : GQ) : GI :=
 a.num
theorem jG (a : GQ) (za : SzQ 36 a) (w0 : World)  : Calls Tryz.prog 250 #[(vQ a)] w0 (dA w0 (vI (ag a)) (SzI 36 (ag a))) := by
 refine enter (N := 5) (args := [(vQ a)]) Tryz.func250 rfl rfl ?_; intro ac h
 refine gz h <| (xb) fun b1 => (xa) fun b2 => (W) ?_; clear h ac; intro ac wo h
 exact ret h rfl (.cell (v := (vI a.num)) rfl (i := 0) rfl aa25 zz25 rfl rfl rfl .nil) rfl (h.retP (by unfold ag; rfl) (by unfold ag; exact za.1))
attribute [irreducible] ag
def bu (a : GI) (b : GI) : GI :=
 (aI a (ao b))
theorem kh (a : GI) (b : GI) (za : SzI 28 a) (zb : SzI 28 b) (w0 : World)  : Calls Tryz.prog 252 #[(vI a), (vI b)] w0 (dA w0 (vI (bu a b)) (SzI 26 (bu a b))) := by
  refine enter (N := 9) (args := [(vI a), (vI b)]) Tryz.func252 rfl rfl ?_; intro ac h
  refine gz h <| (xb) fun b1 => (xb) fun b2 => (xa) fun b3 => (W) ?_; clear h ac; intro ac wo h
  have c1 := dK b 28 og zb
  have s1 := an (c1 w0)
  have s2 := an ((eV a (ao b) 27 og za s1) w0)
  refine gz h <| (dr1 (H := [⟨.blk b3 (cI (⟨false, 0⟩ : GI)) 25, [(4, .con (.blk b3 (cI (aI a (ao b))) 25))]⟩, ⟨.blk b2 (cI b) 25, []⟩, ⟨.blk b1 (cI a) 25, []⟩]) (hob := (oK (c1)) <| (oK (eV a (ao b) 27 og za s1)) <| oE)) <| (W) ?_; clear h ac wo; intro ac wo h
  exact ret h rfl (.cell (v := (vI (aI a (ao b)))) rfl (i := 0) rfl aa25 zz25 rfl rfl rfl .nil) rfl (h.retP (by unfold bu; rfl) (by unfold bu; exact (fp s2 og)))
attribute [irreducible] bu
def az (a : GI) : GI × Int :=
 bif a.neg then
  ((⟨false, 0⟩ : GI), 2)
 else
  ((aF false (bQ a.mag)), 0)
theorem jR (a : GI) (ha4 : a.mag < 4) (za : SzI 30 a) (w0 : World)  : Calls Tryz.prog 251 #[(vI a)] w0 (dA w0 (.tuple #[(vI ((az a).1)), (.int .i64 ((az a).2))]) (SzI 29 ((az a).1))) := by
 refine enter (N := 11) (args := [(vI a)]) Tryz.func251 rfl rfl ?_; intro ac h
 refine gz h <| (xb) fun b1 => (xa) fun b2 => (ai) ?_ ?_ <;> clear h ac <;> intro ac wo h hc1
 ·
  have hq1 := hc1; try simp at hq1
  have hd : az a = ((⟨false, 0⟩ : GI), 2) := pt
  refine gz h <| (xo (hs := by exact bG nD exs rfl (v := (vI (⟨false, 0⟩ : GI))) rfl)) <| (W) ?_; clear h ac wo; intro ac wo h
  exact ret h rfl (.cell (v := (vI (⟨false, 0⟩ : GI))) rfl (i := 0) rfl aa25 zz25 rfl rfl rfl (.tmp rfl .nil)) rfl (h.retP (by rw [hd] <;> rfl) (by rw [hd]; exact (cG 0 (by decide) og)))
 ·
  have hq1 := hc1; try simp at hq1
  have c1 := sc a.mag ha4 za
  have s1 := Calls.pr (c1 w0)
  have c2 := bL false (bQ a.mag) 29 og s1
  have s2 := an (c2 w0)
  have hd : az a = ((aF false (bQ a.mag)), 0) := pt
  refine gz h <| (xk (c1)) <| (xk (c2)) <| (W) ?_; clear h ac wo; intro ac wo h
  exact ret h rfl (.cell (v := (vI (aF false (bQ a.mag)))) rfl (i := 0) rfl aa25 zz25 rfl rfl rfl (.tmp rfl .nil)) rfl (h.retP (by rw [hd] <;> rfl) (by rw [hd]; exact s2))
attribute [irreducible] az
def bZ (num : GI) (den : GI) : GQ × Int :=
 bif ((bR den) == 0) then
  ((⟨(⟨false, 0⟩ : GI), (⟨false, 0⟩ : GI)⟩ : GQ), 6)
 else
  ((a8 num den), 0)
attribute [irreducible] bZ
def eh (x : GR) : GI :=
 bif x.neg then
  (aJ (bu (ab (ag x.p) (aa x.r)) (aI ((az (ab (ab (aa x.p) (aa x.p)) (ab (ag x.r) (aa x.r)))).1) (ax 1))) (ab (aa x.p) (aa x.r))).1
 else
  (aJ (aI (ab (ag x.p) (aa x.r)) ((az (ab (ab (aa x.p) (aa x.p)) (ab (ag x.r) (aa x.r)))).1)) (ab (aa x.p) (aa x.r))).1
theorem kz (x : GR) (ht : (ab (ab (aa x.p) (aa x.p)) (ab (ag x.r) (aa x.r))).mag < 4 ∧ SzI 40 (eh x)) (zx : SzR 36 x) (w0 : World)  : Calls Tryz.prog 187 #[(vR x)] w0 (dA w0 (vI (eh x)) (SzI 40 (eh x))) := by
  refine enter (N := 59) (args := [(vR x)]) Tryz.func187 rfl rfl ?_; intro ac h
  refine gz h <| (xb) fun b1 => (xa) fun b2 => (W) ?_; clear h ac; intro ac wo h
  have c1 := jG x.p zx.1
  have s1 := Calls.pr (c1 w0)
  have s2 := an ((bq x.p 36 og zx.1) w0)
  replace h := h.emps 2
  refine fh mixed [⟨.det (ptr b1 0), []⟩, ⟨.det (vQ x.p), [1]⟩, ⟨.det (vI (ag x.p)), []⟩, ⟨.det (ptr b1 0), []⟩, ⟨.det (vQ x.p), [1]⟩, ⟨.det (vI (aa x.p)), []⟩, ⟨.nd (.one 6 fun v => ∃ b, v = ptr b 0), [2]⟩, ⟨.nd (.one 7 fun v => ∃ b, v = ptr b 0), [3]⟩, ⟨.det undef, [2]⟩, ⟨.det undef, [3]⟩] [⟨.blk b2 (cI (⟨false, 0⟩ : GI)) 25, []⟩, ⟨.blk b1 (cR x) 71, []⟩, ⟨.emp, [(6, .one 6 fun v => .blk (bD v) (cI (⟨false, 0⟩ : GI)) 25), (8, .one 6 fun v => .blk (bD v) (cI (ag x.p)) 25)]⟩, ⟨.emp, [(7, .one 7 fun v => .blk (bD v) (cI (⟨false, 0⟩ : GI)) 25), (9, .one 7 fun v => .blk (bD v) (cI (aa x.p)) 25)]⟩] h rfl (by kernel_rfl) ⟨?_, ?_, ?_, ?_, ?_, ?_, ?_, ?_, ?_, ?_, trivial⟩ ?_
  · intro ξ hφ; exact bm (fa uu71 rfl zz27 rfl rfl rfl (k' := 0))
  · intro ξ hφ; exact it [.blk b1 (cR x) 71] rfl rfl (jt aa27 zz27 rfl rfl rfl (v := (vQ x.p)) rfl)
  · intro ξ hφ; exact gm (fb (cZ Tryz.call250 rfl) (kk c1))
  · intro ξ hφ; exact bm (fa uu71 rfl zz27 rfl rfl rfl (k' := 0))
  · intro ξ hφ; exact it [.blk b1 (cR x) 71] rfl rfl (jt aa27 zz27 rfl rfl rfl (v := (vQ x.p)) rfl)
  · intro ξ hφ; exact gm (fb (cZ Tryz.call98 rfl) (kk (bq x.p 36 og zx.1)))
  · intro ξ hφ; exact nN (ψ := fun v => ∃ b, v = ptr b 0) (B := fun v => [.blk (bD v) (cI (⟨false, 0⟩ : GI)) 25]) [.emp] rfl (fun v _ => by simp only [de, bC] <;> rfl) (fun v hv => by simpa [DF.one, bC] using hv) (jA (fK vv25 rfl))
  · intro ξ hφ; exact nN (ψ := fun v => ∃ b, v = ptr b 0) (B := fun v => [.blk (bD v) (cI (⟨false, 0⟩ : GI)) 25]) [.emp] rfl (fun v _ => by simp only [de, bC] <;> rfl) (fun v hv => by simpa [DF.one, bC] using hv) (jA (fK vv25 rfl))
  · intro ξ hφ; obtain ⟨b3, hb6⟩ := hφ 6 rfl; exact lC [.blk b3 (cI (⟨false, 0⟩ : GI)) 25] [.blk b3 (cI (ag x.p)) 25] (congrArg (fun v => [Asn.blk (bD v) (cI (⟨false, 0⟩ : GI)) 25]) hb6) (congrArg (fun v => [Asn.blk (bD v) (cI (ag x.p)) 25]) hb6) (nj zz25 (Eq.trans rfl (congrArg some hb6)) rfl rfl rfl rfl rfl rfl)
  · intro ξ hφ; obtain ⟨b4, hb7⟩ := hφ 7 rfl; exact lC [.blk b4 (cI (⟨false, 0⟩ : GI)) 25] [.blk b4 (cI (aa x.p)) 25] (congrArg (fun v => [Asn.blk (bD v) (cI (⟨false, 0⟩ : GI)) 25]) hb7) (congrArg (fun v => [Asn.blk (bD v) (cI (aa x.p)) 25]) hb7) (nj zz25 (Eq.trans rfl (congrArg some hb7)) rfl rfl rfl rfl rfl rfl)
  clear h ac wo; intro ξ ac wo hφ h
  replace h : St w0 59 [(1, (ptr b1 0)), (2, (ptr b2 0)), (3, ξ 6), (4, ξ 7)] [.blk b2 (cI (⟨false, 0⟩ : GI)) 25, .blk b1 (cR x) 71, .blk (bD (ξ 6)) (cI (ag x.p)) 25, .blk (bD (ξ 7)) (cI (aa x.p)) 25] ac wo := (h.pick [0, 1, 2, 3] (by decide)).sub ⟨rfl, rfl, rfl, rfl, trivial⟩
  revert h
  obtain ⟨b3, hb6⟩ : ∃ b, ξ 6 = ptr b 0 := hφ 6
  obtain ⟨b4, hb7⟩ : ∃ b, ξ 7 = ptr b 0 := hφ 7
  rw [hb6, hb7]; intro h
  clear hb6 hb7
  clear hφ ξ
  refine gz h <| (W) ?_; clear h ac wo; intro ac wo h
  have c3 := jG x.r zx.2
  have s3 := Calls.pr (c3 w0)
  have s4 := an ((bq x.r 36 og zx.2) w0)
  replace h := h.emps 2
  refine fh mixed [⟨.det (ptr b1 4), []⟩, ⟨.det (vQ x.r), [1]⟩, ⟨.det (vI (ag x.r)), []⟩, ⟨.det (ptr b1 4), []⟩, ⟨.det (vQ x.r), [1]⟩, ⟨.det (vI (aa x.r)), []⟩, ⟨.nd (.one 6 fun v => ∃ b, v = ptr b 0), [4]⟩, ⟨.nd (.one 7 fun v => ∃ b, v = ptr b 0), [5]⟩, ⟨.det undef, [4]⟩, ⟨.det undef, [5]⟩] [⟨.blk b2 (cI (⟨false, 0⟩ : GI)) 25, []⟩, ⟨.blk b1 (cR x) 71, []⟩, ⟨.blk b3 (cI (ag x.p)) 25, []⟩, ⟨.blk b4 (cI (aa x.p)) 25, []⟩, ⟨.emp, [(6, .one 6 fun v => .blk (bD v) (cI (⟨false, 0⟩ : GI)) 25), (8, .one 6 fun v => .blk (bD v) (cI (ag x.r)) 25)]⟩, ⟨.emp, [(7, .one 7 fun v => .blk (bD v) (cI (⟨false, 0⟩ : GI)) 25), (9, .one 7 fun v => .blk (bD v) (cI (aa x.r)) 25)]⟩] h rfl (by kernel_rfl) ⟨?_, ?_, ?_, ?_, ?_, ?_, ?_, ?_, ?_, ?_, trivial⟩ ?_
  · intro ξ hφ; exact bm (fa uu71 rfl zz27 rfl rfl rfl (k' := 4))
  · intro ξ hφ; exact it [.blk b1 (cR x) 71] rfl rfl (jt aa27 zz27 rfl rfl rfl (v := (vQ x.r)) rfl)
  · intro ξ hφ; exact gm (fb (cZ Tryz.call250 rfl) (kk c3))
  · intro ξ hφ; exact bm (fa uu71 rfl zz27 rfl rfl rfl (k' := 4))
  · intro ξ hφ; exact it [.blk b1 (cR x) 71] rfl rfl (jt aa27 zz27 rfl rfl rfl (v := (vQ x.r)) rfl)
  · intro ξ hφ; exact gm (fb (cZ Tryz.call98 rfl) (kk (bq x.r 36 og zx.2)))
  · intro ξ hφ; exact nN (ψ := fun v => ∃ b, v = ptr b 0) (B := fun v => [.blk (bD v) (cI (⟨false, 0⟩ : GI)) 25]) [.emp] rfl (fun v _ => by simp only [de, bC] <;> rfl) (fun v hv => by simpa [DF.one, bC] using hv) (jA (fK vv25 rfl))
  · intro ξ hφ; exact nN (ψ := fun v => ∃ b, v = ptr b 0) (B := fun v => [.blk (bD v) (cI (⟨false, 0⟩ : GI)) 25]) [.emp] rfl (fun v _ => by simp only [de, bC] <;> rfl) (fun v hv => by simpa [DF.one, bC] using hv) (jA (fK vv25 rfl))
  · intro ξ hφ; obtain ⟨b5, hb6⟩ := hφ 6 rfl; exact lC [.blk b5 (cI (⟨false, 0⟩ : GI)) 25] [.blk b5 (cI (ag x.r)) 25] (congrArg (fun v => [Asn.blk (bD v) (cI (⟨false, 0⟩ : GI)) 25]) hb6) (congrArg (fun v => [Asn.blk (bD v) (cI (ag x.r)) 25]) hb6) (nj zz25 (Eq.trans rfl (congrArg some hb6)) rfl rfl rfl rfl rfl rfl)
  · intro ξ hφ; obtain ⟨b6, hb7⟩ := hφ 7 rfl; exact lC [.blk b6 (cI (⟨false, 0⟩ : GI)) 25] [.blk b6 (cI (aa x.r)) 25] (congrArg (fun v => [Asn.blk (bD v) (cI (⟨false, 0⟩ : GI)) 25]) hb7) (congrArg (fun v => [Asn.blk (bD v) (cI (aa x.r)) 25]) hb7) (nj zz25 (Eq.trans rfl (congrArg some hb7)) rfl rfl rfl rfl rfl rfl)
  clear h ac wo; intro ξ ac wo hφ h
  replace h : St w0 59 [(1, (ptr b1 0)), (2, (ptr b2 0)), (3, (ptr b3 0)), (4, (ptr b4 0)), (5, ξ 6), (6, ξ 7)] [.blk b2 (cI (⟨false, 0⟩ : GI)) 25, .blk b1 (cR x) 71, .blk b3 (cI (ag x.p)) 25, .blk b4 (cI (aa x.p)) 25, .blk (bD (ξ 6)) (cI (ag x.r)) 25, .blk (bD (ξ 7)) (cI (aa x.r)) 25] ac wo := (h.pick [0, 1, 2, 3, 4, 5] (by decide)).sub ⟨rfl, rfl, rfl, rfl, rfl, rfl, trivial⟩
  revert h
  obtain ⟨b5, hb6⟩ : ∃ b, ξ 6 = ptr b 0 := hφ 6
  obtain ⟨b6, hb7⟩ : ∃ b, ξ 7 = ptr b 0 := hφ 7
  rw [hb6, hb7]; intro h
  clear hb6 hb7
  clear hφ ξ
  refine gz h <| (W) ?_; clear h ac wo; intro ac wo h
  have s5 := an ((bF (aa x.p) (aa x.p) 35 og s2 s2) w0)
  have s6 := an ((bF (ag x.r) (aa x.r) 35 og s3 s4) w0)
  have s7 := an ((bF (ab (aa x.p) (aa x.p)) (ab (ag x.r) (aa x.r)) 34 og s5 s6) w0)
  have s8 := Calls.pr ((fun w_ hB_ hS_ => jR (ab (ab (aa x.p) (aa x.p)) (ab (ag x.r) (aa x.r))) (ht.1) (fp s7 og) w_ ) _ h.bel h.sep)
  replace h := h.emps 1
  refine fh mixed [⟨.det (vI (aa x.p)), [3]⟩, ⟨.det (vI (aa x.p)), [3]⟩, ⟨.det (vI (ab (aa x.p) (aa x.p))), []⟩, ⟨.det (vI (ag x.r)), [4]⟩, ⟨.det (vI (aa x.r)), [5]⟩, ⟨.det (vI (ab (ag x.r) (aa x.r))), []⟩, ⟨.det (vI (ab (ab (aa x.p) (aa x.p)) (ab (ag x.r) (aa x.r)))), []⟩, ⟨.det (.tuple #[(vI ((az (ab (ab (aa x.p) (aa x.p)) (ab (ag x.r) (aa x.r)))).1)), (.int .i64 ((az (ab (ab (aa x.p) (aa x.p)) (ab (ag x.r) (aa x.r)))).2))]), []⟩, ⟨.det (.tuple #[(vI ((az (ab (ab (aa x.p) (aa x.p)) (ab (ag x.r) (aa x.r)))).1)), (.int .i64 ((az (ab (ab (aa x.p) (aa x.p)) (ab (ag x.r) (aa x.r)))).2))]), []⟩, ⟨.det (vI ((az (ab (ab (aa x.p) (aa x.p)) (ab (ag x.r) (aa x.r)))).1)), []⟩, ⟨.det (.int .i64 ((az (ab (ab (aa x.p) (aa x.p)) (ab (ag x.r) (aa x.r)))).2)), []⟩, ⟨.nd (.one 11 fun v => ∃ b, v = ptr b 0), [6]⟩, ⟨.det undef, [6]⟩, ⟨.det (.int .i64 ((az (ab (ab (aa x.p) (aa x.p)) (ab (ag x.r) (aa x.r)))).2)), []⟩] [⟨.blk b2 (cI (⟨false, 0⟩ : GI)) 25, []⟩, ⟨.blk b1 (cR x) 71, []⟩, ⟨.blk b3 (cI (ag x.p)) 25, []⟩, ⟨.blk b4 (cI (aa x.p)) 25, []⟩, ⟨.blk b5 (cI (ag x.r)) 25, []⟩, ⟨.blk b6 (cI (aa x.r)) 25, []⟩, ⟨.emp, [(11, .one 11 fun v => .blk (bD v) (cI (⟨false, 0⟩ : GI)) 25), (12, .one 11 fun v => .blk (bD v) (cI ((az (ab (ab (aa x.p) (aa x.p)) (ab (ag x.r) (aa x.r)))).1)) 25)]⟩] h rfl (by kernel_rfl) ⟨?_, ?_, ?_, ?_, ?_, ?_, ?_, ?_, ?_, ?_, ?_, ?_, ?_, ?_, trivial⟩ ?_
  · intro ξ hφ; exact it [.blk b4 (cI (aa x.p)) 25] rfl rfl (jt aa25 zz25 rfl rfl rfl (v := (vI (aa x.p))) rfl)
  · intro ξ hφ; exact it [.blk b4 (cI (aa x.p)) 25] rfl rfl (jt aa25 zz25 rfl rfl rfl (v := (vI (aa x.p))) rfl)
  · intro ξ hφ; exact gm (fb (vs := [(vI (aa x.p)), (vI (aa x.p))]) (cZ cc97 rfl) (fun w_ hB_ hS_ => (bF (aa x.p) (aa x.p) 35 og s2 s2) w_))
  · intro ξ hφ; exact it [.blk b5 (cI (ag x.r)) 25] rfl rfl (jt aa25 zz25 rfl rfl rfl (v := (vI (ag x.r))) rfl)
  · intro ξ hφ; exact it [.blk b6 (cI (aa x.r)) 25] rfl rfl (jt aa25 zz25 rfl rfl rfl (v := (vI (aa x.r))) rfl)
  · intro ξ hφ; exact gm (fb (cZ cc97 rfl) (kk (bF (ag x.r) (aa x.r) 35 og s3 s4)))
  · intro ξ hφ; exact gm (fb (cZ cc97 rfl) (kk (bF (ab (aa x.p) (aa x.p)) (ab (ag x.r) (aa x.r)) 34 og s5 s6)))
  · intro ξ hφ; exact gm (fb (cZ Tryz.call251 rfl) (kk (jR (ab (ab (aa x.p) (aa x.p)) (ab (ag x.r) (aa x.r))) (ht.1) (fp s7 og))))
  · intro ξ hφ; exact bm (aq rfl)
  · intro ξ hφ; exact bm (dc rfl rfl)
  · intro ξ hφ; exact bm (dc rfl rfl)
  · intro ξ hφ; exact nN (ψ := fun v => ∃ b, v = ptr b 0) (B := fun v => [.blk (bD v) (cI (⟨false, 0⟩ : GI)) 25]) [.emp] rfl (fun v _ => by simp only [de, bC] <;> rfl) (fun v hv => by simpa [DF.one, bC] using hv) (jA (fK vv25 rfl))
  · intro ξ hφ; obtain ⟨b7, hb11⟩ := hφ 11 rfl; exact lC [.blk b7 (cI (⟨false, 0⟩ : GI)) 25] [.blk b7 (cI ((az (ab (ab (aa x.p) (aa x.p)) (ab (ag x.r) (aa x.r)))).1)) 25] (congrArg (fun v => [Asn.blk (bD v) (cI (⟨false, 0⟩ : GI)) 25]) hb11) (congrArg (fun v => [Asn.blk (bD v) (cI ((az (ab (ab (aa x.p) (aa x.p)) (ab (ag x.r) (aa x.r)))).1)) 25]) hb11) (nj zz25 (Eq.trans rfl (congrArg some hb11)) rfl rfl rfl rfl rfl rfl)
  · intro ξ hφ; exact bm (aA rfl)
  clear h ac wo; intro ξ ac wo hφ h
  replace h : St w0 59 [(1, (ptr b1 0)), (2, (ptr b2 0)), (3, (ptr b3 0)), (4, (ptr b4 0)), (6, (ptr b6 0)), (7, ξ 11)] [.blk b2 (cI (⟨false, 0⟩ : GI)) 25, .blk b1 (cR x) 71, .blk b3 (cI (ag x.p)) 25, .blk b4 (cI (aa x.p)) 25, .blk b5 (cI (ag x.r)) 25, .blk b6 (cI (aa x.r)) 25, .blk (bD (ξ 11)) (cI ((az (ab (ab (aa x.p) (aa x.p)) (ab (ag x.r) (aa x.r)))).1)) 25] ac wo := (h.pick [0, 1, 2, 3, 4, 5, 6] (by decide)).sub ⟨rfl, rfl, rfl, rfl, rfl, rfl, trivial⟩
  revert h
  obtain ⟨b7, hb11⟩ : ∃ b, ξ 11 = ptr b 0 := hφ 11
  rw [hb11]; intro h
  clear hb11
  clear hφ ξ
  have c9 := bF (ag x.p) (aa x.r) 35 og s1 s4
  have s9 := an (c9 w0)
  refine gz h <| (xk (c9)) <| (xa) fun b8 => (ai) ?_ ?_ <;> clear h ac wo <;> intro ac wo h hc1
  ·
    have hq1 := hc1; try simp at hq1
    have s10 := an ((em 1 40 og  og) w0)
    have s11 := an ((eV ((az (ab (ab (aa x.p) (aa x.p)) (ab (ag x.r) (aa x.r)))).1) (ax 1) 28 og s8 (fp s10 og)) w0)
    have s12 := Calls.pr ((fun w_ hB_ hS_ => kh (ab (ag x.p) (aa x.r)) (aI ((az (ab (ab (aa x.p) (aa x.p)) (ab (ag x.r) (aa x.r)))).1) (ax 1)) (fp s9 og) s11 w_ ) _ h.bel h.sep)
    refine gz h <| (dr1 (H := [⟨.blk b8 (cI (ab (ag x.p) (aa x.r))) 25, [(5, .con (.blk b8 (cI (bu (ab (ag x.p) (aa x.r)) (aI ((az (ab (ab (aa x.p) (aa x.p)) (ab (ag x.r) (aa x.r)))).1) (ax 1)))) 25))]⟩, ⟨.blk b2 (cI (⟨false, 0⟩ : GI)) 25, []⟩, ⟨.blk b1 (cR x) 71, []⟩, ⟨.blk b3 (cI (ag x.p)) 25, []⟩, ⟨.blk b4 (cI (aa x.p)) 25, []⟩, ⟨.blk b5 (cI (ag x.r)) 25, []⟩, ⟨.blk b6 (cI (aa x.r)) 25, []⟩, ⟨.blk b7 (cI ((az (ab (ab (aa x.p) (aa x.p)) (ab (ag x.r) (aa x.r)))).1)) 25, []⟩]) (hob := (oX (h := by exact fun _ => gm (fb (vs := [(.int .i64 1)]) (cZ Tryz.call93 rfl) (fun w_ hB_ hS_ => (em 1 40 og  og) w_)))) <| (oK (eV ((az (ab (ab (aa x.p) (aa x.p)) (ab (ag x.r) (aa x.r)))).1) (ax 1) 28 og s8 (fp s10 og))) <| (oK (kh (ab (ag x.p) (aa x.r)) (aI ((az (ab (ab (aa x.p) (aa x.p)) (ab (ag x.r) (aa x.r)))).1) (ax 1)) (fp s9 og) s11)) <| oE)) <| (W) ?_; clear h ac wo; intro ac wo h
    have c13 := bF (aa x.p) (aa x.r) 35 og s2 s4
    have s13 := an (c13 w0)
    have s14 := an ((fg (bu (ab (ag x.p) (aa x.r)) (aI ((az (ab (ab (aa x.p) (aa x.p)) (ab (ag x.r) (aa x.r)))).1) (ax 1))) (ab (aa x.p) (aa x.r)) 25 og s12 (fp s13 og)) w0)
    replace h := h.emps 2
    refine fh mixed [⟨.det (vI (bu (ab (ag x.p) (aa x.r)) (aI ((az (ab (ab (aa x.p) (aa x.p)) (ab (ag x.r) (aa x.r)))).1) (ax 1)))), [0]⟩, ⟨.det (vI (aa x.p)), [4]⟩, ⟨.det (vI (aa x.r)), [6]⟩, ⟨.det (vI (ab (aa x.p) (aa x.r))), []⟩, ⟨.det (.tuple #[(vI ((aJ (bu (ab (ag x.p) (aa x.r)) (aI ((az (ab (ab (aa x.p) (aa x.p)) (ab (ag x.r) (aa x.r)))).1) (ax 1))) (ab (aa x.p) (aa x.r))).1)), (vI ((aJ (bu (ab (ag x.p) (aa x.r)) (aI ((az (ab (ab (aa x.p) (aa x.p)) (ab (ag x.r) (aa x.r)))).1) (ax 1))) (ab (aa x.p) (aa x.r))).2.1)), (.int .i64 ((aJ (bu (ab (ag x.p) (aa x.r)) (aI ((az (ab (ab (aa x.p) (aa x.p)) (ab (ag x.r) (aa x.r)))).1) (ax 1))) (ab (aa x.p) (aa x.r))).2.2))]), []⟩, ⟨.det (.tuple #[(vI ((aJ (bu (ab (ag x.p) (aa x.r)) (aI ((az (ab (ab (aa x.p) (aa x.p)) (ab (ag x.r) (aa x.r)))).1) (ax 1))) (ab (aa x.p) (aa x.r))).1)), (vI ((aJ (bu (ab (ag x.p) (aa x.r)) (aI ((az (ab (ab (aa x.p) (aa x.p)) (ab (ag x.r) (aa x.r)))).1) (ax 1))) (ab (aa x.p) (aa x.r))).2.1)), (.int .i64 ((aJ (bu (ab (ag x.p) (aa x.r)) (aI ((az (ab (ab (aa x.p) (aa x.p)) (ab (ag x.r) (aa x.r)))).1) (ax 1))) (ab (aa x.p) (aa x.r))).2.2))]), []⟩, ⟨.det (vI ((aJ (bu (ab (ag x.p) (aa x.r)) (aI ((az (ab (ab (aa x.p) (aa x.p)) (ab (ag x.r) (aa x.r)))).1) (ax 1))) (ab (aa x.p) (aa x.r))).1)), []⟩, ⟨.det (vI ((aJ (bu (ab (ag x.p) (aa x.r)) (aI ((az (ab (ab (aa x.p) (aa x.p)) (ab (ag x.r) (aa x.r)))).1) (ax 1))) (ab (aa x.p) (aa x.r))).2.1)), []⟩, ⟨.det (.int .i64 ((aJ (bu (ab (ag x.p) (aa x.r)) (aI ((az (ab (ab (aa x.p) (aa x.p)) (ab (ag x.r) (aa x.r)))).1) (ax 1))) (ab (aa x.p) (aa x.r))).2.2)), []⟩, ⟨.nd (.one 9 fun v => ∃ b, v = ptr b 0), [8]⟩, ⟨.nd (.one 10 fun v => ∃ b, v = ptr b 0), [9]⟩, ⟨.det undef, [8]⟩, ⟨.det undef, [9]⟩, ⟨.det (.int .i64 ((aJ (bu (ab (ag x.p) (aa x.r)) (aI ((az (ab (ab (aa x.p) (aa x.p)) (ab (ag x.r) (aa x.r)))).1) (ax 1))) (ab (aa x.p) (aa x.r))).2.2)), []⟩] [⟨.blk b8 (cI (bu (ab (ag x.p) (aa x.r)) (aI ((az (ab (ab (aa x.p) (aa x.p)) (ab (ag x.r) (aa x.r)))).1) (ax 1)))) 25, []⟩, ⟨.blk b2 (cI (⟨false, 0⟩ : GI)) 25, []⟩, ⟨.blk b1 (cR x) 71, []⟩, ⟨.blk b3 (cI (ag x.p)) 25, []⟩, ⟨.blk b4 (cI (aa x.p)) 25, []⟩, ⟨.blk b5 (cI (ag x.r)) 25, []⟩, ⟨.blk b6 (cI (aa x.r)) 25, []⟩, ⟨.blk b7 (cI ((az (ab (ab (aa x.p) (aa x.p)) (ab (ag x.r) (aa x.r)))).1)) 25, []⟩, ⟨.emp, [(9, .one 9 fun v => .blk (bD v) (cI (⟨false, 0⟩ : GI)) 25), (11, .one 9 fun v => .blk (bD v) (cI ((aJ (bu (ab (ag x.p) (aa x.r)) (aI ((az (ab (ab (aa x.p) (aa x.p)) (ab (ag x.r) (aa x.r)))).1) (ax 1))) (ab (aa x.p) (aa x.r))).1)) 25)]⟩, ⟨.emp, [(10, .one 10 fun v => .blk (bD v) (cI (⟨false, 0⟩ : GI)) 25), (12, .one 10 fun v => .blk (bD v) (cI ((aJ (bu (ab (ag x.p) (aa x.r)) (aI ((az (ab (ab (aa x.p) (aa x.p)) (ab (ag x.r) (aa x.r)))).1) (ax 1))) (ab (aa x.p) (aa x.r))).2.1)) 25)]⟩] h rfl (by kernel_rfl) ⟨?_, ?_, ?_, ?_, ?_, ?_, ?_, ?_, ?_, ?_, ?_, ?_, ?_, ?_, trivial⟩ ?_
    · intro ξ hφ; exact it [.blk b8 (cI (bu (ab (ag x.p) (aa x.r)) (aI ((az (ab (ab (aa x.p) (aa x.p)) (ab (ag x.r) (aa x.r)))).1) (ax 1)))) 25] rfl rfl (jt aa25 zz25 rfl rfl rfl (v := (vI (bu (ab (ag x.p) (aa x.r)) (aI ((az (ab (ab (aa x.p) (aa x.p)) (ab (ag x.r) (aa x.r)))).1) (ax 1))))) rfl)
    · intro ξ hφ; exact it [.blk b4 (cI (aa x.p)) 25] rfl rfl (jt aa25 zz25 rfl rfl rfl (v := (vI (aa x.p))) rfl)
    · intro ξ hφ; exact it [.blk b6 (cI (aa x.r)) 25] rfl rfl (jt aa25 zz25 rfl rfl rfl (v := (vI (aa x.r))) rfl)
    · intro ξ hφ; exact gm (fb (cZ cc97 rfl) (kk c13))
    · intro ξ hφ; exact gm (fb (cZ Tryz.call253 rfl) (kk (fg (bu (ab (ag x.p) (aa x.r)) (aI ((az (ab (ab (aa x.p) (aa x.p)) (ab (ag x.r) (aa x.r)))).1) (ax 1))) (ab (aa x.p) (aa x.r)) 25 og s12 (fp s13 og))))
    · intro ξ hφ; exact bm (aq rfl)
    · intro ξ hφ; exact bm (dc rfl rfl)
    · intro ξ hφ; exact bm (dc rfl rfl)
    · intro ξ hφ; exact bm (dc rfl rfl)
    · intro ξ hφ; exact nN (ψ := fun v => ∃ b, v = ptr b 0) (B := fun v => [.blk (bD v) (cI (⟨false, 0⟩ : GI)) 25]) [.emp] rfl (fun v _ => by simp only [de, bC] <;> rfl) (fun v hv => by simpa [DF.one, bC] using hv) (jA (fK vv25 rfl))
    · intro ξ hφ; exact nN (ψ := fun v => ∃ b, v = ptr b 0) (B := fun v => [.blk (bD v) (cI (⟨false, 0⟩ : GI)) 25]) [.emp] rfl (fun v _ => by simp only [de, bC] <;> rfl) (fun v hv => by simpa [DF.one, bC] using hv) (jA (fK vv25 rfl))
    · intro ξ hφ; obtain ⟨b9, hb9⟩ := hφ 9 rfl; exact lC [.blk b9 (cI (⟨false, 0⟩ : GI)) 25] [.blk b9 (cI ((aJ (bu (ab (ag x.p) (aa x.r)) (aI ((az (ab (ab (aa x.p) (aa x.p)) (ab (ag x.r) (aa x.r)))).1) (ax 1))) (ab (aa x.p) (aa x.r))).1)) 25] (congrArg (fun v => [Asn.blk (bD v) (cI (⟨false, 0⟩ : GI)) 25]) hb9) (congrArg (fun v => [Asn.blk (bD v) (cI ((aJ (bu (ab (ag x.p) (aa x.r)) (aI ((az (ab (ab (aa x.p) (aa x.p)) (ab (ag x.r) (aa x.r)))).1) (ax 1))) (ab (aa x.p) (aa x.r))).1)) 25]) hb9) (nj zz25 (Eq.trans rfl (congrArg some hb9)) rfl rfl rfl rfl rfl rfl)
    · intro ξ hφ; obtain ⟨b10, hb10⟩ := hφ 10 rfl; exact lC [.blk b10 (cI (⟨false, 0⟩ : GI)) 25] [.blk b10 (cI ((aJ (bu (ab (ag x.p) (aa x.r)) (aI ((az (ab (ab (aa x.p) (aa x.p)) (ab (ag x.r) (aa x.r)))).1) (ax 1))) (ab (aa x.p) (aa x.r))).2.1)) 25] (congrArg (fun v => [Asn.blk (bD v) (cI (⟨false, 0⟩ : GI)) 25]) hb10) (congrArg (fun v => [Asn.blk (bD v) (cI ((aJ (bu (ab (ag x.p) (aa x.r)) (aI ((az (ab (ab (aa x.p) (aa x.p)) (ab (ag x.r) (aa x.r)))).1) (ax 1))) (ab (aa x.p) (aa x.r))).2.1)) 25]) hb10) (nj zz25 (Eq.trans rfl (congrArg some hb10)) rfl rfl rfl rfl rfl rfl)
    · intro ξ hφ; exact bm (aA rfl)
    clear h ac wo; intro ξ ac wo hφ h
    replace h : St w0 59 [(2, (ptr b2 0)), (10, ξ 9)] [.blk b8 (cI (bu (ab (ag x.p) (aa x.r)) (aI ((az (ab (ab (aa x.p) (aa x.p)) (ab (ag x.r) (aa x.r)))).1) (ax 1)))) 25, .blk b2 (cI (⟨false, 0⟩ : GI)) 25, .blk b1 (cR x) 71, .blk b3 (cI (ag x.p)) 25, .blk b4 (cI (aa x.p)) 25, .blk b5 (cI (ag x.r)) 25, .blk b6 (cI (aa x.r)) 25, .blk b7 (cI ((az (ab (ab (aa x.p) (aa x.p)) (ab (ag x.r) (aa x.r)))).1)) 25, .blk (bD (ξ 9)) (cI ((aJ (bu (ab (ag x.p) (aa x.r)) (aI ((az (ab (ab (aa x.p) (aa x.p)) (ab (ag x.r) (aa x.r)))).1) (ax 1))) (ab (aa x.p) (aa x.r))).1)) 25, .blk (bD (ξ 10)) (cI ((aJ (bu (ab (ag x.p) (aa x.r)) (aI ((az (ab (ab (aa x.p) (aa x.p)) (ab (ag x.r) (aa x.r)))).1) (ax 1))) (ab (aa x.p) (aa x.r))).2.1)) 25] ac wo := (h.pick [0, 1, 2, 3, 4, 5, 6, 7, 8, 9] (by decide)).sub ⟨rfl, rfl, trivial⟩
    revert h
    obtain ⟨b9, hb9⟩ : ∃ b, ξ 9 = ptr b 0 := hφ 9
    obtain ⟨b10, hb10⟩ : ∃ b, ξ 10 = ptr b 0 := hφ 10
    rw [hb9, hb10]; intro h
    clear hb9 hb10
    clear hφ ξ
    have hd : eh x = (aJ (bu (ab (ag x.p) (aa x.r)) (aI ((az (ab (ab (aa x.p) (aa x.p)) (ab (ag x.r) (aa x.r)))).1) (ax 1))) (ab (aa x.p) (aa x.r))).1 := pt
    refine gz h <| (W) ?_; clear h ac wo; intro ac wo h
    exact ret h rfl (.cell (v := (vI ((aJ (bu (ab (ag x.p) (aa x.r)) (aI ((az (ab (ab (aa x.p) (aa x.p)) (ab (ag x.r) (aa x.r)))).1) (ax 1))) (ab (aa x.p) (aa x.r))).1))) rfl (i := 1) rfl aa25 zz25 rfl rfl rfl .nil) rfl (h.retP (by rw [hd] <;> rfl) (by rw [hd]; exact (by rw [← hd]; exact ht.2)))
  ·
    have hq1 := hc1; try simp at hq1
    have c15 := eV (ab (ag x.p) (aa x.r)) ((az (ab (ab (aa x.p) (aa x.p)) (ab (ag x.r) (aa x.r)))).1) 28 og (fp s9 og) s8
    have s15 := an (c15 w0)
    refine gz h <| (xk (c15)) <| (W) ?_; clear h ac wo; intro ac wo h
    have c16 := bF (aa x.p) (aa x.r) 35 og s2 s4
    have s16 := an (c16 w0)
    have s17 := an ((fg (aI (ab (ag x.p) (aa x.r)) ((az (ab (ab (aa x.p) (aa x.p)) (ab (ag x.r) (aa x.r)))).1)) (ab (aa x.p) (aa x.r)) 27 og s15 (fp s16 og)) w0)
    replace h := h.emps 2
    refine fh mixed [⟨.det (vI (aI (ab (ag x.p) (aa x.r)) ((az (ab (ab (aa x.p) (aa x.p)) (ab (ag x.r) (aa x.r)))).1))), [0]⟩, ⟨.det (vI (aa x.p)), [4]⟩, ⟨.det (vI (aa x.r)), [6]⟩, ⟨.det (vI (ab (aa x.p) (aa x.r))), []⟩, ⟨.det (.tuple #[(vI ((aJ (aI (ab (ag x.p) (aa x.r)) ((az (ab (ab (aa x.p) (aa x.p)) (ab (ag x.r) (aa x.r)))).1)) (ab (aa x.p) (aa x.r))).1)), (vI ((aJ (aI (ab (ag x.p) (aa x.r)) ((az (ab (ab (aa x.p) (aa x.p)) (ab (ag x.r) (aa x.r)))).1)) (ab (aa x.p) (aa x.r))).2.1)), (.int .i64 ((aJ (aI (ab (ag x.p) (aa x.r)) ((az (ab (ab (aa x.p) (aa x.p)) (ab (ag x.r) (aa x.r)))).1)) (ab (aa x.p) (aa x.r))).2.2))]), []⟩, ⟨.det (.tuple #[(vI ((aJ (aI (ab (ag x.p) (aa x.r)) ((az (ab (ab (aa x.p) (aa x.p)) (ab (ag x.r) (aa x.r)))).1)) (ab (aa x.p) (aa x.r))).1)), (vI ((aJ (aI (ab (ag x.p) (aa x.r)) ((az (ab (ab (aa x.p) (aa x.p)) (ab (ag x.r) (aa x.r)))).1)) (ab (aa x.p) (aa x.r))).2.1)), (.int .i64 ((aJ (aI (ab (ag x.p) (aa x.r)) ((az (ab (ab (aa x.p) (aa x.p)) (ab (ag x.r) (aa x.r)))).1)) (ab (aa x.p) (aa x.r))).2.2))]), []⟩, ⟨.det (vI ((aJ (aI (ab (ag x.p) (aa x.r)) ((az (ab (ab (aa x.p) (aa x.p)) (ab (ag x.r) (aa x.r)))).1)) (ab (aa x.p) (aa x.r))).1)), []⟩, ⟨.det (vI ((aJ (aI (ab (ag x.p) (aa x.r)) ((az (ab (ab (aa x.p) (aa x.p)) (ab (ag x.r) (aa x.r)))).1)) (ab (aa x.p) (aa x.r))).2.1)), []⟩, ⟨.det (.int .i64 ((aJ (aI (ab (ag x.p) (aa x.r)) ((az (ab (ab (aa x.p) (aa x.p)) (ab (ag x.r) (aa x.r)))).1)) (ab (aa x.p) (aa x.r))).2.2)), []⟩, ⟨.nd (.one 9 fun v => ∃ b, v = ptr b 0), [8]⟩, ⟨.nd (.one 10 fun v => ∃ b, v = ptr b 0), [9]⟩, ⟨.det undef, [8]⟩, ⟨.det undef, [9]⟩, ⟨.det (.int .i64 ((aJ (aI (ab (ag x.p) (aa x.r)) ((az (ab (ab (aa x.p) (aa x.p)) (ab (ag x.r) (aa x.r)))).1)) (ab (aa x.p) (aa x.r))).2.2)), []⟩] [⟨.blk b8 (cI (aI (ab (ag x.p) (aa x.r)) ((az (ab (ab (aa x.p) (aa x.p)) (ab (ag x.r) (aa x.r)))).1))) 25, []⟩, ⟨.blk b2 (cI (⟨false, 0⟩ : GI)) 25, []⟩, ⟨.blk b1 (cR x) 71, []⟩, ⟨.blk b3 (cI (ag x.p)) 25, []⟩, ⟨.blk b4 (cI (aa x.p)) 25, []⟩, ⟨.blk b5 (cI (ag x.r)) 25, []⟩, ⟨.blk b6 (cI (aa x.r)) 25, []⟩, ⟨.blk b7 (cI ((az (ab (ab (aa x.p) (aa x.p)) (ab (ag x.r) (aa x.r)))).1)) 25, []⟩, ⟨.emp, [(9, .one 9 fun v => .blk (bD v) (cI (⟨false, 0⟩ : GI)) 25), (11, .one 9 fun v => .blk (bD v) (cI ((aJ (aI (ab (ag x.p) (aa x.r)) ((az (ab (ab (aa x.p) (aa x.p)) (ab (ag x.r) (aa x.r)))).1)) (ab (aa x.p) (aa x.r))).1)) 25)]⟩, ⟨.emp, [(10, .one 10 fun v => .blk (bD v) (cI (⟨false, 0⟩ : GI)) 25), (12, .one 10 fun v => .blk (bD v) (cI ((aJ (aI (ab (ag x.p) (aa x.r)) ((az (ab (ab (aa x.p) (aa x.p)) (ab (ag x.r) (aa x.r)))).1)) (ab (aa x.p) (aa x.r))).2.1)) 25)]⟩] h rfl (by kernel_rfl) ⟨?_, ?_, ?_, ?_, ?_, ?_, ?_, ?_, ?_, ?_, ?_, ?_, ?_, ?_, trivial⟩ ?_
    · intro ξ hφ; exact it [.blk b8 (cI (aI (ab (ag x.p) (aa x.r)) ((az (ab (ab (aa x.p) (aa x.p)) (ab (ag x.r) (aa x.r)))).1))) 25] rfl rfl (jt aa25 zz25 rfl rfl rfl (v := (vI (aI (ab (ag x.p) (aa x.r)) ((az (ab (ab (aa x.p) (aa x.p)) (ab (ag x.r) (aa x.r)))).1)))) rfl)
    · intro ξ hφ; exact it [.blk b4 (cI (aa x.p)) 25] rfl rfl (jt aa25 zz25 rfl rfl rfl (v := (vI (aa x.p))) rfl)
    · intro ξ hφ; exact it [.blk b6 (cI (aa x.r)) 25] rfl rfl (jt aa25 zz25 rfl rfl rfl (v := (vI (aa x.r))) rfl)
    · intro ξ hφ; exact gm (fb (cZ cc97 rfl) (kk c16))
    · intro ξ hφ; exact gm (fb (cZ Tryz.call253 rfl) (kk (fg (aI (ab (ag x.p) (aa x.r)) ((az (ab (ab (aa x.p) (aa x.p)) (ab (ag x.r) (aa x.r)))).1)) (ab (aa x.p) (aa x.r)) 27 og s15 (fp s16 og))))
    · intro ξ hφ; exact bm (aq rfl)
    · intro ξ hφ; exact bm (dc rfl rfl)
    · intro ξ hφ; exact bm (dc rfl rfl)
    · intro ξ hφ; exact bm (dc rfl rfl)
    · intro ξ hφ; exact nN (ψ := fun v => ∃ b, v = ptr b 0) (B := fun v => [.blk (bD v) (cI (⟨false, 0⟩ : GI)) 25]) [.emp] rfl (fun v _ => by simp only [de, bC] <;> rfl) (fun v hv => by simpa [DF.one, bC] using hv) (jA (fK vv25 rfl))
    · intro ξ hφ; exact nN (ψ := fun v => ∃ b, v = ptr b 0) (B := fun v => [.blk (bD v) (cI (⟨false, 0⟩ : GI)) 25]) [.emp] rfl (fun v _ => by simp only [de, bC] <;> rfl) (fun v hv => by simpa [DF.one, bC] using hv) (jA (fK vv25 rfl))
    · intro ξ hφ; obtain ⟨b11, hb9⟩ := hφ 9 rfl; exact lC [.blk b11 (cI (⟨false, 0⟩ : GI)) 25] [.blk b11 (cI ((aJ (aI (ab (ag x.p) (aa x.r)) ((az (ab (ab (aa x.p) (aa x.p)) (ab (ag x.r) (aa x.r)))).1)) (ab (aa x.p) (aa x.r))).1)) 25] (congrArg (fun v => [Asn.blk (bD v) (cI (⟨false, 0⟩ : GI)) 25]) hb9) (congrArg (fun v => [Asn.blk (bD v) (cI ((aJ (aI (ab (ag x.p) (aa x.r)) ((az (ab (ab (aa x.p) (aa x.p)) (ab (ag x.r) (aa x.r)))).1)) (ab (aa x.p) (aa x.r))).1)) 25]) hb9) (nj zz25 (Eq.trans rfl (congrArg some hb9)) rfl rfl rfl rfl rfl rfl)
    · intro ξ hφ; obtain ⟨b12, hb10⟩ := hφ 10 rfl; exact lC [.blk b12 (cI (⟨false, 0⟩ : GI)) 25] [.blk b12 (cI ((aJ (aI (ab (ag x.p) (aa x.r)) ((az (ab (ab (aa x.p) (aa x.p)) (ab (ag x.r) (aa x.r)))).1)) (ab (aa x.p) (aa x.r))).2.1)) 25] (congrArg (fun v => [Asn.blk (bD v) (cI (⟨false, 0⟩ : GI)) 25]) hb10) (congrArg (fun v => [Asn.blk (bD v) (cI ((aJ (aI (ab (ag x.p) (aa x.r)) ((az (ab (ab (aa x.p) (aa x.p)) (ab (ag x.r) (aa x.r)))).1)) (ab (aa x.p) (aa x.r))).2.1)) 25]) hb10) (nj zz25 (Eq.trans rfl (congrArg some hb10)) rfl rfl rfl rfl rfl rfl)
    · intro ξ hφ; exact bm (aA rfl)
    clear h ac wo; intro ξ ac wo hφ h
    replace h : St w0 59 [(2, (ptr b2 0)), (10, ξ 9)] [.blk b8 (cI (aI (ab (ag x.p) (aa x.r)) ((az (ab (ab (aa x.p) (aa x.p)) (ab (ag x.r) (aa x.r)))).1))) 25, .blk b2 (cI (⟨false, 0⟩ : GI)) 25, .blk b1 (cR x) 71, .blk b3 (cI (ag x.p)) 25, .blk b4 (cI (aa x.p)) 25, .blk b5 (cI (ag x.r)) 25, .blk b6 (cI (aa x.r)) 25, .blk b7 (cI ((az (ab (ab (aa x.p) (aa x.p)) (ab (ag x.r) (aa x.r)))).1)) 25, .blk (bD (ξ 9)) (cI ((aJ (aI (ab (ag x.p) (aa x.r)) ((az (ab (ab (aa x.p) (aa x.p)) (ab (ag x.r) (aa x.r)))).1)) (ab (aa x.p) (aa x.r))).1)) 25, .blk (bD (ξ 10)) (cI ((aJ (aI (ab (ag x.p) (aa x.r)) ((az (ab (ab (aa x.p) (aa x.p)) (ab (ag x.r) (aa x.r)))).1)) (ab (aa x.p) (aa x.r))).2.1)) 25] ac wo := (h.pick [0, 1, 2, 3, 4, 5, 6, 7, 8, 9] (by decide)).sub ⟨rfl, rfl, trivial⟩
    revert h
    obtain ⟨b11, hb9⟩ : ∃ b, ξ 9 = ptr b 0 := hφ 9
    obtain ⟨b12, hb10⟩ : ∃ b, ξ 10 = ptr b 0 := hφ 10
    rw [hb9, hb10]; intro h
    clear hb9 hb10
    clear hφ ξ
    have hd : eh x = (aJ (aI (ab (ag x.p) (aa x.r)) ((az (ab (ab (aa x.p) (aa x.p)) (ab (ag x.r) (aa x.r)))).1)) (ab (aa x.p) (aa x.r))).1 := pt
    refine gz h <| (W) ?_; clear h ac wo; intro ac wo h
    exact ret h rfl (.cell (v := (vI ((aJ (aI (ab (ag x.p) (aa x.r)) ((az (ab (ab (aa x.p) (aa x.p)) (ab (ag x.r) (aa x.r)))).1)) (ab (aa x.p) (aa x.r))).1))) rfl (i := 1) rfl aa25 zz25 rfl rfl rfl .nil) rfl (h.retP (by rw [hd] <;> rfl) (by rw [hd]; exact (by rw [← hd]; exact ht.2)))
attribute [irreducible] eh
end Go.Sx
namespace Go.Sx
open Go Go.RowKit Go.Proofs
set_option maxRecDepth 100000
set_option maxHeartbeats 40000000
attribute [local irreducible] Code.wp wpList Rd Step ObS Ent
attribute [local irreducible] am aQ ah aw aD bU
attribute [local irreducible] aW aV ak aC aU aj ab aa a8 bR
theorem o7 (num den : GI) (znum : SzI 36 num) (zden : SzI 36 den) (w0 : World) : Calls Tryz.prog 92 #[(vI num), (vI den)] w0 (dA w0 (.tuple #[(vQ ((bZ num den).1)), (.int .i64 ((bZ num den).2))]) (SzQ 35 ((bZ num den).1))) := by
 refine enter (N := 13) (args := [(vI num), (vI den)]) Tryz.func92 rfl rfl ?_; intro ac h
 have p2 := an ((dG den) w0)
 refine gz h <| (xb) fun b1 => (xb) fun b2 => (xa) fun b3 => (xk (dG den)) <| (ai) ?_ ?_ <;> clear h ac <;> intro ac wo h hc1
 ·
  have hd : bZ num den = (oQ, 6) := by unfold bZ; rw [hc1]; rfl
  rw [hd]
  refine gz h <| (xo (hs := by exact bG m7 exs rfl (v := (vQ oQ)) rfl)) <| (W) ?_; clear h ac wo; intro ac wo h
  exact rtc2 0 h (h.retP (u := .tuple #[vQ oQ, .int .i64 6]) rfl ⟨(cG 0 (by decide) og), (cG 0 (by decide) og)⟩)
 ·
  have c3 := dJ num den 35 og znum zden
  have hd : bZ num den = ((a8 num den), 0) := by unfold bZ; rw [hc1]; rfl
  rw [hd]
  refine gz h <| (xk (c3)) <| (W) ?_; clear h ac wo; intro ac wo h
  exact rtc2 0 h (h.retP (u := .tuple #[vQ (a8 num den), .int .i64 0]) rfl (an (c3 w0)))
def bA (a b : GQ) : GQ × Int := bZ (ab a.num (aa b)) (ab (aa a) b.num)
theorem mK (a b : GQ) (za : SzQ 37 a) (zb : SzQ 37 b) (w0 : World) : Calls Tryz.prog 189 #[vQ a, vQ b] w0 (dA w0 (.tuple #[vQ (bA a b).1, .int .i64 (bA a b).2]) (SzQ 35 (bA a b).1)) := by
 refine enter (N := 19) (args := [vQ a, vQ b]) Tryz.func189 rfl rfl ?_; intro ac h
 have s1 := an ((bq b 37 og zb) w0)
 have s2 := an ((bF a.num (aa b) 36 og za.1 s1) w0)
 have s3 := an ((bq a 37 og za) w0)
 have s4 := an ((bF (aa a) b.num 36 og s3 zb.1) w0)
 have s5 := an ((o7 (ab a.num (aa b)) (ab (aa a) b.num) s2 s4) w0)
 refine gz h <| (xb) fun b1 => (xb) fun b2 => (xa) fun b3 => (dr1 (H := [⟨.blk b3 (cQ oQ) 27, [(13, .con (.blk b3 (cQ (bZ (ab a.num (aa b)) (ab (aa a) b.num)).1) 27))]⟩, ⟨_, []⟩, ⟨_, []⟩]) (hob := (oK (bq b 37 og zb)) <| (oK (bF a.num (aa b) 36 og za.1 s1)) <| (oK (bq a 37 og za)) <| (oK (bF (aa a) b.num 36 og s3 zb.1)) <| (oK (o7 (ab a.num (aa b)) (ab (aa a) b.num) s2 s4)) <| oE)) <| (W) ?_; clear h ac; intro ac wo h
 exact rtc2 0 h (h.retP (u := .tuple #[vQ (bA a b).1, .int .i64 (bA a b).2]) rfl s5)
attribute [irreducible] bA
def bV (t v u w : GQ) : Qd × Int :=
 bif (bA (aj w v) (aj u t)).2 != 0 then (⟨oQ, oQ, oQ⟩, (bA (aj w v) (aj u t)).2)
 else (aS (aj v (ak (bA (aj w v) (aj u t)).1 t)) (bA (aj w v) (aj u t)).1, 0)
theorem fd (t v u w : GQ) (zt : SzQ 40 t) (zv : SzQ 40 v) (zu : SzQ 40 u) (zw : SzQ 40 w) (w0 : World) : Calls Tryz.prog 89 #[vQ t, vQ v, vQ u, vQ w] w0 (dA w0 (.tuple #[vD (bV t v u w).1, .int .i64 (bV t v u w).2]) (SzD 30 (bV t v u w).1)) := by
 refine enter (N := 33) (args := [vQ t, vQ v, vQ u, vQ w]) Tryz.func89 rfl rfl ?_; intro ac h
 have c1 := cr w v 37 og zw zv
 have c2 := cr u t 37 og zu zt
 have c3 := mK (aj w v) (aj u t) (an (c1 w0)) (an (c2 w0))
 have s3 := an (c3 w0)
 have c4 := bh (bA (aj w v) (aj u t)).1 t 33 og s3 (cw zt og)
 have s4 := an (c4 w0)
 have c5 := cr v (ak (bA (aj w v) (aj u t)).1 t) 30 og (cw zv og) s4
 have s5 := an (c5 w0)
 have c6 := cX (aj v (ak (bA (aj w v) (aj u t)).1 t)) (bA (aj w v) (aj u t)).1 30 og s5 (cw s3 og)
 have s6 := an (c6 w0)
 refine gz h <| (xb) fun b1 => (xb) fun b2 => (xb) fun b3 => (xb) fun b4 => (xa) fun b5 => (W) ?_; clear h ac; intro ac wo h
 replace h := h.emps 1
 refine fh mixed [dw _ [1], dw _ [3], dv _, dw _ [2], dw _ [4], dv _, dv _, dv _, dv _, dv _, ⟨.nd (.one 10 fun x => ∃ b, x = ptr b 0), [5]⟩, dw undef [5], dv _] [⟨_, []⟩, ⟨_, []⟩, ⟨_, []⟩, ⟨_, []⟩, ⟨_, []⟩, ⟨.emp, [(10, .one 10 fun x => .blk (bD x) (cQ oQ) 27), (11, .one 10 fun x => .blk (bD x) (cQ (bA (aj w v) (aj u t)).1) 27)]⟩] h rfl (by kernel_rfl) ⟨oA obA, oA obA, oA fun _ => gm (fQ Tryz.call22 rfl c1), oA obA, oA obA, oA fun _ => gm (fQ Tryz.call22 rfl c2), oA fun _ => gm (fQ Tryz.call189 rfl c3), oA obA, oA obA, oA obA, fun _ _ => kG 5 rfl (fun _ => rfl), fun ξ hφ => kE (u := vQ (bA (aj w v) (aj u t)).1) 5 (hφ 10 rfl) rfl rfl rfl rfl rfl rfl rfl, oA obA, trivial⟩ ?_
 clear h ac wo; intro ξ ac wo hφ h
 obtain ⟨b6, hb6⟩ : ∃ b, ξ 10 = ptr b 0 := hφ 10
 replace h : St w0 33 [(4, ptr b1 0), (5, ptr b2 0), (6, ptr b3 0), (7, ptr b4 0), (8, ptr b5 0), (10, ξ 10), (11, .int .i64 (bA (aj w v) (aj u t)).2)] [.blk b5 (cD ⟨oQ, oQ, oQ⟩) 53, .blk b4 (cQ w) 27, .blk b3 (cQ u) 27, .blk b2 (cQ v) 27, .blk b1 (cQ t) 27, .blk (bD (ξ 10)) (cQ (bA (aj w v) (aj u t)).1) 27] ac wo := h.sub ⟨rfl, rfl, rfl, rfl, rfl, rfl, rfl, trivial⟩
 rw [hb6] at h
 clear hb6 hφ ξ
 refine gz h <| (ai) ?_ ?_ <;> clear h ac wo <;> intro ac wo h hc1
 ·
  have hd : bV t v u w = (⟨oQ, oQ, oQ⟩, (bA (aj w v) (aj u t)).2) := by unfold bV; rw [hc1]; rfl
  refine gz h <| (xo (hs := by exact bG wt exs rfl (v := vD ⟨oQ, oQ, oQ⟩) rfl)) <| (W) ?_; clear h ac wo; intro ac wo h
  rw [hd]; exact rtc2 0 h (h.retP (u := .tuple #[vD ⟨oQ, oQ, oQ⟩, .int .i64 (bA (aj w v) (aj u t)).2]) rfl ⟨⟨cG 0 (by decide) og, cG 0 (by decide) og⟩, ⟨cG 0 (by decide) og, cG 0 (by decide) og⟩, ⟨cG 0 (by decide) og, cG 0 (by decide) og⟩⟩)
 ·
  have hd : bV t v u w = (aS (aj v (ak (bA (aj w v) (aj u t)).1 t)) (bA (aj w v) (aj u t)).1, 0) := by unfold bV; rw [hc1]; rfl
  refine gz h <| (dr1 (H := [⟨.blk b5 (cD ⟨oQ, oQ, oQ⟩) 53, [(7, .con (.blk b5 (cD (aS (aj v (ak (bA (aj w v) (aj u t)).1 t)) (bA (aj w v) (aj u t)).1)) 53))]⟩, ⟨_, []⟩, ⟨_, []⟩, ⟨_, []⟩, ⟨_, []⟩, ⟨_, []⟩]) (hob := (oK c4) <| (oK c5) <| (oK c6) <| oE)) <| (W) ?_; clear h ac wo; intro ac wo h
  rw [hd]; exact rtc2 0 h (h.retP (u := .tuple #[vD (aS (aj v (ak (bA (aj w v) (aj u t)).1 t)) (bA (aj w v) (aj u t)).1), .int .i64 0]) rfl s6)
attribute [irreducible] bV
def lnOf (x y : Qd) : Ln := ⟨x.c0, x.c1, y.c0, y.c1⟩
def eF (a b : Smp) : Ln := lnOf (bV a.t a.p.x b.t b.p.x).1 (bV a.t a.p.y b.t b.p.y).1
def StO (a b : Smp) : Prop := tV 40 a ∧ tV 40 b
theorem sV (a b : Smp) (z : StO a b) (w0 : World) : Calls Tryz.prog 90 #[vSm a, vSm b] w0 (dA w0 (vN (eF a b)) (SzN 30 (eF a b))) := by
 refine enter (N := 46) (args := [vSm a, vSm b]) Tryz.func90 rfl rfl ?_; intro ac h
 have c1 := fd a.t a.p.x b.t b.p.x z.1.1 z.1.2.1 z.2.1 z.2.2.1
 have s1 := an (c1 w0)
 have c2 := fd a.t a.p.y b.t b.p.y z.1.1 z.1.2.2 z.2.1 z.2.2.2
 have s2 := an (c2 w0)
 refine gz h <| (xb) fun b1 => (xb) fun b2 => (xa) fun b3 => (xk c1) <| (xa) fun b4 => (xk c2) <| (xa) fun b5 => (W) ?_; clear h ac; intro ac wo h
 exact rtc 2 h (h.retP (u := vN (eF a b)) rfl ⟨s1.1, s1.2.1, s2.1, s2.2.1⟩)
def j6 (p : Pnt) : Ln := ⟨p.x, oQ, p.y, oQ⟩
theorem still_ct (p : Pnt) (k : Nat) (hk : k ≤ 40) (z : SzPt k p) (w0 : World) : Calls Tryz.prog 91 #[vPt p] w0 (dA w0 (vN (j6 p)) (SzN k (j6 p))) := by
 refine enter (N := 8) (args := [vPt p]) Tryz.func91 rfl rfl ?_; intro ac h
 refine gz h <| (xb) fun b1 => (xa) fun b2 => (W) ?_; clear h ac; intro ac wo h
 exact rtc 0 h (h.retP (u := vN (j6 p)) rfl ⟨z.1, ⟨cG 0 (by decide) og, cG 0 (by decide) og⟩, z.2, ⟨cG 0 (by decide) og, cG 0 (by decide) og⟩⟩)
def lxs (f : Ln) : Qd := aS f.x0 f.x1
def lys (f : Ln) : Qd := aS f.y0 f.y1
theorem lxs_ct (f : Ln) (k : Nat) (hk : k ≤ 40) (z : SzN k f) (w0 : World) : Calls Tryz.prog 102 #[vN f] w0 (dA w0 (vD (lxs f)) (SzD k (lxs f))) := by
 refine enter (N := 8) (args := [vN f]) Tryz.func102 rfl rfl ?_; intro ac h
 have c1 := cX f.x0 f.x1 k hk z.1 z.2.1
 refine gz h <| (xb) fun b1 => (xa) fun b2 => (xk c1) <| (W) ?_; clear h ac; intro ac wo h
 exact rtc 0 h (h.retP (u := vD (lxs f)) rfl (an (c1 w0)))
theorem lys_ct (f : Ln) (k : Nat) (hk : k ≤ 40) (z : SzN k f) (w0 : World) : Calls Tryz.prog 103 #[vN f] w0 (dA w0 (vD (lys f)) (SzD k (lys f))) := by
 refine enter (N := 8) (args := [vN f]) Tryz.func103 rfl rfl ?_; intro ac h
 have c1 := cX f.y0 f.y1 k hk z.2.2.1 z.2.2.2
 refine gz h <| (xb) fun b1 => (xa) fun b2 => (xk c1) <| (W) ?_; clear h ac; intro ac wo h
 exact rtc 0 h (h.retP (u := vD (lys f)) rfl (an (c1 w0)))
def dP (t x y : Int) : Smp := ⟨ah t, ⟨ah x, ah y⟩⟩
end Go.Sx
