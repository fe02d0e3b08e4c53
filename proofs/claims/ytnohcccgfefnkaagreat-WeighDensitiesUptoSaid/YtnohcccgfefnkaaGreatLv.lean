/- Lv: the contracts of numbers once more, for walks that a program of mine prints. -/
import Derived.Test.YtnohcccgfefnkaaGreatLw
set_option maxRecDepth 10000
set_option linter.unusedSimpArgs false
set_option linter.unusedVariables false
namespace Go.Px.Na
open Go.RowKit
open Go.Proofs.Tryz (prog)

theorem k_sumR2 {r0 r1 : RR} (h0 : r0.ok LL) (h1 : r1.ok LL) : PureCalls prog F.rat_Sum [.one (rl [r0, r1])] [.agg (rd (r0.v + r1.v))] := k_sum2 h0 h1
theorem k_sumR3 {r0 r1 r2 : RR} (h0 : r0.ok LL) (h1 : r1.ok LL) (h2 : r2.ok LL) : PureCalls prog F.rat_Sum [.one (rl [r0, r1, r2])] [.agg (rd (r0.v + r1.v + r2.v))] := k_sum3 h0 h1 h2
theorem k_prodR2 {r0 r1 : RR} (h0 : r0.ok LL) (h1 : r1.ok LL) : PureCalls prog F.rat_Product [.one (rl [r0, r1])] [.agg (rd (r0.v * r1.v))] := k_prod2 h0 h1
theorem k_prodR3 {r0 r1 r2 : RR} (h0 : r0.ok LL) (h1 : r1.ok LL) (h2 : r2.ok LL) : PureCalls prog F.rat_Product [.one (rl [r0, r1, r2])] [.agg (rd (r0.v * r1.v * r2.v))] := k_prod3 h0 h1 h2
theorem k_readR {r0 : RR} (h0 : r0.ok LL) : PureCalls prog F.rat_Read [.agg r0.dv] [.agg (rd r0.v)] := c_read r0 (okK h0)
theorem kr_readR {r0 : RR} (h0 : r0.ok LL) : PureCalls prog F.penumbraref03_Read [.agg r0.dv] [.agg (rd r0.v)] := cr_read r0 (okK h0).two
theorem k_negR {r0 : RR} (h0 : r0.ok LL) : PureCalls prog F.rat_Neg [.agg r0.dv] [.agg (rd (-r0.v))] := c_neg r0 (okK h0)
theorem k_absR {r0 : RR} (h0 : r0.ok LL) : PureCalls prog F.rat_Abs [.agg r0.dv] [.agg (rd r0.v.abs)] := c_abs r0 (okK h0)
theorem kr_absR {r0 : RR} (h0 : r0.ok LL) : PureCalls prog F.penumbraref03_Abs [.agg r0.dv] [.agg (rd r0.v.abs)] := cr_absQ r0 (okK h0)
theorem k_subR {r0 r1 : RR} (h0 : r0.ok LL) (h1 : r1.ok LL) : PureCalls prog F.rat_Sub [.agg r0.dv, .agg r1.dv] [.agg (rd (r0.v - r1.v))] := c_sub3 r0 r1 (okK h0) (okK h1)
theorem kr_subR {r0 r1 : RR} (h0 : r0.ok LL) (h1 : r1.ok LL) : PureCalls prog F.penumbraref03_Sub [.agg r0.dv, .agg r1.dv] [.agg (rd (r0.v - r1.v))] := cr_subQ r0 r1 (okK h0) (okK h1)
theorem kr_addR {r0 r1 : RR} (h0 : r0.ok LL) (h1 : r1.ok LL) : PureCalls prog F.penumbraref03_Add [.agg r0.dv, .agg r1.dv] [.agg (rd (r0.v + r1.v))] := cr_addQ r0 r1 (okK h0) (okK h1)
theorem kr_mulR {r0 r1 : RR} (h0 : r0.ok LL) (h1 : r1.ok LL) : PureCalls prog F.penumbraref03_Mul [.agg r0.dv, .agg r1.dv] [.agg (rd (r0.v * r1.v))] := cr_mulQ r0 r1 (okK h0) (okK h1)
theorem kr_overR {r0 r1 : RR} (h0 : r0.ok LL) (h1 : r1.ok LL) : PureCalls prog F.penumbraref03_Over [.agg r0.dv, .agg r1.dv] [.agg (rd (r0.v / r1.v))] := cr_over r0 r1 (okK h0) (okK h1)
theorem k_divR {r0 r1 : RR} (h0 : r0.ok LL) (h1 : r1.ok LL) : PureCalls prog F.rat_Div [.agg r0.dv, .agg r1.dv] (divQ r0.v r1.v) := c_div r0 r1 (okK h0) (okK h1)
theorem k_sameR {r0 r1 : RR} (h0 : r0.ok LL) (h1 : r1.ok LL) : PureCalls prog F.rat_Same [.agg r0.dv, .agg r1.dv] [.one (.bool (decide (r0.v = r1.v)))] := c_same3 r0 r1 (okK h0) (okK h1)
theorem k_signR {r0 : RR} (h0 : r0.ok LL) : PureCalls prog F.rat_Sign [.agg r0.dv] [.one (.int .i64 r0.v.num.sign)] := c_sign r0 (okK h0)
theorem kr_signR {r0 : RR} (h0 : r0.ok LL) : PureCalls prog F.penumbraref03_Sign [.agg r0.dv] [.one (.int .i64 r0.v.num.sign)] := cr_sign r0 (okK h0)

/-- Three numbers, as data. -/
def v3 (a b c : RR) : List DV := [.bool a.neg, nl a.num, nl a.den, .bool b.neg, nl b.num, nl b.den, .bool c.neg, nl c.num, nl c.den]
def r3 (p q r : Rat) : List DV := [.bool (decide (p.num < 0)), nn p.num.natAbs, nn p.den, .bool (decide (q.num < 0)), nn q.num.natAbs, nn q.den, .bool (decide (r.num < 0)), nn r.num.natAbs, nn r.den]
theorem fa_v3 {a b c : RR} {q : List AV} : flatAll (.agg (v3 a b c) :: q) = .bool a.neg :: nl a.num :: nl a.den :: .bool b.neg :: nl b.num :: nl b.den :: .bool c.neg :: nl c.num :: nl c.den :: flatAll q := by simp [flatAll, AV.flat, v3]
theorem fa_r3 {x y z : Rat} {q : List AV} : flatAll (.agg (r3 x y z) :: q) = .bool (decide (x.num < 0)) :: nn x.num.natAbs :: nn x.den :: .bool (decide (y.num < 0)) :: nn y.num.natAbs :: nn y.den :: .bool (decide (z.num < 0)) :: nn z.num.natAbs :: nn z.den :: flatAll q := by simp [flatAll, AV.flat, r3]
/-- Nine numbers. -/
def v9 (a b c d e f g h i : RR) : List DV := v3 a b c ++ (v3 d e f ++ v3 g h i)
def r9 (a b c d e f g h i : Rat) : List DV := r3 a b c ++ (r3 d e f ++ r3 g h i)
theorem fa_v9 {a b c d e f g h i : RR} {q : List AV} : flatAll (.agg (v9 a b c d e f g h i) :: q) = flatAll (.agg (v3 a b c) :: .agg (v3 d e f) :: .agg (v3 g h i) :: q) := by simp [flatAll, AV.flat, v9]
theorem fa_r9 {a b c d e f g h i : Rat} {q : List AV} : flatAll (.agg (r9 a b c d e f g h i) :: q) = flatAll (.agg (r3 a b c) :: .agg (r3 d e f) :: .agg (r3 g h i) :: q) := by simp [flatAll, AV.flat, r9]
/-- A row of threes. -/
def rl3 (l : List (RR × RR × RR)) : DV := .list l.length (l.flatMap fun x => v3 x.1 x.2.1 x.2.2)

/-- What flattens numbers in threes. -/
theorem VV : type_of% (And.intro @fa_v3 (And.intro @fa_r3 (And.intro @fa_v9 (@fa_r9)))) := And.intro @fa_v3 (And.intro @fa_r3 (And.intro @fa_v9 (@fa_r9)))
end Go.Px.Na
