/- Cj: the contracts of the naturals and of the numbers, for the program. -/
import Derived.Test.YtnohcccgfefnkaaGreatTr1
import Derived.Test.YtnohcccgfefnkaaGreatRr
set_option maxRecDepth 20000
set_option linter.unusedSimpArgs false
set_option linter.unusedVariables false
namespace Go.Px.Na
open Go.RowKit

open Go.Proofs.Tryz (prog)
theorem hmix : prog.follows .mixedOrders = true := by kernel_rfl

theorem c_trim : CTrim prog := fun a h hl => symFunc_sound hmix tree_nat_trim (by kernel_rfl) rfl (w_trim h hl)
theorem c_clone : CClone prog := fun a hl => symFunc_sound hmix tree_slices_Clone___uint32_uint32_ (by kernel_rfl) rfl (w_clone hl)
theorem c_norm : CNorm prog := fun a h => symFunc_sound hmix tree_nat_Norm (by kernel_rfl) rfl (w_norm c_trim c_clone h)
theorem c_of : COf prog := fun n h => symFunc_sound hmix tree_nat_Of (by kernel_rfl) rfl (w_of c_norm h)
theorem c_len32 : CLen32 prog := fun x h => symFunc_sound hmix tree_math_bits_Len32 (by kernel_rfl) rfl (w_len32 h)
theorem c_lz : CLz prog := fun x h => symFunc_sound hmix tree_math_bits_LeadingZeros32 (by kernel_rfl) rfl (w_lz c_len32 h)
theorem c_bits : CBits prog := fun a h => symFunc_sound hmix tree_nat_Bits (by kernel_rfl) rfl (w_bits c_trim c_lz h)
theorem c_cmp : CCmp prog := fun a b ha hb => symFunc_sound hmix tree_nat_Cmp (by kernel_rfl) rfl (w_cmp c_trim ha hb)
theorem c_add32 : CAdd32 prog := fun x y c hx hy hc => symFunc_sound hmix tree_math_bits_Add32 (by kernel_rfl) rfl (w_add32 hx hy hc)
theorem c_sub32 : CSub32 prog := fun x y c hx hy hc => symFunc_sound hmix tree_math_bits_Sub32 (by kernel_rfl) rfl (w_sub32 hx hy hc)
theorem c_add : CAdd prog := fun a b ha hb => symFunc_sound hmix tree_nat_Add (by kernel_rfl) rfl (w_add c_trim c_add32 ha hb)
theorem c_sub : CSub prog := fun a b ha hb => symFunc_sound hmix tree_nat_Sub (by kernel_rfl) rfl (w_sub c_trim c_sub32 c_cmp ha hb)
theorem c_mul : CMul prog := fun a b ha hb => symFunc_sound hmix tree_nat_Mul (by kernel_rfl) rfl (w_mul c_trim ha hb)
theorem c_div32 : CDiv32 prog := fun h l y hh hl hy => symFunc_sound hmix tree_math_bits_Div32 (by kernel_rfl) rfl (w_div32 hh hl hy)
theorem c_small : CSmall prog := fun a b ha h0 hb => symFunc_sound hmix tree_nat_small (by kernel_rfl) rfl (w_small c_trim c_div32 ha h0 hb)
theorem c_shr : CShr prog := fun a n ha hn => symFunc_sound hmix tree_nat_shr (by kernel_rfl) rfl (w_shr c_trim ha hn)
theorem c_shl : CShl prog := fun a k ha => symFunc_sound hmix tree_nat_Shl (by kernel_rfl) rfl (w_shl c_trim ha)
theorem c_long : CLong prog := fun m n hm hnm hn => symFunc_sound hmix tree_nat_long (by kernel_rfl) rfl (w_long c_trim c_sub32 c_add32 c_lz c_shl c_shr hm hnm hn)
theorem c_divmod : CDivMod prog := fun a b ha hb => symFunc_sound hmix tree_nat_DivMod (by kernel_rfl) rfl (w_divmod c_trim c_cmp c_norm c_small c_long ha hb)
theorem c_gcd : CGcd prog := fun a b ha hb => symFunc_sound hmix tree_root_Gcd (by kernel_rfl) rfl (w_gcd c_norm c_divmod ha hb)
theorem cr_norm : CRNorm prog := fun a h hl => symFunc_sound hmix tree_penumbraref01_Norm (by kernel_rfl) rfl (wr_norm h hl)
theorem cr_same : CRSame prog := fun a b ha hb => symFunc_sound hmix tree_penumbraref01_Same (by kernel_rfl) rfl (wr_same ha hb)
theorem cr_of : CROf prog := fun n h => symFunc_sound hmix tree_penumbraref01_Of (by kernel_rfl) rfl (wr_of cr_norm h)
theorem cr_limb : CRLimb prog := fun a i h h0 => symFunc_sound hmix tree_penumbraref01_limb (by kernel_rfl) rfl (wr_limb h h0)
theorem cr_cmp : CRCmp prog := fun a b ha hb hla hlb => symFunc_sound hmix tree_penumbraref01_Cmp (by kernel_rfl) rfl (wr_cmp cr_limb ha hb hla hlb)
theorem cr_zero : CRZero prog := fun a ha hla => symFunc_sound hmix tree_penumbraref01_Zero (by kernel_rfl) rfl (wr_zero cr_cmp ha hla)
theorem cr_add : CRAdd prog := fun a b ha hb hla hlb => symFunc_sound hmix tree_penumbraref01_Add (by kernel_rfl) rfl (wr_add cr_norm cr_limb ha hb hla hlb)
theorem cr_sub : CRSub prog := fun a b ha hb hla hlb => symFunc_sound hmix tree_penumbraref01_Sub (by kernel_rfl) rfl (wr_sub cr_norm cr_limb cr_cmp ha hb hla hlb)
theorem cr_mul : CRMul prog := fun a b ha hb hla hlb => symFunc_sound hmix tree_penumbraref01_Mul (by kernel_rfl) rfl (wr_mul cr_norm ha hb hla hlb)
theorem cr_double : CRDouble prog := fun a ha hla => symFunc_sound hmix tree_penumbraref01_Double (by kernel_rfl) rfl (wr_double cr_norm ha hla)
theorem cr_half : CRHalf prog := fun a ha hla => symFunc_sound hmix tree_penumbraref01_Half (by kernel_rfl) rfl (wr_half cr_norm cr_limb ha hla)
theorem cr_at : CRAt prog := fun x p hx hp => symFunc_sound hmix tree_penumbraref01_at (by kernel_rfl) rfl (wr_at hx hp)
theorem cr_divmod : CRDivMod prog := fun a b ha hb => symFunc_sound hmix tree_penumbraref01_DivMod (by kernel_rfl) rfl (wr_divmod cr_zero cr_norm cr_double cr_half cr_cmp cr_at cr_add cr_mul cr_sub ha hb)
theorem cr_gcd : CRGcd prog := fun a b ha hb => symFunc_sound hmix tree_penumbraref02_Gcd (by kernel_rfl) rfl (wr_gcd cr_zero cr_norm cr_divmod ha hb)

theorem c_one : COne prog := symFunc_sound hmix tree_rat_one (by kernel_rfl) rfl w_one
theorem c_made : CMade prog := fun b x y hx hy => symFunc_sound hmix tree_rat_made (by kernel_rfl) rfl (w_made c_one c_norm c_gcd c_divmod hx hy)
theorem c_read : CRead prog := fun r h => symFunc_sound hmix tree_rat_Read (by kernel_rfl) rfl (w_read c_made h)
theorem c_whole : CWhole prog := fun r h => symFunc_sound hmix tree_rat_whole (by kernel_rfl) rfl (w_whole c_one c_bits h)
theorem c_plus : CPlus prog := fun r s hr hs => symFunc_sound hmix tree_rat_plus (by kernel_rfl) rfl (w_plus c_whole c_mul c_add c_sub c_made hr hs)
theorem c_times : CTimes prog := fun p q hp hq => symFunc_sound hmix tree_rat_times (by kernel_rfl) rfl (w_times c_one c_made c_mul hp hq)
theorem c_sum : CSum prog := fun l hl hr hs => symFunc_sound hmix tree_rat_Sum (by kernel_rfl) rfl (w_sum c_one c_read c_plus hl hr hs)
theorem c_product : CProduct prog := fun l hl hr hs => symFunc_sound hmix tree_rat_Product (by kernel_rfl) rfl (w_product c_one c_read c_times hl hr hs)
theorem c_sub3 : CSub3 prog := fun r s hr hs => symFunc_sound hmix tree_rat_Sub (by kernel_rfl) rfl (w_sub3 c_plus hr hs)
theorem c_neg : CNeg prog := fun r hr => symFunc_sound hmix tree_rat_Neg (by kernel_rfl) rfl (w_neg c_made hr)
theorem c_abs : CAbs prog := fun r hr => symFunc_sound hmix tree_rat_Abs (by kernel_rfl) rfl (w_abs c_made hr)
theorem c_sign : CSign prog := fun r hr => symFunc_sound hmix tree_rat_Sign (by kernel_rfl) rfl (w_sign c_bits hr)
theorem c_div : CDiv prog := fun r s hr hs => symFunc_sound hmix tree_rat_Div (by kernel_rfl) rfl (w_div c_one c_sign c_read c_times hr hs)
theorem c_cmpQ : CCmpQ prog := fun r s hr hs => symFunc_sound hmix tree_rat_Cmp (by kernel_rfl) rfl (w_cmpQ c_sign c_mul c_cmp hr hs)
theorem c_same3 : CSame3 prog := fun r s hr hs => symFunc_sound hmix tree_rat_Same (by kernel_rfl) rfl (w_same3 c_cmpQ hr hs)
theorem c_size : CSize prog := fun n h0 h1 => symFunc_sound hmix tree_rat_size (by kernel_rfl) rfl (w_size c_of h0 h1)
theorem c_ofQ : COfQ prog := fun n d h0 h1 h2 h3 => symFunc_sound hmix tree_rat_Of (by kernel_rfl) rfl (w_ofQ c_size c_made h0 h1 h2 h3)
theorem c_floor : CFloor prog := fun r hr => symFunc_sound hmix tree_rat_Floor (by kernel_rfl) rfl (w_floor c_one c_read c_divmod c_add c_made hr)
theorem cr_is : CRIs prog := fun r s hr hs => symFunc_sound hmix tree_penumbraref03_Is (by kernel_rfl) rfl (wr_is cr_same hr hs)
theorem cr_one : CROne prog := symFunc_sound hmix tree_penumbraref03_One (by kernel_rfl) rfl wr_one
theorem cr_zeroQ : CRZeroQ prog := symFunc_sound hmix tree_penumbraref03_Zero (by kernel_rfl) rfl wr_zeroQ
theorem cr_read : CRRead prog := fun r hr => symFunc_sound hmix tree_penumbraref03_Read (by kernel_rfl) rfl (wr_read cr_zero cr_zeroQ cr_gcd cr_divmod hr)
theorem cr_sign : CRSign prog := fun r hr => symFunc_sound hmix tree_penumbraref03_Sign (by kernel_rfl) rfl (wr_sign cr_zero hr)
theorem cr_neg : CRNeg prog := fun r hr => symFunc_sound hmix tree_penumbraref03_Neg (by kernel_rfl) rfl (wr_neg cr_read hr)
theorem cr_addQ : CRAddQ prog := fun r s hr hs => symFunc_sound hmix tree_penumbraref03_Add (by kernel_rfl) rfl (wr_addQ cr_sign cr_read cr_mul cr_add cr_cmp cr_sub hr hs)
theorem cr_subQ : CRSubQ prog := fun r s hr hs => symFunc_sound hmix tree_penumbraref03_Sub (by kernel_rfl) rfl (wr_subQ cr_neg cr_addQ hr hs)
theorem cr_mulQ : CRMulQ prog := fun r s hr hs => symFunc_sound hmix tree_penumbraref03_Mul (by kernel_rfl) rfl (wr_mulQ cr_read cr_mul hr hs)
theorem cr_divQ : CRDivQ prog := fun r s hr hs => symFunc_sound hmix tree_penumbraref03_Div (by kernel_rfl) rfl (wr_divQ cr_zeroQ cr_sign cr_mulQ hr hs)
theorem cr_over : CROver prog := fun r s hr hs => symFunc_sound hmix tree_penumbraref03_Over (by kernel_rfl) rfl (wr_over cr_divQ hr hs)
theorem cr_cmpQ : CRCmpQ prog := fun r s hr hs => symFunc_sound hmix tree_penumbraref03_Cmp (by kernel_rfl) rfl (wr_cmpQ cr_subQ cr_sign hr hs)
theorem cr_absQ : CRAbsQ prog := fun r hr => symFunc_sound hmix tree_penumbraref03_Abs (by kernel_rfl) rfl (wr_absQ cr_read hr)
theorem cr_abs : CRabs prog := fun n h0 h1 => symFunc_sound hmix tree_penumbraref03_abs (by kernel_rfl) rfl (wr_abs cr_of h0 h1)
theorem cr_ofQ : CROfQ prog := fun n d h0 h1 h2 h3 => symFunc_sound hmix tree_penumbraref03_Of (by kernel_rfl) rfl (wr_ofQ cr_abs cr_read h0 h1 h2 h3)
end Go.Px.Na
