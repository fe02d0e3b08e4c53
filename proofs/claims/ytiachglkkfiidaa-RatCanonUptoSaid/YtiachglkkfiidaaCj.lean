/- Cj: the contracts of the naturals and of the numbers, for the program. -/
import Derived.Test.YtiachglkkfiidaaTr1
import Derived.Test.YtiachglkkfiidaaRr
import Derived.Test.YtiachglkkfiidaaNf
import Derived.Test.YtiachglkkfiidaaTrm
set_option maxRecDepth 20000
set_option linter.unusedSimpArgs false
set_option linter.unusedVariables false
namespace Go.Px.Na
open Go.RowKit

open Go.Proofs.Try (prog)
theorem hmix : prog.follows .mixedOrders = true := by kernel_rfl

theorem c_trim : CTrim prog := fun a h hl => symFunc_sound hmix tree_nat_trim (by kernel_rfl) rfl (w_trim h hl)
theorem f_clone : FClone prog := fun a hl => fresh_of hmix tree_slices_Clone___uint32_uint32_ (by kernel_rfl) rfl (by simp only [flatAll, List.flatMap_cons, List.flatMap_nil, AV.flat, rd, List.cons_append, List.nil_append, List.append_nil, List.all_cons, List.all_nil, flat_nl, flat_nn, flat_bool, flat_int, Bool.and_self]) rfl (w_clone hl)
theorem c_clone : CClone prog := fun a hl => fresh_pure (f_clone a hl)
theorem f_norm : FNorm prog := fun a h => fresh_of hmix tree_nat_Norm (by kernel_rfl) rfl (by simp only [flatAll, List.flatMap_cons, List.flatMap_nil, AV.flat, rd, List.cons_append, List.nil_append, List.append_nil, List.all_cons, List.all_nil, flat_nl, flat_nn, flat_bool, flat_int, Bool.and_self]) rfl (w_norm c_trim f_clone h)
theorem c_norm : CNorm prog := fun a h => fresh_pure (f_norm a h)
theorem c_of : COf prog := fun n h => symFunc_sound hmix tree_nat_Of (by kernel_rfl) rfl (w_of c_norm h)
theorem c_len32 : CLen32 prog := fun x h => symFunc_sound hmix tree_math_bits_Len32 (by kernel_rfl) rfl (w_len32 h)
theorem c_lz : CLz prog := fun x h => symFunc_sound hmix tree_math_bits_LeadingZeros32 (by kernel_rfl) rfl (w_lz c_len32 h)
theorem c_bits : CBits prog := fun a h => symFunc_sound hmix tree_nat_Bits (by kernel_rfl) rfl (w_bits c_trim c_lz h)
theorem c_cmp : CCmp prog := fun a b ha hb => symFunc_sound hmix tree_nat_Cmp (by kernel_rfl) rfl (w_cmp c_trim ha hb)
theorem c_add32 : CAdd32 prog := fun x y c hx hy hc => symFunc_sound hmix tree_math_bits_Add32 (by kernel_rfl) rfl (w_add32 hx hy hc)
theorem c_sub32 : CSub32 prog := fun x y c hx hy hc => symFunc_sound hmix tree_math_bits_Sub32 (by kernel_rfl) rfl (w_sub32 hx hy hc)
theorem c_add : CAdd prog := fun a b ha hb => symFunc_sound hmix tree_nat_Add (by kernel_rfl) rfl (w_add c_trim c_add32 ha hb)
theorem c_sub : CSub prog := fun a b ha hb => symFunc_sound hmix tree_nat_Sub (by kernel_rfl) rfl (w_sub c_trim c_sub32 c_cmp ha hb)
theorem f_mul : FMul prog := fun a b ha hb => fresh_of hmix tree_nat_Mul (by kernel_rfl) rfl (by simp only [flatAll, List.flatMap_cons, List.flatMap_nil, AV.flat, rd, List.cons_append, List.nil_append, List.append_nil, List.all_cons, List.all_nil, flat_nl, flat_nn, flat_bool, flat_int, Bool.and_self]) rfl (w_mul c_trim cut_trim ha hb)
theorem c_mul : CMul prog := fun a b ha hb => fresh_pure (f_mul a b ha hb)
theorem c_div32 : CDiv32 prog := fun h l y hh hl hy => symFunc_sound hmix tree_math_bits_Div32 (by kernel_rfl) rfl (w_div32 hh hl hy)
theorem f_small : FSmall prog := fun a b ha h0 hb => fresh_of hmix tree_nat_small (by kernel_rfl) rfl (by simp only [flatAll, List.flatMap_cons, List.flatMap_nil, AV.flat, rd, List.cons_append, List.nil_append, List.append_nil, List.all_cons, List.all_nil, flat_nl, flat_nn, flat_bool, flat_int, Bool.and_self]) rfl (w_small cut_trim c_div32 ha h0 hb)
theorem c_small : CSmall prog := fun a b ha h0 hb => fresh_pure (f_small a b ha h0 hb)
theorem f_shr : FShr prog := fun a n ha hn => fresh_of hmix tree_nat_shr (by kernel_rfl) rfl (by simp only [flatAll, List.flatMap_cons, List.flatMap_nil, AV.flat, rd, List.cons_append, List.nil_append, List.append_nil, List.all_cons, List.all_nil, flat_nl, flat_nn, flat_bool, flat_int, Bool.and_self]) rfl (w_shr cut_trim ha hn)
theorem c_shr : CShr prog := fun a n ha hn => fresh_pure (f_shr a n ha hn)
theorem c_shl : CShl prog := fun a k ha => symFunc_sound hmix tree_nat_Shl (by kernel_rfl) rfl (w_shl c_trim ha)
theorem f_long : FLong prog := fun m n hm hnm hn => fresh_of hmix tree_nat_long (by kernel_rfl) rfl (by simp only [flatAll, List.flatMap_cons, List.flatMap_nil, AV.flat, rd, List.cons_append, List.nil_append, List.append_nil, List.all_cons, List.all_nil, flat_nl, flat_nn, flat_bool, flat_int, Bool.and_self]) rfl (w_long cut_trim c_sub32 c_add32 c_lz c_shl f_shr hm hnm hn)
theorem c_long : CLong prog := fun m n hm hnm hn => fresh_pure (f_long m n hm hnm hn)
theorem f_divmod : FDivMod prog := fun a b ha hb => fresh_of hmix tree_nat_DivMod (by kernel_rfl) rfl (by unfold divRes; split <;> simp only [flatAll, List.flatMap_cons, List.flatMap_nil, AV.flat, rd, List.cons_append, List.nil_append, List.append_nil, List.all_cons, List.all_nil, flat_nl, flat_nn, flat_bool, flat_int, Bool.and_self]) (by unfold divRes; split <;> rfl) (w_divmod c_trim c_cmp f_norm f_small f_long ha hb)
theorem c_divmod : CDivMod prog := fun a b ha hb => fresh_pure (f_divmod a b ha hb)
theorem c_gcd : CGcd prog := fun a b ha hb => symFunc_sound hmix tree_root_Gcd (by kernel_rfl) rfl (w_gcd c_norm c_divmod ha hb)
theorem c_sqrt : CSqrt prog := fun a ha hb => symFunc_sound hmix tree_root_Sqrt (by kernel_rfl) rfl (w_sqrt c_norm c_bits c_shl c_divmod c_add c_cmp c_mul ha hb)

theorem cr_norm : CRNorm prog := fun a h hl => symFunc_sound hmix tree_penumbraref01_Norm (by kernel_rfl) rfl (wr_norm h hl)
theorem cr_same : CRSame prog := fun a b ha hb => symFunc_sound hmix tree_penumbraref01_Same (by kernel_rfl) rfl (wr_same ha hb)
theorem cr_of : CROf prog := fun n h => symFunc_sound hmix tree_penumbraref01_Of (by kernel_rfl) rfl (wr_of cr_norm h)
theorem cr_limb : CRLimb prog := fun a i h h0 => symFunc_sound hmix tree_penumbraref01_limb (by kernel_rfl) rfl (wr_limb h h0)
theorem cr_cmp : CRCmp prog := fun a b ha hb hla hlb => symFunc_sound hmix tree_penumbraref01_Cmp (by kernel_rfl) rfl (wr_cmp cr_limb ha hb hla hlb)
theorem cr_zero : CRZero prog := fun a ha hla => symFunc_sound hmix tree_penumbraref01_Zero (by kernel_rfl) rfl (wr_zero cr_cmp ha hla)
theorem cr_add : CRAdd prog := fun a b ha hb hla hlb => symFunc_sound hmix tree_penumbraref01_Add (by kernel_rfl) rfl (wr_add cr_norm cr_limb ha hb hla hlb)
theorem cr_sub : CRSub prog := fun a b ha hb hla hlb => symFunc_sound hmix tree_penumbraref01_Sub (by kernel_rfl) rfl (wr_sub cr_norm cr_limb cr_cmp ha hb hla hlb)
theorem cr_mul : CRMul prog := fun a b ha hb hla hlb => symFunc_sound hmix tree_penumbraref01_Mul (by kernel_rfl) rfl (wr_mul cr_norm ha hb hla hlb)
theorem cr_double : CRDouble prog := fun a ha hla => symFunc_sound hmix tree_penumbraref01_Double (by kernel_rfl) rfl (wr_double cr_norm ha hla)
theorem cr_half : CRHalf prog := fun a ha hla => symFunc_sound hmix tree_penumbraref01_Half (by kernel_rfl) rfl (wr_half cr_norm cr_limb ha hla)
theorem cr_at : CRAt prog := fun x p hx hp => symFunc_sound hmix tree_penumbraref01_at (by kernel_rfl) rfl (wr_at hx hp)
theorem cr_divmod : CRDivMod prog := fun a b ha hb => symFunc_sound hmix tree_penumbraref01_DivMod (by kernel_rfl) rfl (wr_divmod cr_zero cr_norm cr_double cr_half cr_cmp cr_at cr_add cr_mul cr_sub ha hb)
theorem cr_gcd : CRGcd prog := fun a b ha hb => symFunc_sound hmix tree_penumbraref02_Gcd (by kernel_rfl) rfl (wr_gcd cr_zero cr_norm cr_divmod ha hb)

theorem f_one : FOne prog := fresh_of hmix tree_rat_one (by kernel_rfl) rfl (by simp only [flatAll, List.flatMap_cons, List.flatMap_nil, AV.flat, rd, List.cons_append, List.nil_append, List.append_nil, List.all_cons, List.all_nil, flat_nl, flat_nn, flat_bool, flat_int, Bool.and_self]) rfl w_one
theorem c_one : COne prog := fresh_pure (f_one )
theorem f_made : FMade prog := fun b x y hx hy => fresh_of hmix tree_rat_made (by kernel_rfl) rfl (by simp only [flatAll, List.flatMap_cons, List.flatMap_nil, AV.flat, rd, List.cons_append, List.nil_append, List.append_nil, List.all_cons, List.all_nil, flat_nl, flat_nn, flat_bool, flat_int, Bool.and_self]) rfl (w_made f_one f_norm c_gcd f_divmod hx hy)
theorem c_made : CMade prog := fun b x y hx hy => fresh_pure (f_made b x y hx hy)
theorem f_read : FRead prog := fun r h => fresh_of hmix tree_rat_Read (by kernel_rfl) rfl (by simp only [flatAll, List.flatMap_cons, List.flatMap_nil, AV.flat, rd, List.cons_append, List.nil_append, List.append_nil, List.all_cons, List.all_nil, flat_nl, flat_nn, flat_bool, flat_int, Bool.and_self]) rfl (w_read f_made h)
theorem c_read : CRead prog := fun r h => fresh_pure (f_read r h)
theorem c_whole : CWhole prog := fun r h => symFunc_sound hmix tree_rat_whole (by kernel_rfl) rfl (w_whole c_one c_bits h)
theorem f_plus : FPlus prog := fun r s hr hs => fresh_of hmix tree_rat_plus (by kernel_rfl) rfl (by simp only [flatAll, List.flatMap_cons, List.flatMap_nil, AV.flat, rd, List.cons_append, List.nil_append, List.append_nil, List.all_cons, List.all_nil, flat_nl, flat_nn, flat_bool, flat_int, Bool.and_self]) rfl (w_plus c_whole c_mul c_add c_sub f_made hr hs)
theorem c_plus : CPlus prog := fun r s hr hs => fresh_pure (f_plus r s hr hs)
theorem f_times : FTimes prog := fun p q hp hq => fresh_of hmix tree_rat_times (by kernel_rfl) rfl (by simp only [flatAll, List.flatMap_cons, List.flatMap_nil, AV.flat, rd, List.cons_append, List.nil_append, List.append_nil, List.all_cons, List.all_nil, flat_nl, flat_nn, flat_bool, flat_int, Bool.and_self]) rfl (w_times f_one c_made f_mul hp hq)
theorem c_times : CTimes prog := fun p q hp hq => fresh_pure (f_times p q hp hq)
theorem f_sum : FSum prog := fun l hl hr hs => fresh_of hmix tree_rat_Sum (by kernel_rfl) rfl (by simp only [flatAll, List.flatMap_cons, List.flatMap_nil, AV.flat, rd, List.cons_append, List.nil_append, List.append_nil, List.all_cons, List.all_nil, flat_nl, flat_nn, flat_bool, flat_int, Bool.and_self]) rfl (w_sum f_one f_read f_plus hl hr hs)
theorem c_sum : CSum prog := fun l hl hr hs => fresh_pure (f_sum l hl hr hs)
theorem f_product : FProduct prog := fun l hl hr hs => fresh_of hmix tree_rat_Product (by kernel_rfl) rfl (by simp only [flatAll, List.flatMap_cons, List.flatMap_nil, AV.flat, rd, List.cons_append, List.nil_append, List.append_nil, List.all_cons, List.all_nil, flat_nl, flat_nn, flat_bool, flat_int, Bool.and_self]) rfl (w_product f_one c_read f_times hl hr hs)
theorem c_product : CProduct prog := fun l hl hr hs => fresh_pure (f_product l hl hr hs)
theorem f_sub3 : FSub3 prog := fun r s hr hs => fresh_of hmix tree_rat_Sub (by kernel_rfl) rfl (by simp only [flatAll, List.flatMap_cons, List.flatMap_nil, AV.flat, rd, List.cons_append, List.nil_append, List.append_nil, List.all_cons, List.all_nil, flat_nl, flat_nn, flat_bool, flat_int, Bool.and_self]) rfl (w_sub3 f_plus hr hs)
theorem c_sub3 : CSub3 prog := fun r s hr hs => fresh_pure (f_sub3 r s hr hs)
theorem f_neg : FNeg prog := fun r hr => fresh_of hmix tree_rat_Neg (by kernel_rfl) rfl (by simp only [flatAll, List.flatMap_cons, List.flatMap_nil, AV.flat, rd, List.cons_append, List.nil_append, List.append_nil, List.all_cons, List.all_nil, flat_nl, flat_nn, flat_bool, flat_int, Bool.and_self]) rfl (w_neg f_made hr)
theorem c_neg : CNeg prog := fun r hr => fresh_pure (f_neg r hr)
theorem f_abs : FAbs prog := fun r hr => fresh_of hmix tree_rat_Abs (by kernel_rfl) rfl (by simp only [flatAll, List.flatMap_cons, List.flatMap_nil, AV.flat, rd, List.cons_append, List.nil_append, List.append_nil, List.all_cons, List.all_nil, flat_nl, flat_nn, flat_bool, flat_int, Bool.and_self]) rfl (w_abs f_made hr)
theorem c_abs : CAbs prog := fun r hr => fresh_pure (f_abs r hr)
theorem c_sign : CSign prog := fun r hr => symFunc_sound hmix tree_rat_Sign (by kernel_rfl) rfl (w_sign c_bits hr)
theorem f_div : FDiv prog := fun r s hr hs => fresh_of hmix tree_rat_Div (by kernel_rfl) rfl (by unfold divQ; split <;> simp only [flatAll, List.flatMap_cons, List.flatMap_nil, AV.flat, rd, List.cons_append, List.nil_append, List.append_nil, List.all_cons, List.all_nil, flat_nl, flat_nn, flat_bool, flat_int, Bool.and_self]) (by unfold divQ; split <;> rfl) (w_div f_one c_sign c_read f_times hr hs)
theorem c_div : CDiv prog := fun r s hr hs => fresh_pure (f_div r s hr hs)
theorem c_size : CSize prog := fun n h0 h1 => symFunc_sound hmix tree_rat_size (by kernel_rfl) rfl (w_size c_of h0 h1)
theorem c_ofQ : COfQ prog := fun n d h0 h1 h2 h3 => symFunc_sound hmix tree_rat_Of (by kernel_rfl) rfl (w_ofQ c_size c_made h0 h1 h2 h3)
theorem c_equal : CEqual prog := fun a b ha hb => symFunc_sound hmix tree_slices_Equal___uint32_uint32_ (by kernel_rfl) rfl (w_equal ha hb)
theorem c_check : CCheck prog := fun r hr => symFunc_sound hmix tree_rat_Check (by kernel_rfl) rfl (w_check c_read c_equal hr)
theorem f_floor : FFloor prog := fun r hr => fresh_of hmix tree_rat_Floor (by kernel_rfl) rfl (by simp only [flatAll, List.flatMap_cons, List.flatMap_nil, AV.flat, rd, List.cons_append, List.nil_append, List.append_nil, List.all_cons, List.all_nil, flat_nl, flat_nn, flat_bool, flat_int, Bool.and_self]) rfl (w_floor c_one c_read c_divmod c_add f_made hr)
theorem c_floor : CFloor prog := fun r hr => fresh_pure (f_floor r hr)
theorem c_sqrtQ : CSqrtQ prog := fun r hr => symFunc_sound hmix tree_rat_Sqrt (by kernel_rfl) rfl (w_sqrtQ c_one c_read c_sqrt c_made hr)

theorem cr_is : CRIs prog := fun r s hr hs => symFunc_sound hmix tree_penumbraref03_Is (by kernel_rfl) rfl (wr_is cr_same hr hs)
theorem cr_one : CROne prog := symFunc_sound hmix tree_penumbraref03_One (by kernel_rfl) rfl wr_one
theorem cr_zeroQ : CRZeroQ prog := symFunc_sound hmix tree_penumbraref03_Zero (by kernel_rfl) rfl wr_zeroQ
theorem cr_read : CRRead prog := fun r hr => symFunc_sound hmix tree_penumbraref03_Read (by kernel_rfl) rfl (wr_read cr_zero cr_zeroQ cr_gcd cr_divmod hr)
theorem cr_abs : CRabs prog := fun n h0 h1 => symFunc_sound hmix tree_penumbraref03_abs (by kernel_rfl) rfl (wr_abs cr_of h0 h1)
theorem cr_ofQ : CROfQ prog := fun n d h0 h1 h2 h3 => symFunc_sound hmix tree_penumbraref03_Of (by kernel_rfl) rfl (wr_ofQ cr_abs cr_read h0 h1 h2 h3)
end Go.Px.Na
