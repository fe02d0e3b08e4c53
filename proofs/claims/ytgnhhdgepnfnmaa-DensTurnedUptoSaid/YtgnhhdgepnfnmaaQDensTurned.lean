/- QDensTurned: whatever the numbers, the law tells true. -/
import Derived.Test.YtgnhhdgepnfnmaaXDensTurned
import Derived.Test.YtgnhhdgepnfnmaaMi
set_option maxRecDepth 20000
set_option maxHeartbeats 40000000
set_option linter.unusedVariables false
set_option linter.unusedSimpArgs false
namespace Go.Px.Na
open Go.RowKit
open Go.Proofs.Try (prog)

theorem ds_fin {p t k A B z C far a b wx wy : Rat} (hp : p*(z*z*z)=A*B*C) (ht : t*(far*far)=z*C) (ha : a*z=wx) (hb : b*z=wy) (hf : far=wx*wx+wy*wy+z*z) (hk : k=1+a*a+b*b) (hz : ¬z=0) : p=t*k*k*A*B := by
  have e1 : far=z*z*k := by subst hf hk ha hb; grind
  rw [e1] at ht
  have e2 : t*k*k*(z*z*z)=C := by
    have h : z*(t*k*k*(z*z*z)-C)=0 := by grind
    rcases Rat.mul_eq_zero.1 h with h | h
    · exact absurd h hz
    · grind
  have e3 : (z*z*z)*(p-t*k*k*A*B)=0 := by rw [← e2] at hp; grind
  rcases Rat.mul_eq_zero.1 e3 with h | h
  · rcases Rat.mul_eq_zero.1 h with h | h
    · rcases Rat.mul_eq_zero.1 h with h | h <;> exact absurd h hz
    · exact absurd h hz
  · grind
theorem far_pos {a b c n0 n1 n2 : Rat} (h : 0<a*n0+b*n1+c*n2) : 0<a*a+b*b+c*c := by
  by_cases z : a*a+b*b+c*c=0
  · have e0 := sq3_0 rfl z
    have e1 := sq3_1 rfl z
    have e2 := sq3_2 rfl z
    rw [e0,e1,e2] at h
    grind
  · have := sq_nn a
    have := sq_nn b
    have := sq_nn c
    grind
theorem df_a {p p' k z z' A B c c' : Rat} (hp : p*(z*z*z)=A*B*c) (hq : p'*(z'*z'*z')=A*B*c') (hz : z'=k*z) (hc : c'=k*c) (hk : ¬k=0) (hn : ¬z=0) : p=p'*(k*k) := by
  subst hz hc
  have e : k*(z*z*z)*(p-p'*(k*k))=0 := by grind
  rcases Rat.mul_eq_zero.1 e with h | h
  · rcases Rat.mul_eq_zero.1 h with h | h
    · exact absurd h hk
    · rcases Rat.mul_eq_zero.1 h with h | h
      · rcases Rat.mul_eq_zero.1 h with h | h <;> exact absurd h hn
      · exact absurd h hn
  · grind
theorem df_t {t t' k z z' f f' c c' : Rat} (hp : t*(f*f)=z*c) (hq : t'*(f'*f')=z'*c') (hz : z'=k*z) (hc : c'=k*c) (hf : f'=k*k*f) (hk : ¬k=0) (hn : ¬f=0) : t=t'*(k*k) := by
  subst hz hc hf
  have e : (k*k)*(f*f)*(t-t'*(k*k))=0 := by grind
  rcases Rat.mul_eq_zero.1 e with h | h
  · rcases Rat.mul_eq_zero.1 h with h | h
    · rcases Rat.mul_eq_zero.1 h with h | h <;> exact absurd h hk
    · rcases Rat.mul_eq_zero.1 h with h | h <;> exact absurd h hn
  · grind
theorem df_s {q z z' n n' k : Rat} (h : q*z=n) (hz : z'=k*z) (hn : n'=k*n) (hne : ¬z'=0) : q=n' / z' := by
  have e : n'=q*z' := by rw [hn,hz,← h]; grind
  rw [e,Rat.div_def,Rat.mul_assoc,Rat.mul_inv_cancel z' hne,Rat.mul_one]
theorem neg_l {Z0 q r : Rat} (y : Z0=0) (e : r=(-q)) (h : Z0<q) : r<Z0 := by grind
theorem neg_g {Z0 q r : Rat} (y : Z0=0) (e : r=(-q)) (h : q<Z0) : Z0<r := by grind
theorem neg_ln {Z0 q r : Rat} (y : Z0=0) (e : r=(-q)) (h : ¬Z0<q) : ¬r<Z0 := by grind
theorem neg_gn {Z0 q r : Rat} (y : Z0=0) (e : r=(-q)) (h : ¬q<Z0) : ¬Z0<r := by grind
theorem mul_g {Z0 k q r : Rat} (y : Z0=0) (hk : Z0<k) (e : r=k*q) (h : Z0<q) : Z0<r := by subst y e; exact Rat.mul_pos hk h
theorem mul_l {Z0 k q r : Rat} (y : Z0=0) (hk : Z0<k) (e : r=k*q) (h : q<Z0) : r<Z0 := by subst y e; have := Rat.mul_pos hk (show 0 < -q by grind); grind
theorem mul_gn {Z0 k q r : Rat} (y : Z0=0) (hk : Z0<k) (e : r=k*q) (h : ¬Z0<q) : ¬Z0<r := by subst y e; intro z; have := Rat.mul_nonneg (Rat.le_of_lt hk) (show 0 ≤ -q by grind); grind
theorem mul_ln {Z0 k q r : Rat} (y : Z0=0) (hk : Z0<k) (e : r=k*q) (h : ¬q<Z0) : ¬r<Z0 := by subst y e; intro z; have := Rat.mul_nonneg (Rat.le_of_lt hk) (show 0 ≤ q by grind); grind
theorem rcp_gn {Z0 k q r : Rat} (y : Z0=0) (hk : Z0<k) (e : r*q=k) (h : ¬Z0<q) : ¬Z0<r := by subst y; intro z; have := Rat.mul_nonneg (Rat.le_of_lt z) (show 0 ≤ -q by grind); grind
theorem rcp_ln {Z0 k q r : Rat} (y : Z0=0) (hk : Z0<k) (e : r*q=k) (h : ¬q<Z0) : ¬r<Z0 := by subst y; intro z; have := Rat.mul_nonneg (show 0 ≤ -r by grind) (show 0 ≤ q by grind); grind
theorem rcp_g {Z0 k q r : Rat} (y : Z0=0) (hk : Z0<k) (e : r*q=k) (h : Z0<q) : Z0<r := Classical.byContradiction fun z => rcp_gn y hk (q := r) (r := q) (by rw [Rat.mul_comm]; exact e) z h
theorem rcp_l {Z0 k q r : Rat} (y : Z0=0) (hk : Z0<k) (e : r*q=k) (h : q<Z0) : r<Z0 := Classical.byContradiction fun z => rcp_ln y hk (q := r) (r := q) (by rw [Rat.mul_comm]; exact e) z h
theorem ii_mul0 {a b : Int} (h : a=0) : Prim.den (.bin .mul) [.int .i64 a,.int .i64 b]=some (.int .i64 0) := by subst h; simp [Prim.den,Prim.bin1,binInt,wi64]
theorem al24 {Z1 : Rat} (Y1 : Z1=(1 : Rat)) {x12 x16 x20 x17 x19 x13 x18 x15 x14 : Rat} (hp : Ort (1) x12 x13 x14 x15 x16 x17 x18 x19 x20) : Z1=(((x12*((x16*x20)-(x17*x19)))+(x13*((x17*x18)-(x15*x20))))+(x14*((x15*x19)-(x16*x18)))) := by
  subst Y1
  unfold Ort at hp
  obtain ⟨a,b,c,d,e,f,g,h,i,j,k,l,m,n,o,p,q,r,s,t,u,v,w⟩ := hp
  grind

theorem al26 {Z1 : Rat} (Y1 : Z1=(1 : Rat)) {x12 x16 x20 x17 x19 x18 x15 x13 x14 : Rat} (hp : Ort (1) x12 x13 x14 x15 x16 x17 x18 x19 x20) : x12=(Z1*((x16*x20)-(x17*x19))) := by
  subst Y1
  unfold Ort at hp
  obtain ⟨a,b,c,d,e,f,g,h,i,j,k,l,m,n,o,p,q,r,s,t,u,v,w⟩ := hp
  grind

theorem al28 {Z1 : Rat} (Y1 : Z1=(1 : Rat)) {x15 x19 x14 x20 x13 x16 x17 x12 x18 : Rat} (hp : Ort (1) x12 x13 x14 x15 x16 x17 x18 x19 x20) : x15=(Z1*((x19*x14)-(x20*x13))) := by
  subst Y1
  unfold Ort at hp
  obtain ⟨a,b,c,d,e,f,g,h,i,j,k,l,m,n,o,p,q,r,s,t,u,v,w⟩ := hp
  grind

theorem al30 {Z1 : Rat} (Y1 : Z1=(1 : Rat)) {x18 x13 x17 x14 x16 x20 x19 x12 x15 : Rat} (hp : Ort (1) x12 x13 x14 x15 x16 x17 x18 x19 x20) : x18=(Z1*((x13*x17)-(x14*x16))) := by
  subst Y1
  unfold Ort at hp
  obtain ⟨a,b,c,d,e,f,g,h,i,j,k,l,m,n,o,p,q,r,s,t,u,v,w⟩ := hp
  grind

theorem al32 {Z1 : Rat} (Y1 : Z1=(1 : Rat)) {x13 x17 x18 x15 x20 x16 x19 x12 x14 : Rat} (hp : Ort (1) x12 x13 x14 x15 x16 x17 x18 x19 x20) : x13=(Z1*((x17*x18)-(x15*x20))) := by
  subst Y1
  unfold Ort at hp
  obtain ⟨a,b,c,d,e,f,g,h,i,j,k,l,m,n,o,p,q,r,s,t,u,v,w⟩ := hp
  grind

theorem al34 {Z1 : Rat} (Y1 : Z1=(1 : Rat)) {x16 x20 x12 x18 x14 x17 x19 x15 x13 : Rat} (hp : Ort (1) x12 x13 x14 x15 x16 x17 x18 x19 x20) : x16=(Z1*((x20*x12)-(x18*x14))) := by
  subst Y1
  unfold Ort at hp
  obtain ⟨a,b,c,d,e,f,g,h,i,j,k,l,m,n,o,p,q,r,s,t,u,v,w⟩ := hp
  grind

theorem al36 {Z1 : Rat} (Y1 : Z1=(1 : Rat)) {x19 x14 x15 x12 x17 x16 x20 x18 x13 : Rat} (hp : Ort (1) x12 x13 x14 x15 x16 x17 x18 x19 x20) : x19=(Z1*((x14*x15)-(x12*x17))) := by
  subst Y1
  unfold Ort at hp
  obtain ⟨a,b,c,d,e,f,g,h,i,j,k,l,m,n,o,p,q,r,s,t,u,v,w⟩ := hp
  grind

theorem al38 {Z1 : Rat} (Y1 : Z1=(1 : Rat)) {x14 x15 x19 x16 x18 x20 x17 x12 x13 : Rat} (hp : Ort (1) x12 x13 x14 x15 x16 x17 x18 x19 x20) : x14=(Z1*((x15*x19)-(x16*x18))) := by
  subst Y1
  unfold Ort at hp
  obtain ⟨a,b,c,d,e,f,g,h,i,j,k,l,m,n,o,p,q,r,s,t,u,v,w⟩ := hp
  grind

theorem al40 {Z1 : Rat} (Y1 : Z1=(1 : Rat)) {x17 x18 x13 x19 x12 x16 x20 x15 x14 : Rat} (hp : Ort (1) x12 x13 x14 x15 x16 x17 x18 x19 x20) : x17=(Z1*((x18*x13)-(x19*x12))) := by
  subst Y1
  unfold Ort at hp
  obtain ⟨a,b,c,d,e,f,g,h,i,j,k,l,m,n,o,p,q,r,s,t,u,v,w⟩ := hp
  grind

theorem al42 {Z1 : Rat} (Y1 : Z1=(1 : Rat)) {x20 x12 x16 x13 x15 x17 x19 x18 x14 : Rat} (hp : Ort (1) x12 x13 x14 x15 x16 x17 x18 x19 x20) : x20=(Z1*((x12*x16)-(x13*x15))) := by
  subst Y1
  unfold Ort at hp
  obtain ⟨a,b,c,d,e,f,g,h,i,j,k,l,m,n,o,p,q,r,s,t,u,v,w⟩ := hp
  grind

theorem al97 {Z0 Z1 : Rat} (Y0 : Z0=(0 : Rat)) (Y1 : Z1=(1 : Rat)) {q87 q67 q60 q53 x12 x6 x13 x7 x14 x8 x21 x0 q68 q61 q54 x15 x16 x17 x22 x1 q69 q62 q55 x18 x19 x20 x23 x2 q46 x3 x4 x5 q49 x9 x10 x11 q80 q74 q75 q76 q73 : Rat} (e53 : q53=(((x12*x6)+(x13*x7))+(x14*x8))) (e60 : q60=(q53+x21)) (e67 : q67=(q60-x0)) (e54 : q54=(((x15*x6)+(x16*x7))+(x17*x8))) (e61 : q61=(q54+x22)) (e68 : q68=(q61-x1)) (e55 : q55=(((x18*x6)+(x19*x7))+(x20*x8))) (e62 : q62=(q55+x23)) (e69 : q69=(q62-x2)) (e87 : q87=(((q67*q67)+(q68*q68))+(q69*q69))) (e46 : q46=(((x3*x3)+(x4*x4))+(x5*x5))) (e49 : q49=(((x9*x9)+(x10*x10))+(x11*x11))) (e74 : q74=(((((x16*x20)-(x17*x19))*x9)+(((x17*x18)-(x15*x20))*x10))+(((x15*x19)-(x16*x18))*x11))) (e75 : q75=(((((x19*x14)-(x20*x13))*x9)+(((x20*x12)-(x18*x14))*x10))+(((x18*x13)-(x19*x12))*x11))) (e76 : q76=(((((x13*x17)-(x14*x16))*x9)+(((x14*x15)-(x12*x17))*x10))+(((x12*x16)-(x13*x15))*x11))) (e80 : q80=(((q74*q67)+(q75*q68))+(q76*q69))) (e73 : q73=(((q67*x3)+(q68*x4))+(q69*x5))) (hp : Ort (1) x12 x13 x14 x15 x16 x17 x18 x19 x20) (c47 : q46=Z1) (c52 : q49=Z1) (c82 : q80<Z0) (c85 : Z0<q73) : (Z0<q87) := by
  unfold Ort at hp
  obtain ⟨o0,o1,o2,o3,o4,o5,o6,o7,o8,o9,o10,o11,o12,o13,o14,o15,o16,o17,o18,o19,o20,o21,o22⟩ := hp
  subst Y1 Y0
  rw [e87]
  exact far_pos (n0 := x3) (n1 := x4) (n2 := x5) (by rw [← e73]; exact c85)

theorem al128 {Zm1 Z0 Z1 : Rat} (Ym1 : Zm1=(-1 : Rat)) (Y0 : Z0=(0 : Rat)) (Y1 : Z1=(1 : Rat)) {q83 q80 q74 x16 x20 x17 x19 x9 x18 x15 x10 x11 q67 q60 q53 x12 x6 x13 x7 x14 x8 x21 x0 q75 q68 q61 q54 x22 x1 q76 q69 q62 q55 x23 x2 q121 q114 q107 q43 q122 q115 q108 q44 q123 q116 q109 q45 q46 x3 x4 x5 q49 q73 q87 q93 : Rat} (e74 : q74=(((((x16*x20)-(x17*x19))*x9)+(((x17*x18)-(x15*x20))*x10))+(((x15*x19)-(x16*x18))*x11))) (e53 : q53=(((x12*x6)+(x13*x7))+(x14*x8))) (e60 : q60=(q53+x21)) (e67 : q67=(q60-x0)) (e75 : q75=(((((x19*x14)-(x20*x13))*x9)+(((x20*x12)-(x18*x14))*x10))+(((x18*x13)-(x19*x12))*x11))) (e54 : q54=(((x15*x6)+(x16*x7))+(x17*x8))) (e61 : q61=(q54+x22)) (e68 : q68=(q61-x1)) (e76 : q76=(((((x13*x17)-(x14*x16))*x9)+(((x14*x15)-(x12*x17))*x10))+(((x12*x16)-(x13*x15))*x11))) (e55 : q55=(((x18*x6)+(x19*x7))+(x20*x8))) (e62 : q62=(q55+x23)) (e69 : q69=(q62-x2)) (e80 : q80=(((q74*q67)+(q75*q68))+(q76*q69))) (e83 : q83=(-q80)) (e107 : q107=(((x12*x0)+(x15*x1))+(x18*x2))) (e43 : q43=(Zm1*(((x12*x21)+(x15*x22))+(x18*x23)))) (e114 : q114=(q107+q43)) (e121 : q121=(q114-x6)) (e108 : q108=(((x13*x0)+(x16*x1))+(x19*x2))) (e44 : q44=(Zm1*(((x13*x21)+(x16*x22))+(x19*x23)))) (e115 : q115=(q108+q44)) (e122 : q122=(q115-x7)) (e109 : q109=(((x14*x0)+(x17*x1))+(x20*x2))) (e45 : q45=(Zm1*(((x14*x21)+(x17*x22))+(x20*x23)))) (e116 : q116=(q109+q45)) (e123 : q123=(q116-x8)) (e46 : q46=(((x3*x3)+(x4*x4))+(x5*x5))) (e49 : q49=(((x9*x9)+(x10*x10))+(x11*x11))) (e73 : q73=(((q67*x3)+(q68*x4))+(q69*x5))) (e87 : q87=(((q67*q67)+(q68*q68))+(q69*q69))) (e93 : q93=(q87*q87)) (hp : Ort (1) x12 x13 x14 x15 x16 x17 x18 x19 x20) (c47 : q46=Z1) (c52 : q49=Z1) (c82 : q80<Z0) (c85 : Z0<q73) (c96 : Z0<q87) (c98 : ¬q93=Z0) : q83=(((q121*x9)+(q122*x10))+(q123*x11)) := by
  subst Ym1 Y0 Y1 e74 e53 e60 e67 e75 e54 e61 e68 e76 e55 e62 e69 e80 e83 e107 e43 e114 e121 e108 e44 e115 e122 e109 e45 e116 e123 e46 e49 e73 e87 e93
  unfold Ort at hp
  obtain ⟨a,b,c,d,e,f,g,h,i,j,k,l,m,n,o,p,q,r,s,t,u,v,w⟩ := hp
  grind

theorem al139 {Zm1 Z0 Z1 : Rat} (Ym1 : Zm1=(-1 : Rat)) (Y0 : Z0=(0 : Rat)) (Y1 : Z1=(1 : Rat)) {q135 q129 x16 x20 x19 x17 x3 x14 x13 x4 x5 q121 q114 q107 x12 x0 x15 x1 x18 x2 q43 x21 x22 x23 x6 q130 q122 q115 q108 q44 x7 q131 q123 q116 q109 q45 x8 q73 q67 q60 q53 q68 q61 q54 q69 q62 q55 q46 q49 x9 x10 x11 q80 q74 q75 q76 q87 q93 : Rat} (e129 : q129=(((((x16*x20)-(x19*x17))*x3)+(((x19*x14)-(x13*x20))*x4))+(((x13*x17)-(x16*x14))*x5))) (e107 : q107=(((x12*x0)+(x15*x1))+(x18*x2))) (e43 : q43=(Zm1*(((x12*x21)+(x15*x22))+(x18*x23)))) (e114 : q114=(q107+q43)) (e121 : q121=(q114-x6)) (e130 : q130=(((((x17*x18)-(x20*x15))*x3)+(((x20*x12)-(x14*x18))*x4))+(((x14*x15)-(x17*x12))*x5))) (e108 : q108=(((x13*x0)+(x16*x1))+(x19*x2))) (e44 : q44=(Zm1*(((x13*x21)+(x16*x22))+(x19*x23)))) (e115 : q115=(q108+q44)) (e122 : q122=(q115-x7)) (e131 : q131=(((((x15*x19)-(x18*x16))*x3)+(((x18*x13)-(x12*x19))*x4))+(((x12*x16)-(x15*x13))*x5))) (e109 : q109=(((x14*x0)+(x17*x1))+(x20*x2))) (e45 : q45=(Zm1*(((x14*x21)+(x17*x22))+(x20*x23)))) (e116 : q116=(q109+q45)) (e123 : q123=(q116-x8)) (e135 : q135=(((q129*q121)+(q130*q122))+(q131*q123))) (e53 : q53=(((x12*x6)+(x13*x7))+(x14*x8))) (e60 : q60=(q53+x21)) (e67 : q67=(q60-x0)) (e54 : q54=(((x15*x6)+(x16*x7))+(x17*x8))) (e61 : q61=(q54+x22)) (e68 : q68=(q61-x1)) (e55 : q55=(((x18*x6)+(x19*x7))+(x20*x8))) (e62 : q62=(q55+x23)) (e69 : q69=(q62-x2)) (e73 : q73=(((q67*x3)+(q68*x4))+(q69*x5))) (e46 : q46=(((x3*x3)+(x4*x4))+(x5*x5))) (e49 : q49=(((x9*x9)+(x10*x10))+(x11*x11))) (e74 : q74=(((((x16*x20)-(x17*x19))*x9)+(((x17*x18)-(x15*x20))*x10))+(((x15*x19)-(x16*x18))*x11))) (e75 : q75=(((((x19*x14)-(x20*x13))*x9)+(((x20*x12)-(x18*x14))*x10))+(((x18*x13)-(x19*x12))*x11))) (e76 : q76=(((((x13*x17)-(x14*x16))*x9)+(((x14*x15)-(x12*x17))*x10))+(((x12*x16)-(x13*x15))*x11))) (e80 : q80=(((q74*q67)+(q75*q68))+(q76*q69))) (e87 : q87=(((q67*q67)+(q68*q68))+(q69*q69))) (e93 : q93=(q87*q87)) (hp : Ort (1) x12 x13 x14 x15 x16 x17 x18 x19 x20) (c47 : q46=Z1) (c52 : q49=Z1) (c82 : q80<Z0) (c85 : Z0<q73) (c96 : Z0<q87) (c98 : ¬q93=Z0) : q135=(-q73) := by
  subst Ym1 Y0 Y1 e129 e107 e43 e114 e121 e130 e108 e44 e115 e122 e131 e109 e45 e116 e123 e135 e53 e60 e67 e54 e61 e68 e55 e62 e69 e73 e46 e49 e74 e75 e76 e80 e87 e93
  unfold Ort at hp
  obtain ⟨a,b,c,d,e,f,g,h,i,j,k,l,m,n,o,p,q,r,s,t,u,v,w⟩ := hp
  grind

theorem al141 {Zm1 Z0 Z1 : Rat} (Ym1 : Zm1=(-1 : Rat)) (Y0 : Z0=(0 : Rat)) (Y1 : Z1=(1 : Rat)) {q73 q67 q60 q53 x12 x6 x13 x7 x14 x8 x21 x0 x3 q68 q61 q54 x15 x16 x17 x22 x1 x4 q69 q62 q55 x18 x19 x20 x23 x2 x5 q135 q129 q121 q114 q107 q43 q130 q122 q115 q108 q44 q131 q123 q116 q109 q45 q46 q49 x9 x10 x11 q80 q74 q75 q76 q87 q93 : Rat} (e53 : q53=(((x12*x6)+(x13*x7))+(x14*x8))) (e60 : q60=(q53+x21)) (e67 : q67=(q60-x0)) (e54 : q54=(((x15*x6)+(x16*x7))+(x17*x8))) (e61 : q61=(q54+x22)) (e68 : q68=(q61-x1)) (e55 : q55=(((x18*x6)+(x19*x7))+(x20*x8))) (e62 : q62=(q55+x23)) (e69 : q69=(q62-x2)) (e73 : q73=(((q67*x3)+(q68*x4))+(q69*x5))) (e129 : q129=(((((x16*x20)-(x19*x17))*x3)+(((x19*x14)-(x13*x20))*x4))+(((x13*x17)-(x16*x14))*x5))) (e107 : q107=(((x12*x0)+(x15*x1))+(x18*x2))) (e43 : q43=(Zm1*(((x12*x21)+(x15*x22))+(x18*x23)))) (e114 : q114=(q107+q43)) (e121 : q121=(q114-x6)) (e130 : q130=(((((x17*x18)-(x20*x15))*x3)+(((x20*x12)-(x14*x18))*x4))+(((x14*x15)-(x17*x12))*x5))) (e108 : q108=(((x13*x0)+(x16*x1))+(x19*x2))) (e44 : q44=(Zm1*(((x13*x21)+(x16*x22))+(x19*x23)))) (e115 : q115=(q108+q44)) (e122 : q122=(q115-x7)) (e131 : q131=(((((x15*x19)-(x18*x16))*x3)+(((x18*x13)-(x12*x19))*x4))+(((x12*x16)-(x15*x13))*x5))) (e109 : q109=(((x14*x0)+(x17*x1))+(x20*x2))) (e45 : q45=(Zm1*(((x14*x21)+(x17*x22))+(x20*x23)))) (e116 : q116=(q109+q45)) (e123 : q123=(q116-x8)) (e135 : q135=(((q129*q121)+(q130*q122))+(q131*q123))) (e46 : q46=(((x3*x3)+(x4*x4))+(x5*x5))) (e49 : q49=(((x9*x9)+(x10*x10))+(x11*x11))) (e74 : q74=(((((x16*x20)-(x17*x19))*x9)+(((x17*x18)-(x15*x20))*x10))+(((x15*x19)-(x16*x18))*x11))) (e75 : q75=(((((x19*x14)-(x20*x13))*x9)+(((x20*x12)-(x18*x14))*x10))+(((x18*x13)-(x19*x12))*x11))) (e76 : q76=(((((x13*x17)-(x14*x16))*x9)+(((x14*x15)-(x12*x17))*x10))+(((x12*x16)-(x13*x15))*x11))) (e80 : q80=(((q74*q67)+(q75*q68))+(q76*q69))) (e87 : q87=(((q67*q67)+(q68*q68))+(q69*q69))) (e93 : q93=(q87*q87)) (hp : Ort (1) x12 x13 x14 x15 x16 x17 x18 x19 x20) (c47 : q46=Z1) (c52 : q49=Z1) (c82 : q80<Z0) (c85 : Z0<q73) (c96 : Z0<q87) (c98 : ¬q93=Z0) (c137 : q135<Z0) : q73=(-q135) := by
  subst Ym1 Y0 Y1 e53 e60 e67 e54 e61 e68 e55 e62 e69 e73 e129 e107 e43 e114 e121 e130 e108 e44 e115 e122 e131 e109 e45 e116 e123 e135 e46 e49 e74 e75 e76 e80 e87 e93
  unfold Ort at hp
  obtain ⟨a,b,c,d,e,f,g,h,i,j,k,l,m,n,o,p,q,r,s,t,u,v,w⟩ := hp
  grind

theorem al143 {Zm1 Z0 Z1 : Rat} (Ym1 : Zm1=(-1 : Rat)) (Y0 : Z0=(0 : Rat)) (Y1 : Z1=(1 : Rat)) {x12 x16 x20 x19 x17 x15 x14 x13 x18 q46 x3 x4 x5 q49 x9 x10 x11 q80 q74 q67 q60 q53 x6 x7 x8 x21 x0 q75 q68 q61 q54 x22 x1 q76 q69 q62 q55 x23 x2 q73 q87 q93 q135 q129 q121 q114 q107 q43 q130 q122 q115 q108 q44 q131 q123 q116 q109 q45 : Rat} (e46 : q46=(((x3*x3)+(x4*x4))+(x5*x5))) (e49 : q49=(((x9*x9)+(x10*x10))+(x11*x11))) (e74 : q74=(((((x16*x20)-(x17*x19))*x9)+(((x17*x18)-(x15*x20))*x10))+(((x15*x19)-(x16*x18))*x11))) (e53 : q53=(((x12*x6)+(x13*x7))+(x14*x8))) (e60 : q60=(q53+x21)) (e67 : q67=(q60-x0)) (e75 : q75=(((((x19*x14)-(x20*x13))*x9)+(((x20*x12)-(x18*x14))*x10))+(((x18*x13)-(x19*x12))*x11))) (e54 : q54=(((x15*x6)+(x16*x7))+(x17*x8))) (e61 : q61=(q54+x22)) (e68 : q68=(q61-x1)) (e76 : q76=(((((x13*x17)-(x14*x16))*x9)+(((x14*x15)-(x12*x17))*x10))+(((x12*x16)-(x13*x15))*x11))) (e55 : q55=(((x18*x6)+(x19*x7))+(x20*x8))) (e62 : q62=(q55+x23)) (e69 : q69=(q62-x2)) (e80 : q80=(((q74*q67)+(q75*q68))+(q76*q69))) (e73 : q73=(((q67*x3)+(q68*x4))+(q69*x5))) (e87 : q87=(((q67*q67)+(q68*q68))+(q69*q69))) (e93 : q93=(q87*q87)) (e129 : q129=(((((x16*x20)-(x19*x17))*x3)+(((x19*x14)-(x13*x20))*x4))+(((x13*x17)-(x16*x14))*x5))) (e107 : q107=(((x12*x0)+(x15*x1))+(x18*x2))) (e43 : q43=(Zm1*(((x12*x21)+(x15*x22))+(x18*x23)))) (e114 : q114=(q107+q43)) (e121 : q121=(q114-x6)) (e130 : q130=(((((x17*x18)-(x20*x15))*x3)+(((x20*x12)-(x14*x18))*x4))+(((x14*x15)-(x17*x12))*x5))) (e108 : q108=(((x13*x0)+(x16*x1))+(x19*x2))) (e44 : q44=(Zm1*(((x13*x21)+(x16*x22))+(x19*x23)))) (e115 : q115=(q108+q44)) (e122 : q122=(q115-x7)) (e131 : q131=(((((x15*x19)-(x18*x16))*x3)+(((x18*x13)-(x12*x19))*x4))+(((x12*x16)-(x15*x13))*x5))) (e109 : q109=(((x14*x0)+(x17*x1))+(x20*x2))) (e45 : q45=(Zm1*(((x14*x21)+(x17*x22))+(x20*x23)))) (e116 : q116=(q109+q45)) (e123 : q123=(q116-x8)) (e135 : q135=(((q129*q121)+(q130*q122))+(q131*q123))) (hp : Ort (1) x12 x13 x14 x15 x16 x17 x18 x19 x20) (c47 : q46=Z1) (c52 : q49=Z1) (c82 : q80<Z0) (c85 : Z0<q73) (c96 : Z0<q87) (c98 : ¬q93=Z0) (c137 : q135<Z0) : Z1=(((x12*((x16*x20)-(x19*x17)))+(x15*((x19*x14)-(x13*x20))))+(x18*((x13*x17)-(x16*x14)))) := by
  subst Ym1 Y0 Y1 e46 e49 e74 e53 e60 e67 e75 e54 e61 e68 e76 e55 e62 e69 e80 e73 e87 e93 e129 e107 e43 e114 e121 e130 e108 e44 e115 e122 e131 e109 e45 e116 e123 e135
  unfold Ort at hp
  obtain ⟨a,b,c,d,e,f,g,h,i,j,k,l,m,n,o,p,q,r,s,t,u,v,w⟩ := hp
  grind

theorem al146 {Zm1 Z0 Z1 : Rat} (Ym1 : Zm1=(-1 : Rat)) (Y0 : Z0=(0 : Rat)) (Y1 : Z1=(1 : Rat)) {q87 q67 q60 q53 x12 x6 x13 x7 x14 x8 x21 x0 q68 q61 q54 x15 x16 x17 x22 x1 q69 q62 q55 x18 x19 x20 x23 x2 q121 q114 q107 q43 q122 q115 q108 q44 q123 q116 q109 q45 q46 x3 x4 x5 q49 x9 x10 x11 q80 q74 q75 q76 q73 q93 q135 q129 q130 q131 : Rat} (e53 : q53=(((x12*x6)+(x13*x7))+(x14*x8))) (e60 : q60=(q53+x21)) (e67 : q67=(q60-x0)) (e54 : q54=(((x15*x6)+(x16*x7))+(x17*x8))) (e61 : q61=(q54+x22)) (e68 : q68=(q61-x1)) (e55 : q55=(((x18*x6)+(x19*x7))+(x20*x8))) (e62 : q62=(q55+x23)) (e69 : q69=(q62-x2)) (e87 : q87=(((q67*q67)+(q68*q68))+(q69*q69))) (e107 : q107=(((x12*x0)+(x15*x1))+(x18*x2))) (e43 : q43=(Zm1*(((x12*x21)+(x15*x22))+(x18*x23)))) (e114 : q114=(q107+q43)) (e121 : q121=(q114-x6)) (e108 : q108=(((x13*x0)+(x16*x1))+(x19*x2))) (e44 : q44=(Zm1*(((x13*x21)+(x16*x22))+(x19*x23)))) (e115 : q115=(q108+q44)) (e122 : q122=(q115-x7)) (e109 : q109=(((x14*x0)+(x17*x1))+(x20*x2))) (e45 : q45=(Zm1*(((x14*x21)+(x17*x22))+(x20*x23)))) (e116 : q116=(q109+q45)) (e123 : q123=(q116-x8)) (e46 : q46=(((x3*x3)+(x4*x4))+(x5*x5))) (e49 : q49=(((x9*x9)+(x10*x10))+(x11*x11))) (e74 : q74=(((((x16*x20)-(x17*x19))*x9)+(((x17*x18)-(x15*x20))*x10))+(((x15*x19)-(x16*x18))*x11))) (e75 : q75=(((((x19*x14)-(x20*x13))*x9)+(((x20*x12)-(x18*x14))*x10))+(((x18*x13)-(x19*x12))*x11))) (e76 : q76=(((((x13*x17)-(x14*x16))*x9)+(((x14*x15)-(x12*x17))*x10))+(((x12*x16)-(x13*x15))*x11))) (e80 : q80=(((q74*q67)+(q75*q68))+(q76*q69))) (e73 : q73=(((q67*x3)+(q68*x4))+(q69*x5))) (e93 : q93=(q87*q87)) (e129 : q129=(((((x16*x20)-(x19*x17))*x3)+(((x19*x14)-(x13*x20))*x4))+(((x13*x17)-(x16*x14))*x5))) (e130 : q130=(((((x17*x18)-(x20*x15))*x3)+(((x20*x12)-(x14*x18))*x4))+(((x14*x15)-(x17*x12))*x5))) (e131 : q131=(((((x15*x19)-(x18*x16))*x3)+(((x18*x13)-(x12*x19))*x4))+(((x12*x16)-(x15*x13))*x5))) (e135 : q135=(((q129*q121)+(q130*q122))+(q131*q123))) (hp : Ort (1) x12 x13 x14 x15 x16 x17 x18 x19 x20) (c47 : q46=Z1) (c52 : q49=Z1) (c82 : q80<Z0) (c85 : Z0<q73) (c96 : Z0<q87) (c98 : ¬q93=Z0) (c137 : q135<Z0) : q87=(((q121*q121)+(q122*q122))+(q123*q123)) := by
  subst Ym1 Y0 Y1 e53 e60 e67 e54 e61 e68 e55 e62 e69 e87 e107 e43 e114 e121 e108 e44 e115 e122 e109 e45 e116 e123 e46 e49 e74 e75 e76 e80 e73 e93 e129 e130 e131 e135
  unfold Ort at hp
  obtain ⟨a,b,c,d,e,f,g,h,i,j,k,l,m,n,o,p,q,r,s,t,u,v,w⟩ := hp
  grind

theorem al149 {Zm1 Z0 Z1 : Rat} (Ym1 : Zm1=(-1 : Rat)) (Y0 : Z0=(0 : Rat)) (Y1 : Z1=(1 : Rat)) {q90 q73 q67 q60 q53 x12 x6 x13 x7 x14 x8 x21 x0 x3 q68 q61 q54 x15 x16 x17 x22 x1 x4 q69 q62 q55 x18 x19 x20 x23 x2 x5 q83 q80 q74 x9 x10 x11 q75 q76 q46 q49 q87 q93 q135 q129 q121 q114 q107 q43 q130 q122 q115 q108 q44 q131 q123 q116 q109 q45 : Rat} (e53 : q53=(((x12*x6)+(x13*x7))+(x14*x8))) (e60 : q60=(q53+x21)) (e67 : q67=(q60-x0)) (e54 : q54=(((x15*x6)+(x16*x7))+(x17*x8))) (e61 : q61=(q54+x22)) (e68 : q68=(q61-x1)) (e55 : q55=(((x18*x6)+(x19*x7))+(x20*x8))) (e62 : q62=(q55+x23)) (e69 : q69=(q62-x2)) (e73 : q73=(((q67*x3)+(q68*x4))+(q69*x5))) (e74 : q74=(((((x16*x20)-(x17*x19))*x9)+(((x17*x18)-(x15*x20))*x10))+(((x15*x19)-(x16*x18))*x11))) (e75 : q75=(((((x19*x14)-(x20*x13))*x9)+(((x20*x12)-(x18*x14))*x10))+(((x18*x13)-(x19*x12))*x11))) (e76 : q76=(((((x13*x17)-(x14*x16))*x9)+(((x14*x15)-(x12*x17))*x10))+(((x12*x16)-(x13*x15))*x11))) (e80 : q80=(((q74*q67)+(q75*q68))+(q76*q69))) (e83 : q83=(-q80)) (e90 : q90=(q73*q83)) (e46 : q46=(((x3*x3)+(x4*x4))+(x5*x5))) (e49 : q49=(((x9*x9)+(x10*x10))+(x11*x11))) (e87 : q87=(((q67*q67)+(q68*q68))+(q69*q69))) (e93 : q93=(q87*q87)) (e129 : q129=(((((x16*x20)-(x19*x17))*x3)+(((x19*x14)-(x13*x20))*x4))+(((x13*x17)-(x16*x14))*x5))) (e107 : q107=(((x12*x0)+(x15*x1))+(x18*x2))) (e43 : q43=(Zm1*(((x12*x21)+(x15*x22))+(x18*x23)))) (e114 : q114=(q107+q43)) (e121 : q121=(q114-x6)) (e130 : q130=(((((x17*x18)-(x20*x15))*x3)+(((x20*x12)-(x14*x18))*x4))+(((x14*x15)-(x17*x12))*x5))) (e108 : q108=(((x13*x0)+(x16*x1))+(x19*x2))) (e44 : q44=(Zm1*(((x13*x21)+(x16*x22))+(x19*x23)))) (e115 : q115=(q108+q44)) (e122 : q122=(q115-x7)) (e131 : q131=(((((x15*x19)-(x18*x16))*x3)+(((x18*x13)-(x12*x19))*x4))+(((x12*x16)-(x15*x13))*x5))) (e109 : q109=(((x14*x0)+(x17*x1))+(x20*x2))) (e45 : q45=(Zm1*(((x14*x21)+(x17*x22))+(x20*x23)))) (e116 : q116=(q109+q45)) (e123 : q123=(q116-x8)) (e135 : q135=(((q129*q121)+(q130*q122))+(q131*q123))) (hp : Ort (1) x12 x13 x14 x15 x16 x17 x18 x19 x20) (c47 : q46=Z1) (c52 : q49=Z1) (c82 : q80<Z0) (c85 : Z0<q73) (c96 : Z0<q87) (c98 : ¬q93=Z0) (c137 : q135<Z0) : q90=(q83*q73) := by
  subst Ym1 Y0 Y1 e53 e60 e67 e54 e61 e68 e55 e62 e69 e73 e74 e75 e76 e80 e83 e90 e46 e49 e87 e93 e129 e107 e43 e114 e121 e130 e108 e44 e115 e122 e131 e109 e45 e116 e123 e135
  unfold Ort at hp
  obtain ⟨a,b,c,d,e,f,g,h,i,j,k,l,m,n,o,p,q,r,s,t,u,v,w⟩ := hp
  grind

theorem al182 {Zm1 Z0 Z1 : Rat} (Ym1 : Zm1=(-1 : Rat)) (Y0 : Z0=(0 : Rat)) (Y1 : Z1=(1 : Rat)) {q83 q80 q74 x16 x20 x17 x19 x9 x18 x15 x10 x11 q67 q60 q53 x12 x6 x13 x7 x14 x8 x21 x0 q75 q68 q61 q54 x22 x1 q76 q69 q62 q55 x23 x2 q175 q168 q161 q43 q176 q169 q162 q44 q177 q170 q163 q45 q46 x3 x4 x5 q49 q73 : Rat} (e74 : q74=(((((x16*x20)-(x17*x19))*x9)+(((x17*x18)-(x15*x20))*x10))+(((x15*x19)-(x16*x18))*x11))) (e53 : q53=(((x12*x6)+(x13*x7))+(x14*x8))) (e60 : q60=(q53+x21)) (e67 : q67=(q60-x0)) (e75 : q75=(((((x19*x14)-(x20*x13))*x9)+(((x20*x12)-(x18*x14))*x10))+(((x18*x13)-(x19*x12))*x11))) (e54 : q54=(((x15*x6)+(x16*x7))+(x17*x8))) (e61 : q61=(q54+x22)) (e68 : q68=(q61-x1)) (e76 : q76=(((((x13*x17)-(x14*x16))*x9)+(((x14*x15)-(x12*x17))*x10))+(((x12*x16)-(x13*x15))*x11))) (e55 : q55=(((x18*x6)+(x19*x7))+(x20*x8))) (e62 : q62=(q55+x23)) (e69 : q69=(q62-x2)) (e80 : q80=(((q74*q67)+(q75*q68))+(q76*q69))) (e83 : q83=(-q80)) (e161 : q161=(((x12*x0)+(x15*x1))+(x18*x2))) (e43 : q43=(Zm1*(((x12*x21)+(x15*x22))+(x18*x23)))) (e168 : q168=(q161+q43)) (e175 : q175=(q168-x6)) (e162 : q162=(((x13*x0)+(x16*x1))+(x19*x2))) (e44 : q44=(Zm1*(((x13*x21)+(x16*x22))+(x19*x23)))) (e169 : q169=(q162+q44)) (e176 : q176=(q169-x7)) (e163 : q163=(((x14*x0)+(x17*x1))+(x20*x2))) (e45 : q45=(Zm1*(((x14*x21)+(x17*x22))+(x20*x23)))) (e170 : q170=(q163+q45)) (e177 : q177=(q170-x8)) (e46 : q46=(((x3*x3)+(x4*x4))+(x5*x5))) (e49 : q49=(((x9*x9)+(x10*x10))+(x11*x11))) (e73 : q73=(((q67*x3)+(q68*x4))+(q69*x5))) (hp : Ort (1) x12 x13 x14 x15 x16 x17 x18 x19 x20) (c47 : q46=Z1) (c52 : q49=Z1) (c82 : q80<Z0) (c85 : ¬Z0<q73) : q83=(((q175*x9)+(q176*x10))+(q177*x11)) := by
  subst Ym1 Y0 Y1 e74 e53 e60 e67 e75 e54 e61 e68 e76 e55 e62 e69 e80 e83 e161 e43 e168 e175 e162 e44 e169 e176 e163 e45 e170 e177 e46 e49 e73
  unfold Ort at hp
  obtain ⟨a,b,c,d,e,f,g,h,i,j,k,l,m,n,o,p,q,r,s,t,u,v,w⟩ := hp
  grind

theorem al193 {Zm1 Z0 Z1 : Rat} (Ym1 : Zm1=(-1 : Rat)) (Y0 : Z0=(0 : Rat)) (Y1 : Z1=(1 : Rat)) {q189 q183 x16 x20 x19 x17 x3 x14 x13 x4 x5 q175 q168 q161 x12 x0 x15 x1 x18 x2 q43 x21 x22 x23 x6 q184 q176 q169 q162 q44 x7 q185 q177 q170 q163 q45 x8 q73 q67 q60 q53 q68 q61 q54 q69 q62 q55 q46 q49 x9 x10 x11 q80 q74 q75 q76 : Rat} (e183 : q183=(((((x16*x20)-(x19*x17))*x3)+(((x19*x14)-(x13*x20))*x4))+(((x13*x17)-(x16*x14))*x5))) (e161 : q161=(((x12*x0)+(x15*x1))+(x18*x2))) (e43 : q43=(Zm1*(((x12*x21)+(x15*x22))+(x18*x23)))) (e168 : q168=(q161+q43)) (e175 : q175=(q168-x6)) (e184 : q184=(((((x17*x18)-(x20*x15))*x3)+(((x20*x12)-(x14*x18))*x4))+(((x14*x15)-(x17*x12))*x5))) (e162 : q162=(((x13*x0)+(x16*x1))+(x19*x2))) (e44 : q44=(Zm1*(((x13*x21)+(x16*x22))+(x19*x23)))) (e169 : q169=(q162+q44)) (e176 : q176=(q169-x7)) (e185 : q185=(((((x15*x19)-(x18*x16))*x3)+(((x18*x13)-(x12*x19))*x4))+(((x12*x16)-(x15*x13))*x5))) (e163 : q163=(((x14*x0)+(x17*x1))+(x20*x2))) (e45 : q45=(Zm1*(((x14*x21)+(x17*x22))+(x20*x23)))) (e170 : q170=(q163+q45)) (e177 : q177=(q170-x8)) (e189 : q189=(((q183*q175)+(q184*q176))+(q185*q177))) (e53 : q53=(((x12*x6)+(x13*x7))+(x14*x8))) (e60 : q60=(q53+x21)) (e67 : q67=(q60-x0)) (e54 : q54=(((x15*x6)+(x16*x7))+(x17*x8))) (e61 : q61=(q54+x22)) (e68 : q68=(q61-x1)) (e55 : q55=(((x18*x6)+(x19*x7))+(x20*x8))) (e62 : q62=(q55+x23)) (e69 : q69=(q62-x2)) (e73 : q73=(((q67*x3)+(q68*x4))+(q69*x5))) (e46 : q46=(((x3*x3)+(x4*x4))+(x5*x5))) (e49 : q49=(((x9*x9)+(x10*x10))+(x11*x11))) (e74 : q74=(((((x16*x20)-(x17*x19))*x9)+(((x17*x18)-(x15*x20))*x10))+(((x15*x19)-(x16*x18))*x11))) (e75 : q75=(((((x19*x14)-(x20*x13))*x9)+(((x20*x12)-(x18*x14))*x10))+(((x18*x13)-(x19*x12))*x11))) (e76 : q76=(((((x13*x17)-(x14*x16))*x9)+(((x14*x15)-(x12*x17))*x10))+(((x12*x16)-(x13*x15))*x11))) (e80 : q80=(((q74*q67)+(q75*q68))+(q76*q69))) (hp : Ort (1) x12 x13 x14 x15 x16 x17 x18 x19 x20) (c47 : q46=Z1) (c52 : q49=Z1) (c82 : q80<Z0) (c85 : ¬Z0<q73) : q189=(-q73) := by
  subst Ym1 Y0 Y1 e183 e161 e43 e168 e175 e184 e162 e44 e169 e176 e185 e163 e45 e170 e177 e189 e53 e60 e67 e54 e61 e68 e55 e62 e69 e73 e46 e49 e74 e75 e76 e80
  unfold Ort at hp
  obtain ⟨a,b,c,d,e,f,g,h,i,j,k,l,m,n,o,p,q,r,s,t,u,v,w⟩ := hp
  grind

theorem al196 {Zm1 Z0 Z1 : Rat} (Ym1 : Zm1=(-1 : Rat)) (Y0 : Z0=(0 : Rat)) (Y1 : Z1=(1 : Rat)) {x12 x16 x20 x19 x17 x15 x14 x13 x18 q46 x3 x4 x5 q49 x9 x10 x11 q80 q74 q67 q60 q53 x6 x7 x8 x21 x0 q75 q68 q61 q54 x22 x1 q76 q69 q62 q55 x23 x2 q73 q189 q183 q175 q168 q161 q43 q184 q176 q169 q162 q44 q185 q177 q170 q163 q45 : Rat} (e46 : q46=(((x3*x3)+(x4*x4))+(x5*x5))) (e49 : q49=(((x9*x9)+(x10*x10))+(x11*x11))) (e74 : q74=(((((x16*x20)-(x17*x19))*x9)+(((x17*x18)-(x15*x20))*x10))+(((x15*x19)-(x16*x18))*x11))) (e53 : q53=(((x12*x6)+(x13*x7))+(x14*x8))) (e60 : q60=(q53+x21)) (e67 : q67=(q60-x0)) (e75 : q75=(((((x19*x14)-(x20*x13))*x9)+(((x20*x12)-(x18*x14))*x10))+(((x18*x13)-(x19*x12))*x11))) (e54 : q54=(((x15*x6)+(x16*x7))+(x17*x8))) (e61 : q61=(q54+x22)) (e68 : q68=(q61-x1)) (e76 : q76=(((((x13*x17)-(x14*x16))*x9)+(((x14*x15)-(x12*x17))*x10))+(((x12*x16)-(x13*x15))*x11))) (e55 : q55=(((x18*x6)+(x19*x7))+(x20*x8))) (e62 : q62=(q55+x23)) (e69 : q69=(q62-x2)) (e80 : q80=(((q74*q67)+(q75*q68))+(q76*q69))) (e73 : q73=(((q67*x3)+(q68*x4))+(q69*x5))) (e183 : q183=(((((x16*x20)-(x19*x17))*x3)+(((x19*x14)-(x13*x20))*x4))+(((x13*x17)-(x16*x14))*x5))) (e161 : q161=(((x12*x0)+(x15*x1))+(x18*x2))) (e43 : q43=(Zm1*(((x12*x21)+(x15*x22))+(x18*x23)))) (e168 : q168=(q161+q43)) (e175 : q175=(q168-x6)) (e184 : q184=(((((x17*x18)-(x20*x15))*x3)+(((x20*x12)-(x14*x18))*x4))+(((x14*x15)-(x17*x12))*x5))) (e162 : q162=(((x13*x0)+(x16*x1))+(x19*x2))) (e44 : q44=(Zm1*(((x13*x21)+(x16*x22))+(x19*x23)))) (e169 : q169=(q162+q44)) (e176 : q176=(q169-x7)) (e185 : q185=(((((x15*x19)-(x18*x16))*x3)+(((x18*x13)-(x12*x19))*x4))+(((x12*x16)-(x15*x13))*x5))) (e163 : q163=(((x14*x0)+(x17*x1))+(x20*x2))) (e45 : q45=(Zm1*(((x14*x21)+(x17*x22))+(x20*x23)))) (e170 : q170=(q163+q45)) (e177 : q177=(q170-x8)) (e189 : q189=(((q183*q175)+(q184*q176))+(q185*q177))) (hp : Ort (1) x12 x13 x14 x15 x16 x17 x18 x19 x20) (c47 : q46=Z1) (c52 : q49=Z1) (c82 : q80<Z0) (c85 : ¬Z0<q73) (c191 : ¬q189<Z0) : Z1=(((x12*((x16*x20)-(x19*x17)))+(x15*((x19*x14)-(x13*x20))))+(x18*((x13*x17)-(x16*x14)))) := by
  subst Ym1 Y0 Y1 e46 e49 e74 e53 e60 e67 e75 e54 e61 e68 e76 e55 e62 e69 e80 e73 e183 e161 e43 e168 e175 e184 e162 e44 e169 e176 e185 e163 e45 e170 e177 e189
  unfold Ort at hp
  obtain ⟨a,b,c,d,e,f,g,h,i,j,k,l,m,n,o,p,q,r,s,t,u,v,w⟩ := hp
  grind

theorem al236 {Zm1 Z0 Z1 : Rat} (Ym1 : Zm1=(-1 : Rat)) (Y0 : Z0=(0 : Rat)) (Y1 : Z1=(1 : Rat)) {q229 q222 q215 x12 x0 x15 x1 x18 x2 q43 x21 x22 x23 x6 x9 q230 q223 q216 x13 x16 x19 q44 x7 x10 q231 q224 q217 x14 x17 x20 q45 x8 x11 q46 x3 x4 x5 q49 q80 q74 q67 q60 q53 q75 q68 q61 q54 q76 q69 q62 q55 q73 : Rat} (e215 : q215=(((x12*x0)+(x15*x1))+(x18*x2))) (e43 : q43=(Zm1*(((x12*x21)+(x15*x22))+(x18*x23)))) (e222 : q222=(q215+q43)) (e229 : q229=(q222-x6)) (e216 : q216=(((x13*x0)+(x16*x1))+(x19*x2))) (e44 : q44=(Zm1*(((x13*x21)+(x16*x22))+(x19*x23)))) (e223 : q223=(q216+q44)) (e230 : q230=(q223-x7)) (e217 : q217=(((x14*x0)+(x17*x1))+(x20*x2))) (e45 : q45=(Zm1*(((x14*x21)+(x17*x22))+(x20*x23)))) (e224 : q224=(q217+q45)) (e231 : q231=(q224-x8)) (e46 : q46=(((x3*x3)+(x4*x4))+(x5*x5))) (e49 : q49=(((x9*x9)+(x10*x10))+(x11*x11))) (e74 : q74=(((((x16*x20)-(x17*x19))*x9)+(((x17*x18)-(x15*x20))*x10))+(((x15*x19)-(x16*x18))*x11))) (e53 : q53=(((x12*x6)+(x13*x7))+(x14*x8))) (e60 : q60=(q53+x21)) (e67 : q67=(q60-x0)) (e75 : q75=(((((x19*x14)-(x20*x13))*x9)+(((x20*x12)-(x18*x14))*x10))+(((x18*x13)-(x19*x12))*x11))) (e54 : q54=(((x15*x6)+(x16*x7))+(x17*x8))) (e61 : q61=(q54+x22)) (e68 : q68=(q61-x1)) (e76 : q76=(((((x13*x17)-(x14*x16))*x9)+(((x14*x15)-(x12*x17))*x10))+(((x12*x16)-(x13*x15))*x11))) (e55 : q55=(((x18*x6)+(x19*x7))+(x20*x8))) (e62 : q62=(q55+x23)) (e69 : q69=(q62-x2)) (e80 : q80=(((q74*q67)+(q75*q68))+(q76*q69))) (e73 : q73=(((q67*x3)+(q68*x4))+(q69*x5))) (hp : Ort (1) x12 x13 x14 x15 x16 x17 x18 x19 x20) (c47 : q46=Z1) (c52 : q49=Z1) (c82 : ¬q80<Z0) (c205 : Z0<q73) (c206 : q80=Z0) : Z0=(((q229*x9)+(q230*x10))+(q231*x11)) := by
  subst Ym1 Y0 Y1 e215 e43 e222 e229 e216 e44 e223 e230 e217 e45 e224 e231 e46 e49 e74 e53 e60 e67 e75 e54 e61 e68 e76 e55 e62 e69 e80 e73
  unfold Ort at hp
  obtain ⟨a,b,c,d,e,f,g,h,i,j,k,l,m,n,o,p,q,r,s,t,u,v,w⟩ := hp
  grind

theorem al247 {Zm1 Z0 Z1 : Rat} (Ym1 : Zm1=(-1 : Rat)) (Y0 : Z0=(0 : Rat)) (Y1 : Z1=(1 : Rat)) {q243 q237 x16 x20 x19 x17 x3 x14 x13 x4 x5 q229 q222 q215 x12 x0 x15 x1 x18 x2 q43 x21 x22 x23 x6 q238 q230 q223 q216 q44 x7 q239 q231 q224 q217 q45 x8 q73 q67 q60 q53 q68 q61 q54 q69 q62 q55 q46 q49 x9 x10 x11 q80 q74 q75 q76 : Rat} (e237 : q237=(((((x16*x20)-(x19*x17))*x3)+(((x19*x14)-(x13*x20))*x4))+(((x13*x17)-(x16*x14))*x5))) (e215 : q215=(((x12*x0)+(x15*x1))+(x18*x2))) (e43 : q43=(Zm1*(((x12*x21)+(x15*x22))+(x18*x23)))) (e222 : q222=(q215+q43)) (e229 : q229=(q222-x6)) (e238 : q238=(((((x17*x18)-(x20*x15))*x3)+(((x20*x12)-(x14*x18))*x4))+(((x14*x15)-(x17*x12))*x5))) (e216 : q216=(((x13*x0)+(x16*x1))+(x19*x2))) (e44 : q44=(Zm1*(((x13*x21)+(x16*x22))+(x19*x23)))) (e223 : q223=(q216+q44)) (e230 : q230=(q223-x7)) (e239 : q239=(((((x15*x19)-(x18*x16))*x3)+(((x18*x13)-(x12*x19))*x4))+(((x12*x16)-(x15*x13))*x5))) (e217 : q217=(((x14*x0)+(x17*x1))+(x20*x2))) (e45 : q45=(Zm1*(((x14*x21)+(x17*x22))+(x20*x23)))) (e224 : q224=(q217+q45)) (e231 : q231=(q224-x8)) (e243 : q243=(((q237*q229)+(q238*q230))+(q239*q231))) (e53 : q53=(((x12*x6)+(x13*x7))+(x14*x8))) (e60 : q60=(q53+x21)) (e67 : q67=(q60-x0)) (e54 : q54=(((x15*x6)+(x16*x7))+(x17*x8))) (e61 : q61=(q54+x22)) (e68 : q68=(q61-x1)) (e55 : q55=(((x18*x6)+(x19*x7))+(x20*x8))) (e62 : q62=(q55+x23)) (e69 : q69=(q62-x2)) (e73 : q73=(((q67*x3)+(q68*x4))+(q69*x5))) (e46 : q46=(((x3*x3)+(x4*x4))+(x5*x5))) (e49 : q49=(((x9*x9)+(x10*x10))+(x11*x11))) (e74 : q74=(((((x16*x20)-(x17*x19))*x9)+(((x17*x18)-(x15*x20))*x10))+(((x15*x19)-(x16*x18))*x11))) (e75 : q75=(((((x19*x14)-(x20*x13))*x9)+(((x20*x12)-(x18*x14))*x10))+(((x18*x13)-(x19*x12))*x11))) (e76 : q76=(((((x13*x17)-(x14*x16))*x9)+(((x14*x15)-(x12*x17))*x10))+(((x12*x16)-(x13*x15))*x11))) (e80 : q80=(((q74*q67)+(q75*q68))+(q76*q69))) (hp : Ort (1) x12 x13 x14 x15 x16 x17 x18 x19 x20) (c47 : q46=Z1) (c52 : q49=Z1) (c82 : ¬q80<Z0) (c205 : Z0<q73) (c206 : q80=Z0) : q243=(-q73) := by
  subst Ym1 Y0 Y1 e237 e215 e43 e222 e229 e238 e216 e44 e223 e230 e239 e217 e45 e224 e231 e243 e53 e60 e67 e54 e61 e68 e55 e62 e69 e73 e46 e49 e74 e75 e76 e80
  unfold Ort at hp
  obtain ⟨a,b,c,d,e,f,g,h,i,j,k,l,m,n,o,p,q,r,s,t,u,v,w⟩ := hp
  grind

theorem al249 {Zm1 Z0 Z1 : Rat} (Ym1 : Zm1=(-1 : Rat)) (Y0 : Z0=(0 : Rat)) (Y1 : Z1=(1 : Rat)) {q73 q67 q60 q53 x12 x6 x13 x7 x14 x8 x21 x0 x3 q68 q61 q54 x15 x16 x17 x22 x1 x4 q69 q62 q55 x18 x19 x20 x23 x2 x5 q243 q237 q229 q222 q215 q43 q238 q230 q223 q216 q44 q239 q231 q224 q217 q45 q46 q49 x9 x10 x11 q80 q74 q75 q76 : Rat} (e53 : q53=(((x12*x6)+(x13*x7))+(x14*x8))) (e60 : q60=(q53+x21)) (e67 : q67=(q60-x0)) (e54 : q54=(((x15*x6)+(x16*x7))+(x17*x8))) (e61 : q61=(q54+x22)) (e68 : q68=(q61-x1)) (e55 : q55=(((x18*x6)+(x19*x7))+(x20*x8))) (e62 : q62=(q55+x23)) (e69 : q69=(q62-x2)) (e73 : q73=(((q67*x3)+(q68*x4))+(q69*x5))) (e237 : q237=(((((x16*x20)-(x19*x17))*x3)+(((x19*x14)-(x13*x20))*x4))+(((x13*x17)-(x16*x14))*x5))) (e215 : q215=(((x12*x0)+(x15*x1))+(x18*x2))) (e43 : q43=(Zm1*(((x12*x21)+(x15*x22))+(x18*x23)))) (e222 : q222=(q215+q43)) (e229 : q229=(q222-x6)) (e238 : q238=(((((x17*x18)-(x20*x15))*x3)+(((x20*x12)-(x14*x18))*x4))+(((x14*x15)-(x17*x12))*x5))) (e216 : q216=(((x13*x0)+(x16*x1))+(x19*x2))) (e44 : q44=(Zm1*(((x13*x21)+(x16*x22))+(x19*x23)))) (e223 : q223=(q216+q44)) (e230 : q230=(q223-x7)) (e239 : q239=(((((x15*x19)-(x18*x16))*x3)+(((x18*x13)-(x12*x19))*x4))+(((x12*x16)-(x15*x13))*x5))) (e217 : q217=(((x14*x0)+(x17*x1))+(x20*x2))) (e45 : q45=(Zm1*(((x14*x21)+(x17*x22))+(x20*x23)))) (e224 : q224=(q217+q45)) (e231 : q231=(q224-x8)) (e243 : q243=(((q237*q229)+(q238*q230))+(q239*q231))) (e46 : q46=(((x3*x3)+(x4*x4))+(x5*x5))) (e49 : q49=(((x9*x9)+(x10*x10))+(x11*x11))) (e74 : q74=(((((x16*x20)-(x17*x19))*x9)+(((x17*x18)-(x15*x20))*x10))+(((x15*x19)-(x16*x18))*x11))) (e75 : q75=(((((x19*x14)-(x20*x13))*x9)+(((x20*x12)-(x18*x14))*x10))+(((x18*x13)-(x19*x12))*x11))) (e76 : q76=(((((x13*x17)-(x14*x16))*x9)+(((x14*x15)-(x12*x17))*x10))+(((x12*x16)-(x13*x15))*x11))) (e80 : q80=(((q74*q67)+(q75*q68))+(q76*q69))) (hp : Ort (1) x12 x13 x14 x15 x16 x17 x18 x19 x20) (c47 : q46=Z1) (c52 : q49=Z1) (c82 : ¬q80<Z0) (c205 : Z0<q73) (c206 : q80=Z0) (c245 : q243<Z0) : q73=(-q243) := by
  subst Ym1 Y0 Y1 e53 e60 e67 e54 e61 e68 e55 e62 e69 e73 e237 e215 e43 e222 e229 e238 e216 e44 e223 e230 e239 e217 e45 e224 e231 e243 e46 e49 e74 e75 e76 e80
  unfold Ort at hp
  obtain ⟨a,b,c,d,e,f,g,h,i,j,k,l,m,n,o,p,q,r,s,t,u,v,w⟩ := hp
  grind

theorem al292 {Zm1 Z0 Z1 : Rat} (Ym1 : Zm1=(-1 : Rat)) (Y0 : Z0=(0 : Rat)) (Y1 : Z1=(1 : Rat)) {q288 q282 x16 x20 x19 x17 x3 x14 x13 x4 x5 q275 q268 q261 x12 x0 x15 x1 x18 x2 q43 x21 x22 x23 x6 q283 q276 q269 q262 q44 x7 q284 q277 q270 q263 q45 x8 q73 q67 q60 q53 q68 q61 q54 q69 q62 q55 q46 q49 x9 x10 x11 q80 q74 q75 q76 : Rat} (e282 : q282=(((((x16*x20)-(x19*x17))*x3)+(((x19*x14)-(x13*x20))*x4))+(((x13*x17)-(x16*x14))*x5))) (e261 : q261=(((x12*x0)+(x15*x1))+(x18*x2))) (e43 : q43=(Zm1*(((x12*x21)+(x15*x22))+(x18*x23)))) (e268 : q268=(q261+q43)) (e275 : q275=(q268-x6)) (e283 : q283=(((((x17*x18)-(x20*x15))*x3)+(((x20*x12)-(x14*x18))*x4))+(((x14*x15)-(x17*x12))*x5))) (e262 : q262=(((x13*x0)+(x16*x1))+(x19*x2))) (e44 : q44=(Zm1*(((x13*x21)+(x16*x22))+(x19*x23)))) (e269 : q269=(q262+q44)) (e276 : q276=(q269-x7)) (e284 : q284=(((((x15*x19)-(x18*x16))*x3)+(((x18*x13)-(x12*x19))*x4))+(((x12*x16)-(x15*x13))*x5))) (e263 : q263=(((x14*x0)+(x17*x1))+(x20*x2))) (e45 : q45=(Zm1*(((x14*x21)+(x17*x22))+(x20*x23)))) (e270 : q270=(q263+q45)) (e277 : q277=(q270-x8)) (e288 : q288=(((q282*q275)+(q283*q276))+(q284*q277))) (e53 : q53=(((x12*x6)+(x13*x7))+(x14*x8))) (e60 : q60=(q53+x21)) (e67 : q67=(q60-x0)) (e54 : q54=(((x15*x6)+(x16*x7))+(x17*x8))) (e61 : q61=(q54+x22)) (e68 : q68=(q61-x1)) (e55 : q55=(((x18*x6)+(x19*x7))+(x20*x8))) (e62 : q62=(q55+x23)) (e69 : q69=(q62-x2)) (e73 : q73=(((q67*x3)+(q68*x4))+(q69*x5))) (e46 : q46=(((x3*x3)+(x4*x4))+(x5*x5))) (e49 : q49=(((x9*x9)+(x10*x10))+(x11*x11))) (e74 : q74=(((((x16*x20)-(x17*x19))*x9)+(((x17*x18)-(x15*x20))*x10))+(((x15*x19)-(x16*x18))*x11))) (e75 : q75=(((((x19*x14)-(x20*x13))*x9)+(((x20*x12)-(x18*x14))*x10))+(((x18*x13)-(x19*x12))*x11))) (e76 : q76=(((((x13*x17)-(x14*x16))*x9)+(((x14*x15)-(x12*x17))*x10))+(((x12*x16)-(x13*x15))*x11))) (e80 : q80=(((q74*q67)+(q75*q68))+(q76*q69))) (hp : Ort (1) x12 x13 x14 x15 x16 x17 x18 x19 x20) (c47 : q46=Z1) (c52 : q49=Z1) (c82 : ¬q80<Z0) (c205 : Z0<q73) (c206 : ¬q80=Z0) : q288=(-q73) := by
  subst Ym1 Y0 Y1 e282 e261 e43 e268 e275 e283 e262 e44 e269 e276 e284 e263 e45 e270 e277 e288 e53 e60 e67 e54 e61 e68 e55 e62 e69 e73 e46 e49 e74 e75 e76 e80
  unfold Ort at hp
  obtain ⟨a,b,c,d,e,f,g,h,i,j,k,l,m,n,o,p,q,r,s,t,u,v,w⟩ := hp
  grind

theorem al294 {Zm1 Z0 Z1 : Rat} (Ym1 : Zm1=(-1 : Rat)) (Y0 : Z0=(0 : Rat)) (Y1 : Z1=(1 : Rat)) {q73 q67 q60 q53 x12 x6 x13 x7 x14 x8 x21 x0 x3 q68 q61 q54 x15 x16 x17 x22 x1 x4 q69 q62 q55 x18 x19 x20 x23 x2 x5 q288 q282 q275 q268 q261 q43 q283 q276 q269 q262 q44 q284 q277 q270 q263 q45 q46 q49 x9 x10 x11 q80 q74 q75 q76 : Rat} (e53 : q53=(((x12*x6)+(x13*x7))+(x14*x8))) (e60 : q60=(q53+x21)) (e67 : q67=(q60-x0)) (e54 : q54=(((x15*x6)+(x16*x7))+(x17*x8))) (e61 : q61=(q54+x22)) (e68 : q68=(q61-x1)) (e55 : q55=(((x18*x6)+(x19*x7))+(x20*x8))) (e62 : q62=(q55+x23)) (e69 : q69=(q62-x2)) (e73 : q73=(((q67*x3)+(q68*x4))+(q69*x5))) (e282 : q282=(((((x16*x20)-(x19*x17))*x3)+(((x19*x14)-(x13*x20))*x4))+(((x13*x17)-(x16*x14))*x5))) (e261 : q261=(((x12*x0)+(x15*x1))+(x18*x2))) (e43 : q43=(Zm1*(((x12*x21)+(x15*x22))+(x18*x23)))) (e268 : q268=(q261+q43)) (e275 : q275=(q268-x6)) (e283 : q283=(((((x17*x18)-(x20*x15))*x3)+(((x20*x12)-(x14*x18))*x4))+(((x14*x15)-(x17*x12))*x5))) (e262 : q262=(((x13*x0)+(x16*x1))+(x19*x2))) (e44 : q44=(Zm1*(((x13*x21)+(x16*x22))+(x19*x23)))) (e269 : q269=(q262+q44)) (e276 : q276=(q269-x7)) (e284 : q284=(((((x15*x19)-(x18*x16))*x3)+(((x18*x13)-(x12*x19))*x4))+(((x12*x16)-(x15*x13))*x5))) (e263 : q263=(((x14*x0)+(x17*x1))+(x20*x2))) (e45 : q45=(Zm1*(((x14*x21)+(x17*x22))+(x20*x23)))) (e270 : q270=(q263+q45)) (e277 : q277=(q270-x8)) (e288 : q288=(((q282*q275)+(q283*q276))+(q284*q277))) (e46 : q46=(((x3*x3)+(x4*x4))+(x5*x5))) (e49 : q49=(((x9*x9)+(x10*x10))+(x11*x11))) (e74 : q74=(((((x16*x20)-(x17*x19))*x9)+(((x17*x18)-(x15*x20))*x10))+(((x15*x19)-(x16*x18))*x11))) (e75 : q75=(((((x19*x14)-(x20*x13))*x9)+(((x20*x12)-(x18*x14))*x10))+(((x18*x13)-(x19*x12))*x11))) (e76 : q76=(((((x13*x17)-(x14*x16))*x9)+(((x14*x15)-(x12*x17))*x10))+(((x12*x16)-(x13*x15))*x11))) (e80 : q80=(((q74*q67)+(q75*q68))+(q76*q69))) (hp : Ort (1) x12 x13 x14 x15 x16 x17 x18 x19 x20) (c47 : q46=Z1) (c52 : q49=Z1) (c82 : ¬q80<Z0) (c205 : Z0<q73) (c206 : ¬q80=Z0) (c290 : q288<Z0) : q73=(-q288) := by
  subst Ym1 Y0 Y1 e53 e60 e67 e54 e61 e68 e55 e62 e69 e73 e282 e261 e43 e268 e275 e283 e262 e44 e269 e276 e284 e263 e45 e270 e277 e288 e46 e49 e74 e75 e76 e80
  unfold Ort at hp
  obtain ⟨a,b,c,d,e,f,g,h,i,j,k,l,m,n,o,p,q,r,s,t,u,v,w⟩ := hp
  grind

theorem al298 {Zm1 Z0 Z1 : Rat} (Ym1 : Zm1=(-1 : Rat)) (Y0 : Z0=(0 : Rat)) (Y1 : Z1=(1 : Rat)) {q281 q275 q268 q261 x12 x0 x15 x1 x18 x2 q43 x21 x22 x23 x6 x9 q276 q269 q262 x13 x16 x19 q44 x7 x10 q277 q270 q263 x14 x17 x20 q45 x8 x11 q80 q74 q67 q60 q53 q75 q68 q61 q54 q76 q69 q62 q55 q46 x3 x4 x5 q49 q73 q288 q282 q283 q284 : Rat} (e261 : q261=(((x12*x0)+(x15*x1))+(x18*x2))) (e43 : q43=(Zm1*(((x12*x21)+(x15*x22))+(x18*x23)))) (e268 : q268=(q261+q43)) (e275 : q275=(q268-x6)) (e262 : q262=(((x13*x0)+(x16*x1))+(x19*x2))) (e44 : q44=(Zm1*(((x13*x21)+(x16*x22))+(x19*x23)))) (e269 : q269=(q262+q44)) (e276 : q276=(q269-x7)) (e263 : q263=(((x14*x0)+(x17*x1))+(x20*x2))) (e45 : q45=(Zm1*(((x14*x21)+(x17*x22))+(x20*x23)))) (e270 : q270=(q263+q45)) (e277 : q277=(q270-x8)) (e281 : q281=(((q275*x9)+(q276*x10))+(q277*x11))) (e74 : q74=(((((x16*x20)-(x17*x19))*x9)+(((x17*x18)-(x15*x20))*x10))+(((x15*x19)-(x16*x18))*x11))) (e53 : q53=(((x12*x6)+(x13*x7))+(x14*x8))) (e60 : q60=(q53+x21)) (e67 : q67=(q60-x0)) (e75 : q75=(((((x19*x14)-(x20*x13))*x9)+(((x20*x12)-(x18*x14))*x10))+(((x18*x13)-(x19*x12))*x11))) (e54 : q54=(((x15*x6)+(x16*x7))+(x17*x8))) (e61 : q61=(q54+x22)) (e68 : q68=(q61-x1)) (e76 : q76=(((((x13*x17)-(x14*x16))*x9)+(((x14*x15)-(x12*x17))*x10))+(((x12*x16)-(x13*x15))*x11))) (e55 : q55=(((x18*x6)+(x19*x7))+(x20*x8))) (e62 : q62=(q55+x23)) (e69 : q69=(q62-x2)) (e80 : q80=(((q74*q67)+(q75*q68))+(q76*q69))) (e46 : q46=(((x3*x3)+(x4*x4))+(x5*x5))) (e49 : q49=(((x9*x9)+(x10*x10))+(x11*x11))) (e73 : q73=(((q67*x3)+(q68*x4))+(q69*x5))) (e282 : q282=(((((x16*x20)-(x19*x17))*x3)+(((x19*x14)-(x13*x20))*x4))+(((x13*x17)-(x16*x14))*x5))) (e283 : q283=(((((x17*x18)-(x20*x15))*x3)+(((x20*x12)-(x14*x18))*x4))+(((x14*x15)-(x17*x12))*x5))) (e284 : q284=(((((x15*x19)-(x18*x16))*x3)+(((x18*x13)-(x12*x19))*x4))+(((x12*x16)-(x15*x13))*x5))) (e288 : q288=(((q282*q275)+(q283*q276))+(q284*q277))) (hp : Ort (1) x12 x13 x14 x15 x16 x17 x18 x19 x20) (c47 : q46=Z1) (c52 : q49=Z1) (c82 : ¬q80<Z0) (c205 : Z0<q73) (c206 : ¬q80=Z0) (c290 : q288<Z0) : q281=(-q80) := by
  subst Ym1 Y0 Y1 e261 e43 e268 e275 e262 e44 e269 e276 e263 e45 e270 e277 e281 e74 e53 e60 e67 e75 e54 e61 e68 e76 e55 e62 e69 e80 e46 e49 e73 e282 e283 e284 e288
  unfold Ort at hp
  obtain ⟨a,b,c,d,e,f,g,h,i,j,k,l,m,n,o,p,q,r,s,t,u,v,w⟩ := hp
  grind

theorem al341 {Zm1 Z0 Z1 : Rat} (Ym1 : Zm1=(-1 : Rat)) (Y0 : Z0=(0 : Rat)) (Y1 : Z1=(1 : Rat)) {q337 q331 x16 x20 x19 x17 x3 x14 x13 x4 x5 q324 q317 q310 x12 x0 x15 x1 x18 x2 q43 x21 x22 x23 x6 q332 q325 q318 q311 q44 x7 q333 q326 q319 q312 q45 x8 q73 q67 q60 q53 q68 q61 q54 q69 q62 q55 q46 q49 x9 x10 x11 q80 q74 q75 q76 : Rat} (e331 : q331=(((((x16*x20)-(x19*x17))*x3)+(((x19*x14)-(x13*x20))*x4))+(((x13*x17)-(x16*x14))*x5))) (e310 : q310=(((x12*x0)+(x15*x1))+(x18*x2))) (e43 : q43=(Zm1*(((x12*x21)+(x15*x22))+(x18*x23)))) (e317 : q317=(q310+q43)) (e324 : q324=(q317-x6)) (e332 : q332=(((((x17*x18)-(x20*x15))*x3)+(((x20*x12)-(x14*x18))*x4))+(((x14*x15)-(x17*x12))*x5))) (e311 : q311=(((x13*x0)+(x16*x1))+(x19*x2))) (e44 : q44=(Zm1*(((x13*x21)+(x16*x22))+(x19*x23)))) (e318 : q318=(q311+q44)) (e325 : q325=(q318-x7)) (e333 : q333=(((((x15*x19)-(x18*x16))*x3)+(((x18*x13)-(x12*x19))*x4))+(((x12*x16)-(x15*x13))*x5))) (e312 : q312=(((x14*x0)+(x17*x1))+(x20*x2))) (e45 : q45=(Zm1*(((x14*x21)+(x17*x22))+(x20*x23)))) (e319 : q319=(q312+q45)) (e326 : q326=(q319-x8)) (e337 : q337=(((q331*q324)+(q332*q325))+(q333*q326))) (e53 : q53=(((x12*x6)+(x13*x7))+(x14*x8))) (e60 : q60=(q53+x21)) (e67 : q67=(q60-x0)) (e54 : q54=(((x15*x6)+(x16*x7))+(x17*x8))) (e61 : q61=(q54+x22)) (e68 : q68=(q61-x1)) (e55 : q55=(((x18*x6)+(x19*x7))+(x20*x8))) (e62 : q62=(q55+x23)) (e69 : q69=(q62-x2)) (e73 : q73=(((q67*x3)+(q68*x4))+(q69*x5))) (e46 : q46=(((x3*x3)+(x4*x4))+(x5*x5))) (e49 : q49=(((x9*x9)+(x10*x10))+(x11*x11))) (e74 : q74=(((((x16*x20)-(x17*x19))*x9)+(((x17*x18)-(x15*x20))*x10))+(((x15*x19)-(x16*x18))*x11))) (e75 : q75=(((((x19*x14)-(x20*x13))*x9)+(((x20*x12)-(x18*x14))*x10))+(((x18*x13)-(x19*x12))*x11))) (e76 : q76=(((((x13*x17)-(x14*x16))*x9)+(((x14*x15)-(x12*x17))*x10))+(((x12*x16)-(x13*x15))*x11))) (e80 : q80=(((q74*q67)+(q75*q68))+(q76*q69))) (hp : Ort (1) x12 x13 x14 x15 x16 x17 x18 x19 x20) (c47 : q46=Z1) (c52 : q49=Z1) (c82 : ¬q80<Z0) (c205 : ¬Z0<q73) : q337=(-q73) := by
  subst Ym1 Y0 Y1 e331 e310 e43 e317 e324 e332 e311 e44 e318 e325 e333 e312 e45 e319 e326 e337 e53 e60 e67 e54 e61 e68 e55 e62 e69 e73 e46 e49 e74 e75 e76 e80
  unfold Ort at hp
  obtain ⟨a,b,c,d,e,f,g,h,i,j,k,l,m,n,o,p,q,r,s,t,u,v,w⟩ := hp
  grind

theorem al345 {Zm1 Z0 Z1 : Rat} (Ym1 : Zm1=(-1 : Rat)) (Y0 : Z0=(0 : Rat)) (Y1 : Z1=(1 : Rat)) {q330 q324 q317 q310 x12 x0 x15 x1 x18 x2 q43 x21 x22 x23 x6 x9 q325 q318 q311 x13 x16 x19 q44 x7 x10 q326 q319 q312 x14 x17 x20 q45 x8 x11 q80 q74 q67 q60 q53 q75 q68 q61 q54 q76 q69 q62 q55 q46 x3 x4 x5 q49 q73 q337 q331 q332 q333 : Rat} (e310 : q310=(((x12*x0)+(x15*x1))+(x18*x2))) (e43 : q43=(Zm1*(((x12*x21)+(x15*x22))+(x18*x23)))) (e317 : q317=(q310+q43)) (e324 : q324=(q317-x6)) (e311 : q311=(((x13*x0)+(x16*x1))+(x19*x2))) (e44 : q44=(Zm1*(((x13*x21)+(x16*x22))+(x19*x23)))) (e318 : q318=(q311+q44)) (e325 : q325=(q318-x7)) (e312 : q312=(((x14*x0)+(x17*x1))+(x20*x2))) (e45 : q45=(Zm1*(((x14*x21)+(x17*x22))+(x20*x23)))) (e319 : q319=(q312+q45)) (e326 : q326=(q319-x8)) (e330 : q330=(((q324*x9)+(q325*x10))+(q326*x11))) (e74 : q74=(((((x16*x20)-(x17*x19))*x9)+(((x17*x18)-(x15*x20))*x10))+(((x15*x19)-(x16*x18))*x11))) (e53 : q53=(((x12*x6)+(x13*x7))+(x14*x8))) (e60 : q60=(q53+x21)) (e67 : q67=(q60-x0)) (e75 : q75=(((((x19*x14)-(x20*x13))*x9)+(((x20*x12)-(x18*x14))*x10))+(((x18*x13)-(x19*x12))*x11))) (e54 : q54=(((x15*x6)+(x16*x7))+(x17*x8))) (e61 : q61=(q54+x22)) (e68 : q68=(q61-x1)) (e76 : q76=(((((x13*x17)-(x14*x16))*x9)+(((x14*x15)-(x12*x17))*x10))+(((x12*x16)-(x13*x15))*x11))) (e55 : q55=(((x18*x6)+(x19*x7))+(x20*x8))) (e62 : q62=(q55+x23)) (e69 : q69=(q62-x2)) (e80 : q80=(((q74*q67)+(q75*q68))+(q76*q69))) (e46 : q46=(((x3*x3)+(x4*x4))+(x5*x5))) (e49 : q49=(((x9*x9)+(x10*x10))+(x11*x11))) (e73 : q73=(((q67*x3)+(q68*x4))+(q69*x5))) (e331 : q331=(((((x16*x20)-(x19*x17))*x3)+(((x19*x14)-(x13*x20))*x4))+(((x13*x17)-(x16*x14))*x5))) (e332 : q332=(((((x17*x18)-(x20*x15))*x3)+(((x20*x12)-(x14*x18))*x4))+(((x14*x15)-(x17*x12))*x5))) (e333 : q333=(((((x15*x19)-(x18*x16))*x3)+(((x18*x13)-(x12*x19))*x4))+(((x12*x16)-(x15*x13))*x5))) (e337 : q337=(((q331*q324)+(q332*q325))+(q333*q326))) (hp : Ort (1) x12 x13 x14 x15 x16 x17 x18 x19 x20) (c47 : q46=Z1) (c52 : q49=Z1) (c82 : ¬q80<Z0) (c205 : ¬Z0<q73) (c339 : ¬q337<Z0) : q330=(-q80) := by
  subst Ym1 Y0 Y1 e310 e43 e317 e324 e311 e44 e318 e325 e312 e45 e319 e326 e330 e74 e53 e60 e67 e75 e54 e61 e68 e76 e55 e62 e69 e80 e46 e49 e73 e331 e332 e333 e337
  unfold Ort at hp
  obtain ⟨a,b,c,d,e,f,g,h,i,j,k,l,m,n,o,p,q,r,s,t,u,v,w⟩ := hp
  grind

theorem al390 {Zm1 : Rat} (Ym1 : Zm1=(-1 : Rat)) {x12 x16 x20 x17 x19 x13 x18 x15 x14 : Rat} (hp : Ort (-1) x12 x13 x14 x15 x16 x17 x18 x19 x20) : Zm1=(((x12*((x16*x20)-(x17*x19)))+(x13*((x17*x18)-(x15*x20))))+(x14*((x15*x19)-(x16*x18)))) := by
  subst Ym1
  unfold Ort at hp
  obtain ⟨a,b,c,d,e,f,g,h,i,j,k,l,m,n,o,p,q,r,s,t,u,v,w⟩ := hp
  grind

theorem al392 {Zm1 : Rat} (Ym1 : Zm1=(-1 : Rat)) {x12 x16 x20 x17 x19 x18 x15 x13 x14 : Rat} (hp : Ort (-1) x12 x13 x14 x15 x16 x17 x18 x19 x20) : x12=(Zm1*((x16*x20)-(x17*x19))) := by
  subst Ym1
  unfold Ort at hp
  obtain ⟨a,b,c,d,e,f,g,h,i,j,k,l,m,n,o,p,q,r,s,t,u,v,w⟩ := hp
  grind

theorem al394 {Zm1 : Rat} (Ym1 : Zm1=(-1 : Rat)) {x15 x19 x14 x20 x13 x16 x17 x12 x18 : Rat} (hp : Ort (-1) x12 x13 x14 x15 x16 x17 x18 x19 x20) : x15=(Zm1*((x19*x14)-(x20*x13))) := by
  subst Ym1
  unfold Ort at hp
  obtain ⟨a,b,c,d,e,f,g,h,i,j,k,l,m,n,o,p,q,r,s,t,u,v,w⟩ := hp
  grind

theorem al396 {Zm1 : Rat} (Ym1 : Zm1=(-1 : Rat)) {x18 x13 x17 x14 x16 x20 x19 x12 x15 : Rat} (hp : Ort (-1) x12 x13 x14 x15 x16 x17 x18 x19 x20) : x18=(Zm1*((x13*x17)-(x14*x16))) := by
  subst Ym1
  unfold Ort at hp
  obtain ⟨a,b,c,d,e,f,g,h,i,j,k,l,m,n,o,p,q,r,s,t,u,v,w⟩ := hp
  grind

theorem al398 {Zm1 : Rat} (Ym1 : Zm1=(-1 : Rat)) {x13 x17 x18 x15 x20 x16 x19 x12 x14 : Rat} (hp : Ort (-1) x12 x13 x14 x15 x16 x17 x18 x19 x20) : x13=(Zm1*((x17*x18)-(x15*x20))) := by
  subst Ym1
  unfold Ort at hp
  obtain ⟨a,b,c,d,e,f,g,h,i,j,k,l,m,n,o,p,q,r,s,t,u,v,w⟩ := hp
  grind

theorem al400 {Zm1 : Rat} (Ym1 : Zm1=(-1 : Rat)) {x16 x20 x12 x18 x14 x17 x19 x15 x13 : Rat} (hp : Ort (-1) x12 x13 x14 x15 x16 x17 x18 x19 x20) : x16=(Zm1*((x20*x12)-(x18*x14))) := by
  subst Ym1
  unfold Ort at hp
  obtain ⟨a,b,c,d,e,f,g,h,i,j,k,l,m,n,o,p,q,r,s,t,u,v,w⟩ := hp
  grind

theorem al402 {Zm1 : Rat} (Ym1 : Zm1=(-1 : Rat)) {x19 x14 x15 x12 x17 x16 x20 x18 x13 : Rat} (hp : Ort (-1) x12 x13 x14 x15 x16 x17 x18 x19 x20) : x19=(Zm1*((x14*x15)-(x12*x17))) := by
  subst Ym1
  unfold Ort at hp
  obtain ⟨a,b,c,d,e,f,g,h,i,j,k,l,m,n,o,p,q,r,s,t,u,v,w⟩ := hp
  grind

theorem al404 {Zm1 : Rat} (Ym1 : Zm1=(-1 : Rat)) {x14 x15 x19 x16 x18 x20 x17 x12 x13 : Rat} (hp : Ort (-1) x12 x13 x14 x15 x16 x17 x18 x19 x20) : x14=(Zm1*((x15*x19)-(x16*x18))) := by
  subst Ym1
  unfold Ort at hp
  obtain ⟨a,b,c,d,e,f,g,h,i,j,k,l,m,n,o,p,q,r,s,t,u,v,w⟩ := hp
  grind

theorem al406 {Zm1 : Rat} (Ym1 : Zm1=(-1 : Rat)) {x17 x18 x13 x19 x12 x16 x20 x15 x14 : Rat} (hp : Ort (-1) x12 x13 x14 x15 x16 x17 x18 x19 x20) : x17=(Zm1*((x18*x13)-(x19*x12))) := by
  subst Ym1
  unfold Ort at hp
  obtain ⟨a,b,c,d,e,f,g,h,i,j,k,l,m,n,o,p,q,r,s,t,u,v,w⟩ := hp
  grind

theorem al408 {Zm1 : Rat} (Ym1 : Zm1=(-1 : Rat)) {x20 x12 x16 x13 x15 x17 x19 x18 x14 : Rat} (hp : Ort (-1) x12 x13 x14 x15 x16 x17 x18 x19 x20) : x20=(Zm1*((x12*x16)-(x13*x15))) := by
  subst Ym1
  unfold Ort at hp
  obtain ⟨a,b,c,d,e,f,g,h,i,j,k,l,m,n,o,p,q,r,s,t,u,v,w⟩ := hp
  grind

theorem al481 {Zm1 Z0 Z1 : Rat} (Ym1 : Zm1=(-1 : Rat)) (Y0 : Z0=(0 : Rat)) (Y1 : Z1=(1 : Rat)) {q446 q440 x16 x20 x17 x19 x9 x18 x15 x10 x11 q433 q426 q419 x12 x6 x13 x7 x14 x8 x21 x0 q441 q434 q427 q420 x22 x1 q442 q435 q428 q421 x23 x2 q474 q467 q460 q409 q475 q468 q461 q410 q476 q469 q462 q411 q412 x3 x4 x5 q415 q439 : Rat} (e440 : q440=(((((x16*x20)-(x17*x19))*x9)+(((x17*x18)-(x15*x20))*x10))+(((x15*x19)-(x16*x18))*x11))) (e419 : q419=(((x12*x6)+(x13*x7))+(x14*x8))) (e426 : q426=(q419+x21)) (e433 : q433=(q426-x0)) (e441 : q441=(((((x19*x14)-(x20*x13))*x9)+(((x20*x12)-(x18*x14))*x10))+(((x18*x13)-(x19*x12))*x11))) (e420 : q420=(((x15*x6)+(x16*x7))+(x17*x8))) (e427 : q427=(q420+x22)) (e434 : q434=(q427-x1)) (e442 : q442=(((((x13*x17)-(x14*x16))*x9)+(((x14*x15)-(x12*x17))*x10))+(((x12*x16)-(x13*x15))*x11))) (e421 : q421=(((x18*x6)+(x19*x7))+(x20*x8))) (e428 : q428=(q421+x23)) (e435 : q435=(q428-x2)) (e446 : q446=(((q440*q433)+(q441*q434))+(q442*q435))) (e460 : q460=(((x12*x0)+(x15*x1))+(x18*x2))) (e409 : q409=(Zm1*(((x12*x21)+(x15*x22))+(x18*x23)))) (e467 : q467=(q460+q409)) (e474 : q474=(q467-x6)) (e461 : q461=(((x13*x0)+(x16*x1))+(x19*x2))) (e410 : q410=(Zm1*(((x13*x21)+(x16*x22))+(x19*x23)))) (e468 : q468=(q461+q410)) (e475 : q475=(q468-x7)) (e462 : q462=(((x14*x0)+(x17*x1))+(x20*x2))) (e411 : q411=(Zm1*(((x14*x21)+(x17*x22))+(x20*x23)))) (e469 : q469=(q462+q411)) (e476 : q476=(q469-x8)) (e412 : q412=(((x3*x3)+(x4*x4))+(x5*x5))) (e415 : q415=(((x9*x9)+(x10*x10))+(x11*x11))) (e439 : q439=(((q433*x3)+(q434*x4))+(q435*x5))) (hp : Ort (-1) x12 x13 x14 x15 x16 x17 x18 x19 x20) (c413 : q412=Z1) (c418 : q415=Z1) (c448 : q446<Z0) (c451 : Z0<q439) : q446=(((q474*x9)+(q475*x10))+(q476*x11)) := by
  subst Ym1 Y0 Y1 e440 e419 e426 e433 e441 e420 e427 e434 e442 e421 e428 e435 e446 e460 e409 e467 e474 e461 e410 e468 e475 e462 e411 e469 e476 e412 e415 e439
  unfold Ort at hp
  obtain ⟨a,b,c,d,e,f,g,h,i,j,k,l,m,n,o,p,q,r,s,t,u,v,w⟩ := hp
  grind

theorem al489 {Zm1 Z0 Z1 : Rat} (Ym1 : Zm1=(-1 : Rat)) (Y0 : Z0=(0 : Rat)) (Y1 : Z1=(1 : Rat)) {q439 q433 q426 q419 x12 x6 x13 x7 x14 x8 x21 x0 x3 q434 q427 q420 x15 x16 x17 x22 x1 x4 q435 q428 q421 x18 x19 x20 x23 x2 x5 q482 q474 q467 q460 q409 q483 q475 q468 q461 q410 q484 q476 q469 q462 q411 q412 q415 x9 x10 x11 q446 q440 q441 q442 : Rat} (e419 : q419=(((x12*x6)+(x13*x7))+(x14*x8))) (e426 : q426=(q419+x21)) (e433 : q433=(q426-x0)) (e420 : q420=(((x15*x6)+(x16*x7))+(x17*x8))) (e427 : q427=(q420+x22)) (e434 : q434=(q427-x1)) (e421 : q421=(((x18*x6)+(x19*x7))+(x20*x8))) (e428 : q428=(q421+x23)) (e435 : q435=(q428-x2)) (e439 : q439=(((q433*x3)+(q434*x4))+(q435*x5))) (e482 : q482=(((((x16*x20)-(x19*x17))*x3)+(((x19*x14)-(x13*x20))*x4))+(((x13*x17)-(x16*x14))*x5))) (e460 : q460=(((x12*x0)+(x15*x1))+(x18*x2))) (e409 : q409=(Zm1*(((x12*x21)+(x15*x22))+(x18*x23)))) (e467 : q467=(q460+q409)) (e474 : q474=(q467-x6)) (e483 : q483=(((((x17*x18)-(x20*x15))*x3)+(((x20*x12)-(x14*x18))*x4))+(((x14*x15)-(x17*x12))*x5))) (e461 : q461=(((x13*x0)+(x16*x1))+(x19*x2))) (e410 : q410=(Zm1*(((x13*x21)+(x16*x22))+(x19*x23)))) (e468 : q468=(q461+q410)) (e475 : q475=(q468-x7)) (e484 : q484=(((((x15*x19)-(x18*x16))*x3)+(((x18*x13)-(x12*x19))*x4))+(((x12*x16)-(x15*x13))*x5))) (e462 : q462=(((x14*x0)+(x17*x1))+(x20*x2))) (e411 : q411=(Zm1*(((x14*x21)+(x17*x22))+(x20*x23)))) (e469 : q469=(q462+q411)) (e476 : q476=(q469-x8)) (e412 : q412=(((x3*x3)+(x4*x4))+(x5*x5))) (e415 : q415=(((x9*x9)+(x10*x10))+(x11*x11))) (e440 : q440=(((((x16*x20)-(x17*x19))*x9)+(((x17*x18)-(x15*x20))*x10))+(((x15*x19)-(x16*x18))*x11))) (e441 : q441=(((((x19*x14)-(x20*x13))*x9)+(((x20*x12)-(x18*x14))*x10))+(((x18*x13)-(x19*x12))*x11))) (e442 : q442=(((((x13*x17)-(x14*x16))*x9)+(((x14*x15)-(x12*x17))*x10))+(((x12*x16)-(x13*x15))*x11))) (e446 : q446=(((q440*q433)+(q441*q434))+(q442*q435))) (hp : Ort (-1) x12 x13 x14 x15 x16 x17 x18 x19 x20) (c413 : q412=Z1) (c418 : q415=Z1) (c448 : q446<Z0) (c451 : Z0<q439) : q439=(((q482*q474)+(q483*q475))+(q484*q476)) := by
  subst Ym1 Y0 Y1 e419 e426 e433 e420 e427 e434 e421 e428 e435 e439 e482 e460 e409 e467 e474 e483 e461 e410 e468 e475 e484 e462 e411 e469 e476 e412 e415 e440 e441 e442 e446
  unfold Ort at hp
  obtain ⟨a,b,c,d,e,f,g,h,i,j,k,l,m,n,o,p,q,r,s,t,u,v,w⟩ := hp
  grind

theorem al522 {Zm1 Z0 Z1 : Rat} (Ym1 : Zm1=(-1 : Rat)) (Y0 : Z0=(0 : Rat)) (Y1 : Z1=(1 : Rat)) {q446 q440 x16 x20 x17 x19 x9 x18 x15 x10 x11 q433 q426 q419 x12 x6 x13 x7 x14 x8 x21 x0 q441 q434 q427 q420 x22 x1 q442 q435 q428 q421 x23 x2 q515 q508 q501 q409 q516 q509 q502 q410 q517 q510 q503 q411 q412 x3 x4 x5 q415 q439 : Rat} (e440 : q440=(((((x16*x20)-(x17*x19))*x9)+(((x17*x18)-(x15*x20))*x10))+(((x15*x19)-(x16*x18))*x11))) (e419 : q419=(((x12*x6)+(x13*x7))+(x14*x8))) (e426 : q426=(q419+x21)) (e433 : q433=(q426-x0)) (e441 : q441=(((((x19*x14)-(x20*x13))*x9)+(((x20*x12)-(x18*x14))*x10))+(((x18*x13)-(x19*x12))*x11))) (e420 : q420=(((x15*x6)+(x16*x7))+(x17*x8))) (e427 : q427=(q420+x22)) (e434 : q434=(q427-x1)) (e442 : q442=(((((x13*x17)-(x14*x16))*x9)+(((x14*x15)-(x12*x17))*x10))+(((x12*x16)-(x13*x15))*x11))) (e421 : q421=(((x18*x6)+(x19*x7))+(x20*x8))) (e428 : q428=(q421+x23)) (e435 : q435=(q428-x2)) (e446 : q446=(((q440*q433)+(q441*q434))+(q442*q435))) (e501 : q501=(((x12*x0)+(x15*x1))+(x18*x2))) (e409 : q409=(Zm1*(((x12*x21)+(x15*x22))+(x18*x23)))) (e508 : q508=(q501+q409)) (e515 : q515=(q508-x6)) (e502 : q502=(((x13*x0)+(x16*x1))+(x19*x2))) (e410 : q410=(Zm1*(((x13*x21)+(x16*x22))+(x19*x23)))) (e509 : q509=(q502+q410)) (e516 : q516=(q509-x7)) (e503 : q503=(((x14*x0)+(x17*x1))+(x20*x2))) (e411 : q411=(Zm1*(((x14*x21)+(x17*x22))+(x20*x23)))) (e510 : q510=(q503+q411)) (e517 : q517=(q510-x8)) (e412 : q412=(((x3*x3)+(x4*x4))+(x5*x5))) (e415 : q415=(((x9*x9)+(x10*x10))+(x11*x11))) (e439 : q439=(((q433*x3)+(q434*x4))+(q435*x5))) (hp : Ort (-1) x12 x13 x14 x15 x16 x17 x18 x19 x20) (c413 : q412=Z1) (c418 : q415=Z1) (c448 : q446<Z0) (c451 : ¬Z0<q439) : q446=(((q515*x9)+(q516*x10))+(q517*x11)) := by
  subst Ym1 Y0 Y1 e440 e419 e426 e433 e441 e420 e427 e434 e442 e421 e428 e435 e446 e501 e409 e508 e515 e502 e410 e509 e516 e503 e411 e510 e517 e412 e415 e439
  unfold Ort at hp
  obtain ⟨a,b,c,d,e,f,g,h,i,j,k,l,m,n,o,p,q,r,s,t,u,v,w⟩ := hp
  grind

theorem al530 {Zm1 Z0 Z1 : Rat} (Ym1 : Zm1=(-1 : Rat)) (Y0 : Z0=(0 : Rat)) (Y1 : Z1=(1 : Rat)) {q439 q433 q426 q419 x12 x6 x13 x7 x14 x8 x21 x0 x3 q434 q427 q420 x15 x16 x17 x22 x1 x4 q435 q428 q421 x18 x19 x20 x23 x2 x5 q523 q515 q508 q501 q409 q524 q516 q509 q502 q410 q525 q517 q510 q503 q411 q412 q415 x9 x10 x11 q446 q440 q441 q442 : Rat} (e419 : q419=(((x12*x6)+(x13*x7))+(x14*x8))) (e426 : q426=(q419+x21)) (e433 : q433=(q426-x0)) (e420 : q420=(((x15*x6)+(x16*x7))+(x17*x8))) (e427 : q427=(q420+x22)) (e434 : q434=(q427-x1)) (e421 : q421=(((x18*x6)+(x19*x7))+(x20*x8))) (e428 : q428=(q421+x23)) (e435 : q435=(q428-x2)) (e439 : q439=(((q433*x3)+(q434*x4))+(q435*x5))) (e523 : q523=(((((x16*x20)-(x19*x17))*x3)+(((x19*x14)-(x13*x20))*x4))+(((x13*x17)-(x16*x14))*x5))) (e501 : q501=(((x12*x0)+(x15*x1))+(x18*x2))) (e409 : q409=(Zm1*(((x12*x21)+(x15*x22))+(x18*x23)))) (e508 : q508=(q501+q409)) (e515 : q515=(q508-x6)) (e524 : q524=(((((x17*x18)-(x20*x15))*x3)+(((x20*x12)-(x14*x18))*x4))+(((x14*x15)-(x17*x12))*x5))) (e502 : q502=(((x13*x0)+(x16*x1))+(x19*x2))) (e410 : q410=(Zm1*(((x13*x21)+(x16*x22))+(x19*x23)))) (e509 : q509=(q502+q410)) (e516 : q516=(q509-x7)) (e525 : q525=(((((x15*x19)-(x18*x16))*x3)+(((x18*x13)-(x12*x19))*x4))+(((x12*x16)-(x15*x13))*x5))) (e503 : q503=(((x14*x0)+(x17*x1))+(x20*x2))) (e411 : q411=(Zm1*(((x14*x21)+(x17*x22))+(x20*x23)))) (e510 : q510=(q503+q411)) (e517 : q517=(q510-x8)) (e412 : q412=(((x3*x3)+(x4*x4))+(x5*x5))) (e415 : q415=(((x9*x9)+(x10*x10))+(x11*x11))) (e440 : q440=(((((x16*x20)-(x17*x19))*x9)+(((x17*x18)-(x15*x20))*x10))+(((x15*x19)-(x16*x18))*x11))) (e441 : q441=(((((x19*x14)-(x20*x13))*x9)+(((x20*x12)-(x18*x14))*x10))+(((x18*x13)-(x19*x12))*x11))) (e442 : q442=(((((x13*x17)-(x14*x16))*x9)+(((x14*x15)-(x12*x17))*x10))+(((x12*x16)-(x13*x15))*x11))) (e446 : q446=(((q440*q433)+(q441*q434))+(q442*q435))) (hp : Ort (-1) x12 x13 x14 x15 x16 x17 x18 x19 x20) (c413 : q412=Z1) (c418 : q415=Z1) (c448 : q446<Z0) (c451 : ¬Z0<q439) : q439=(((q523*q515)+(q524*q516))+(q525*q517)) := by
  subst Ym1 Y0 Y1 e419 e426 e433 e420 e427 e434 e421 e428 e435 e439 e523 e501 e409 e508 e515 e524 e502 e410 e509 e516 e525 e503 e411 e510 e517 e412 e415 e440 e441 e442 e446
  unfold Ort at hp
  obtain ⟨a,b,c,d,e,f,g,h,i,j,k,l,m,n,o,p,q,r,s,t,u,v,w⟩ := hp
  grind

theorem al571 {Zm1 Z0 Z1 : Rat} (Ym1 : Zm1=(-1 : Rat)) (Y0 : Z0=(0 : Rat)) (Y1 : Z1=(1 : Rat)) {q564 q557 q550 x12 x0 x15 x1 x18 x2 q409 x21 x22 x23 x6 x9 q565 q558 q551 x13 x16 x19 q410 x7 x10 q566 q559 q552 x14 x17 x20 q411 x8 x11 q412 x3 x4 x5 q415 q446 q440 q433 q426 q419 q441 q434 q427 q420 q442 q435 q428 q421 q439 : Rat} (e550 : q550=(((x12*x0)+(x15*x1))+(x18*x2))) (e409 : q409=(Zm1*(((x12*x21)+(x15*x22))+(x18*x23)))) (e557 : q557=(q550+q409)) (e564 : q564=(q557-x6)) (e551 : q551=(((x13*x0)+(x16*x1))+(x19*x2))) (e410 : q410=(Zm1*(((x13*x21)+(x16*x22))+(x19*x23)))) (e558 : q558=(q551+q410)) (e565 : q565=(q558-x7)) (e552 : q552=(((x14*x0)+(x17*x1))+(x20*x2))) (e411 : q411=(Zm1*(((x14*x21)+(x17*x22))+(x20*x23)))) (e559 : q559=(q552+q411)) (e566 : q566=(q559-x8)) (e412 : q412=(((x3*x3)+(x4*x4))+(x5*x5))) (e415 : q415=(((x9*x9)+(x10*x10))+(x11*x11))) (e440 : q440=(((((x16*x20)-(x17*x19))*x9)+(((x17*x18)-(x15*x20))*x10))+(((x15*x19)-(x16*x18))*x11))) (e419 : q419=(((x12*x6)+(x13*x7))+(x14*x8))) (e426 : q426=(q419+x21)) (e433 : q433=(q426-x0)) (e441 : q441=(((((x19*x14)-(x20*x13))*x9)+(((x20*x12)-(x18*x14))*x10))+(((x18*x13)-(x19*x12))*x11))) (e420 : q420=(((x15*x6)+(x16*x7))+(x17*x8))) (e427 : q427=(q420+x22)) (e434 : q434=(q427-x1)) (e442 : q442=(((((x13*x17)-(x14*x16))*x9)+(((x14*x15)-(x12*x17))*x10))+(((x12*x16)-(x13*x15))*x11))) (e421 : q421=(((x18*x6)+(x19*x7))+(x20*x8))) (e428 : q428=(q421+x23)) (e435 : q435=(q428-x2)) (e446 : q446=(((q440*q433)+(q441*q434))+(q442*q435))) (e439 : q439=(((q433*x3)+(q434*x4))+(q435*x5))) (hp : Ort (-1) x12 x13 x14 x15 x16 x17 x18 x19 x20) (c413 : q412=Z1) (c418 : q415=Z1) (c448 : ¬q446<Z0) (c540 : Z0<q439) (c542 : q446=Z0) : Z0=(((q564*x9)+(q565*x10))+(q566*x11)) := by
  subst Ym1 Y0 Y1 e550 e409 e557 e564 e551 e410 e558 e565 e552 e411 e559 e566 e412 e415 e440 e419 e426 e433 e441 e420 e427 e434 e442 e421 e428 e435 e446 e439
  unfold Ort at hp
  obtain ⟨a,b,c,d,e,f,g,h,i,j,k,l,m,n,o,p,q,r,s,t,u,v,w⟩ := hp
  grind

theorem al579 {Zm1 Z0 Z1 : Rat} (Ym1 : Zm1=(-1 : Rat)) (Y0 : Z0=(0 : Rat)) (Y1 : Z1=(1 : Rat)) {q439 q433 q426 q419 x12 x6 x13 x7 x14 x8 x21 x0 x3 q434 q427 q420 x15 x16 x17 x22 x1 x4 q435 q428 q421 x18 x19 x20 x23 x2 x5 q572 q564 q557 q550 q409 q573 q565 q558 q551 q410 q574 q566 q559 q552 q411 q412 q415 x9 x10 x11 q446 q440 q441 q442 : Rat} (e419 : q419=(((x12*x6)+(x13*x7))+(x14*x8))) (e426 : q426=(q419+x21)) (e433 : q433=(q426-x0)) (e420 : q420=(((x15*x6)+(x16*x7))+(x17*x8))) (e427 : q427=(q420+x22)) (e434 : q434=(q427-x1)) (e421 : q421=(((x18*x6)+(x19*x7))+(x20*x8))) (e428 : q428=(q421+x23)) (e435 : q435=(q428-x2)) (e439 : q439=(((q433*x3)+(q434*x4))+(q435*x5))) (e572 : q572=(((((x16*x20)-(x19*x17))*x3)+(((x19*x14)-(x13*x20))*x4))+(((x13*x17)-(x16*x14))*x5))) (e550 : q550=(((x12*x0)+(x15*x1))+(x18*x2))) (e409 : q409=(Zm1*(((x12*x21)+(x15*x22))+(x18*x23)))) (e557 : q557=(q550+q409)) (e564 : q564=(q557-x6)) (e573 : q573=(((((x17*x18)-(x20*x15))*x3)+(((x20*x12)-(x14*x18))*x4))+(((x14*x15)-(x17*x12))*x5))) (e551 : q551=(((x13*x0)+(x16*x1))+(x19*x2))) (e410 : q410=(Zm1*(((x13*x21)+(x16*x22))+(x19*x23)))) (e558 : q558=(q551+q410)) (e565 : q565=(q558-x7)) (e574 : q574=(((((x15*x19)-(x18*x16))*x3)+(((x18*x13)-(x12*x19))*x4))+(((x12*x16)-(x15*x13))*x5))) (e552 : q552=(((x14*x0)+(x17*x1))+(x20*x2))) (e411 : q411=(Zm1*(((x14*x21)+(x17*x22))+(x20*x23)))) (e559 : q559=(q552+q411)) (e566 : q566=(q559-x8)) (e412 : q412=(((x3*x3)+(x4*x4))+(x5*x5))) (e415 : q415=(((x9*x9)+(x10*x10))+(x11*x11))) (e440 : q440=(((((x16*x20)-(x17*x19))*x9)+(((x17*x18)-(x15*x20))*x10))+(((x15*x19)-(x16*x18))*x11))) (e441 : q441=(((((x19*x14)-(x20*x13))*x9)+(((x20*x12)-(x18*x14))*x10))+(((x18*x13)-(x19*x12))*x11))) (e442 : q442=(((((x13*x17)-(x14*x16))*x9)+(((x14*x15)-(x12*x17))*x10))+(((x12*x16)-(x13*x15))*x11))) (e446 : q446=(((q440*q433)+(q441*q434))+(q442*q435))) (hp : Ort (-1) x12 x13 x14 x15 x16 x17 x18 x19 x20) (c413 : q412=Z1) (c418 : q415=Z1) (c448 : ¬q446<Z0) (c540 : Z0<q439) (c542 : q446=Z0) : q439=(((q572*q564)+(q573*q565))+(q574*q566)) := by
  subst Ym1 Y0 Y1 e419 e426 e433 e420 e427 e434 e421 e428 e435 e439 e572 e550 e409 e557 e564 e573 e551 e410 e558 e565 e574 e552 e411 e559 e566 e412 e415 e440 e441 e442 e446
  unfold Ort at hp
  obtain ⟨a,b,c,d,e,f,g,h,i,j,k,l,m,n,o,p,q,r,s,t,u,v,w⟩ := hp
  grind

theorem al593 {Z0 Z1 : Rat} (Y0 : Z0=(0 : Rat)) (Y1 : Z1=(1 : Rat)) {q584 q433 q426 q419 x12 x6 x13 x7 x14 x8 x21 x0 q434 q427 q420 x15 x16 x17 x22 x1 q435 q428 q421 x18 x19 x20 x23 x2 q412 x3 x4 x5 q415 x9 x10 x11 q446 q440 q441 q442 q439 : Rat} (e419 : q419=(((x12*x6)+(x13*x7))+(x14*x8))) (e426 : q426=(q419+x21)) (e433 : q433=(q426-x0)) (e420 : q420=(((x15*x6)+(x16*x7))+(x17*x8))) (e427 : q427=(q420+x22)) (e434 : q434=(q427-x1)) (e421 : q421=(((x18*x6)+(x19*x7))+(x20*x8))) (e428 : q428=(q421+x23)) (e435 : q435=(q428-x2)) (e584 : q584=(((q433*q433)+(q434*q434))+(q435*q435))) (e412 : q412=(((x3*x3)+(x4*x4))+(x5*x5))) (e415 : q415=(((x9*x9)+(x10*x10))+(x11*x11))) (e440 : q440=(((((x16*x20)-(x17*x19))*x9)+(((x17*x18)-(x15*x20))*x10))+(((x15*x19)-(x16*x18))*x11))) (e441 : q441=(((((x19*x14)-(x20*x13))*x9)+(((x20*x12)-(x18*x14))*x10))+(((x18*x13)-(x19*x12))*x11))) (e442 : q442=(((((x13*x17)-(x14*x16))*x9)+(((x14*x15)-(x12*x17))*x10))+(((x12*x16)-(x13*x15))*x11))) (e446 : q446=(((q440*q433)+(q441*q434))+(q442*q435))) (e439 : q439=(((q433*x3)+(q434*x4))+(q435*x5))) (hp : Ort (-1) x12 x13 x14 x15 x16 x17 x18 x19 x20) (c413 : q412=Z1) (c418 : q415=Z1) (c448 : ¬q446<Z0) (c540 : Z0<q439) (c542 : ¬q446=Z0) : (Z0<q584) := by
  unfold Ort at hp
  obtain ⟨o0,o1,o2,o3,o4,o5,o6,o7,o8,o9,o10,o11,o12,o13,o14,o15,o16,o17,o18,o19,o20,o21,o22⟩ := hp
  subst Y1 Y0
  rw [e584]
  exact far_pos (n0 := x3) (n1 := x4) (n2 := x5) (by rw [← e439]; exact c540)

theorem al623 {Zm1 Z0 Z1 : Rat} (Ym1 : Zm1=(-1 : Rat)) (Y0 : Z0=(0 : Rat)) (Y1 : Z1=(1 : Rat)) {q446 q440 x16 x20 x17 x19 x9 x18 x15 x10 x11 q433 q426 q419 x12 x6 x13 x7 x14 x8 x21 x0 q441 q434 q427 q420 x22 x1 q442 q435 q428 q421 x23 x2 q616 q609 q602 q409 q617 q610 q603 q410 q618 q611 q604 q411 q412 x3 x4 x5 q415 q439 q584 q589 : Rat} (e440 : q440=(((((x16*x20)-(x17*x19))*x9)+(((x17*x18)-(x15*x20))*x10))+(((x15*x19)-(x16*x18))*x11))) (e419 : q419=(((x12*x6)+(x13*x7))+(x14*x8))) (e426 : q426=(q419+x21)) (e433 : q433=(q426-x0)) (e441 : q441=(((((x19*x14)-(x20*x13))*x9)+(((x20*x12)-(x18*x14))*x10))+(((x18*x13)-(x19*x12))*x11))) (e420 : q420=(((x15*x6)+(x16*x7))+(x17*x8))) (e427 : q427=(q420+x22)) (e434 : q434=(q427-x1)) (e442 : q442=(((((x13*x17)-(x14*x16))*x9)+(((x14*x15)-(x12*x17))*x10))+(((x12*x16)-(x13*x15))*x11))) (e421 : q421=(((x18*x6)+(x19*x7))+(x20*x8))) (e428 : q428=(q421+x23)) (e435 : q435=(q428-x2)) (e446 : q446=(((q440*q433)+(q441*q434))+(q442*q435))) (e602 : q602=(((x12*x0)+(x15*x1))+(x18*x2))) (e409 : q409=(Zm1*(((x12*x21)+(x15*x22))+(x18*x23)))) (e609 : q609=(q602+q409)) (e616 : q616=(q609-x6)) (e603 : q603=(((x13*x0)+(x16*x1))+(x19*x2))) (e410 : q410=(Zm1*(((x13*x21)+(x16*x22))+(x19*x23)))) (e610 : q610=(q603+q410)) (e617 : q617=(q610-x7)) (e604 : q604=(((x14*x0)+(x17*x1))+(x20*x2))) (e411 : q411=(Zm1*(((x14*x21)+(x17*x22))+(x20*x23)))) (e611 : q611=(q604+q411)) (e618 : q618=(q611-x8)) (e412 : q412=(((x3*x3)+(x4*x4))+(x5*x5))) (e415 : q415=(((x9*x9)+(x10*x10))+(x11*x11))) (e439 : q439=(((q433*x3)+(q434*x4))+(q435*x5))) (e584 : q584=(((q433*q433)+(q434*q434))+(q435*q435))) (e589 : q589=(q584*q584)) (hp : Ort (-1) x12 x13 x14 x15 x16 x17 x18 x19 x20) (c413 : q412=Z1) (c418 : q415=Z1) (c448 : ¬q446<Z0) (c540 : Z0<q439) (c542 : ¬q446=Z0) (c592 : Z0<q584) (c594 : ¬q589=Z0) : q446=(((q616*x9)+(q617*x10))+(q618*x11)) := by
  subst Ym1 Y0 Y1 e440 e419 e426 e433 e441 e420 e427 e434 e442 e421 e428 e435 e446 e602 e409 e609 e616 e603 e410 e610 e617 e604 e411 e611 e618 e412 e415 e439 e584 e589
  unfold Ort at hp
  obtain ⟨a,b,c,d,e,f,g,h,i,j,k,l,m,n,o,p,q,r,s,t,u,v,w⟩ := hp
  grind

theorem al631 {Zm1 Z0 Z1 : Rat} (Ym1 : Zm1=(-1 : Rat)) (Y0 : Z0=(0 : Rat)) (Y1 : Z1=(1 : Rat)) {q439 q433 q426 q419 x12 x6 x13 x7 x14 x8 x21 x0 x3 q434 q427 q420 x15 x16 x17 x22 x1 x4 q435 q428 q421 x18 x19 x20 x23 x2 x5 q624 q616 q609 q602 q409 q625 q617 q610 q603 q410 q626 q618 q611 q604 q411 q412 q415 x9 x10 x11 q446 q440 q441 q442 q584 q589 : Rat} (e419 : q419=(((x12*x6)+(x13*x7))+(x14*x8))) (e426 : q426=(q419+x21)) (e433 : q433=(q426-x0)) (e420 : q420=(((x15*x6)+(x16*x7))+(x17*x8))) (e427 : q427=(q420+x22)) (e434 : q434=(q427-x1)) (e421 : q421=(((x18*x6)+(x19*x7))+(x20*x8))) (e428 : q428=(q421+x23)) (e435 : q435=(q428-x2)) (e439 : q439=(((q433*x3)+(q434*x4))+(q435*x5))) (e624 : q624=(((((x16*x20)-(x19*x17))*x3)+(((x19*x14)-(x13*x20))*x4))+(((x13*x17)-(x16*x14))*x5))) (e602 : q602=(((x12*x0)+(x15*x1))+(x18*x2))) (e409 : q409=(Zm1*(((x12*x21)+(x15*x22))+(x18*x23)))) (e609 : q609=(q602+q409)) (e616 : q616=(q609-x6)) (e625 : q625=(((((x17*x18)-(x20*x15))*x3)+(((x20*x12)-(x14*x18))*x4))+(((x14*x15)-(x17*x12))*x5))) (e603 : q603=(((x13*x0)+(x16*x1))+(x19*x2))) (e410 : q410=(Zm1*(((x13*x21)+(x16*x22))+(x19*x23)))) (e610 : q610=(q603+q410)) (e617 : q617=(q610-x7)) (e626 : q626=(((((x15*x19)-(x18*x16))*x3)+(((x18*x13)-(x12*x19))*x4))+(((x12*x16)-(x15*x13))*x5))) (e604 : q604=(((x14*x0)+(x17*x1))+(x20*x2))) (e411 : q411=(Zm1*(((x14*x21)+(x17*x22))+(x20*x23)))) (e611 : q611=(q604+q411)) (e618 : q618=(q611-x8)) (e412 : q412=(((x3*x3)+(x4*x4))+(x5*x5))) (e415 : q415=(((x9*x9)+(x10*x10))+(x11*x11))) (e440 : q440=(((((x16*x20)-(x17*x19))*x9)+(((x17*x18)-(x15*x20))*x10))+(((x15*x19)-(x16*x18))*x11))) (e441 : q441=(((((x19*x14)-(x20*x13))*x9)+(((x20*x12)-(x18*x14))*x10))+(((x18*x13)-(x19*x12))*x11))) (e442 : q442=(((((x13*x17)-(x14*x16))*x9)+(((x14*x15)-(x12*x17))*x10))+(((x12*x16)-(x13*x15))*x11))) (e446 : q446=(((q440*q433)+(q441*q434))+(q442*q435))) (e584 : q584=(((q433*q433)+(q434*q434))+(q435*q435))) (e589 : q589=(q584*q584)) (hp : Ort (-1) x12 x13 x14 x15 x16 x17 x18 x19 x20) (c413 : q412=Z1) (c418 : q415=Z1) (c448 : ¬q446<Z0) (c540 : Z0<q439) (c542 : ¬q446=Z0) (c592 : Z0<q584) (c594 : ¬q589=Z0) : q439=(((q624*q616)+(q625*q617))+(q626*q618)) := by
  subst Ym1 Y0 Y1 e419 e426 e433 e420 e427 e434 e421 e428 e435 e439 e624 e602 e409 e609 e616 e625 e603 e410 e610 e617 e626 e604 e411 e611 e618 e412 e415 e440 e441 e442 e446 e584 e589
  unfold Ort at hp
  obtain ⟨a,b,c,d,e,f,g,h,i,j,k,l,m,n,o,p,q,r,s,t,u,v,w⟩ := hp
  grind

theorem al633 {Zm1 Z0 Z1 : Rat} (Ym1 : Zm1=(-1 : Rat)) (Y0 : Z0=(0 : Rat)) (Y1 : Z1=(1 : Rat)) {x12 x16 x20 x19 x17 x15 x14 x13 x18 q412 x3 x4 x5 q415 x9 x10 x11 q446 q440 q433 q426 q419 x6 x7 x8 x21 x0 q441 q434 q427 q420 x22 x1 q442 q435 q428 q421 x23 x2 q439 q584 q589 : Rat} (e412 : q412=(((x3*x3)+(x4*x4))+(x5*x5))) (e415 : q415=(((x9*x9)+(x10*x10))+(x11*x11))) (e440 : q440=(((((x16*x20)-(x17*x19))*x9)+(((x17*x18)-(x15*x20))*x10))+(((x15*x19)-(x16*x18))*x11))) (e419 : q419=(((x12*x6)+(x13*x7))+(x14*x8))) (e426 : q426=(q419+x21)) (e433 : q433=(q426-x0)) (e441 : q441=(((((x19*x14)-(x20*x13))*x9)+(((x20*x12)-(x18*x14))*x10))+(((x18*x13)-(x19*x12))*x11))) (e420 : q420=(((x15*x6)+(x16*x7))+(x17*x8))) (e427 : q427=(q420+x22)) (e434 : q434=(q427-x1)) (e442 : q442=(((((x13*x17)-(x14*x16))*x9)+(((x14*x15)-(x12*x17))*x10))+(((x12*x16)-(x13*x15))*x11))) (e421 : q421=(((x18*x6)+(x19*x7))+(x20*x8))) (e428 : q428=(q421+x23)) (e435 : q435=(q428-x2)) (e446 : q446=(((q440*q433)+(q441*q434))+(q442*q435))) (e439 : q439=(((q433*x3)+(q434*x4))+(q435*x5))) (e584 : q584=(((q433*q433)+(q434*q434))+(q435*q435))) (e589 : q589=(q584*q584)) (hp : Ort (-1) x12 x13 x14 x15 x16 x17 x18 x19 x20) (c413 : q412=Z1) (c418 : q415=Z1) (c448 : ¬q446<Z0) (c540 : Z0<q439) (c542 : ¬q446=Z0) (c592 : Z0<q584) (c594 : ¬q589=Z0) : Zm1=(((x12*((x16*x20)-(x19*x17)))+(x15*((x19*x14)-(x13*x20))))+(x18*((x13*x17)-(x16*x14)))) := by
  subst Ym1 Y0 Y1 e412 e415 e440 e419 e426 e433 e441 e420 e427 e434 e442 e421 e428 e435 e446 e439 e584 e589
  unfold Ort at hp
  obtain ⟨a,b,c,d,e,f,g,h,i,j,k,l,m,n,o,p,q,r,s,t,u,v,w⟩ := hp
  grind

theorem al636 {Zm1 Z0 Z1 : Rat} (Ym1 : Zm1=(-1 : Rat)) (Y0 : Z0=(0 : Rat)) (Y1 : Z1=(1 : Rat)) {q584 q433 q426 q419 x12 x6 x13 x7 x14 x8 x21 x0 q434 q427 q420 x15 x16 x17 x22 x1 q435 q428 q421 x18 x19 x20 x23 x2 q616 q609 q602 q409 q617 q610 q603 q410 q618 q611 q604 q411 q412 x3 x4 x5 q415 x9 x10 x11 q446 q440 q441 q442 q439 q589 : Rat} (e419 : q419=(((x12*x6)+(x13*x7))+(x14*x8))) (e426 : q426=(q419+x21)) (e433 : q433=(q426-x0)) (e420 : q420=(((x15*x6)+(x16*x7))+(x17*x8))) (e427 : q427=(q420+x22)) (e434 : q434=(q427-x1)) (e421 : q421=(((x18*x6)+(x19*x7))+(x20*x8))) (e428 : q428=(q421+x23)) (e435 : q435=(q428-x2)) (e584 : q584=(((q433*q433)+(q434*q434))+(q435*q435))) (e602 : q602=(((x12*x0)+(x15*x1))+(x18*x2))) (e409 : q409=(Zm1*(((x12*x21)+(x15*x22))+(x18*x23)))) (e609 : q609=(q602+q409)) (e616 : q616=(q609-x6)) (e603 : q603=(((x13*x0)+(x16*x1))+(x19*x2))) (e410 : q410=(Zm1*(((x13*x21)+(x16*x22))+(x19*x23)))) (e610 : q610=(q603+q410)) (e617 : q617=(q610-x7)) (e604 : q604=(((x14*x0)+(x17*x1))+(x20*x2))) (e411 : q411=(Zm1*(((x14*x21)+(x17*x22))+(x20*x23)))) (e611 : q611=(q604+q411)) (e618 : q618=(q611-x8)) (e412 : q412=(((x3*x3)+(x4*x4))+(x5*x5))) (e415 : q415=(((x9*x9)+(x10*x10))+(x11*x11))) (e440 : q440=(((((x16*x20)-(x17*x19))*x9)+(((x17*x18)-(x15*x20))*x10))+(((x15*x19)-(x16*x18))*x11))) (e441 : q441=(((((x19*x14)-(x20*x13))*x9)+(((x20*x12)-(x18*x14))*x10))+(((x18*x13)-(x19*x12))*x11))) (e442 : q442=(((((x13*x17)-(x14*x16))*x9)+(((x14*x15)-(x12*x17))*x10))+(((x12*x16)-(x13*x15))*x11))) (e446 : q446=(((q440*q433)+(q441*q434))+(q442*q435))) (e439 : q439=(((q433*x3)+(q434*x4))+(q435*x5))) (e589 : q589=(q584*q584)) (hp : Ort (-1) x12 x13 x14 x15 x16 x17 x18 x19 x20) (c413 : q412=Z1) (c418 : q415=Z1) (c448 : ¬q446<Z0) (c540 : Z0<q439) (c542 : ¬q446=Z0) (c592 : Z0<q584) (c594 : ¬q589=Z0) : q584=(((q616*q616)+(q617*q617))+(q618*q618)) := by
  subst Ym1 Y0 Y1 e419 e426 e433 e420 e427 e434 e421 e428 e435 e584 e602 e409 e609 e616 e603 e410 e610 e617 e604 e411 e611 e618 e412 e415 e440 e441 e442 e446 e439 e589
  unfold Ort at hp
  obtain ⟨a,b,c,d,e,f,g,h,i,j,k,l,m,n,o,p,q,r,s,t,u,v,w⟩ := hp
  grind

theorem al639 {Z0 Z1 : Rat} (Y0 : Z0=(0 : Rat)) (Y1 : Z1=(1 : Rat)) {q586 q439 q433 q426 q419 x12 x6 x13 x7 x14 x8 x21 x0 x3 q434 q427 q420 x15 x16 x17 x22 x1 x4 q435 q428 q421 x18 x19 x20 x23 x2 x5 q446 q440 x9 x10 x11 q441 q442 q412 q415 q584 q589 : Rat} (e419 : q419=(((x12*x6)+(x13*x7))+(x14*x8))) (e426 : q426=(q419+x21)) (e433 : q433=(q426-x0)) (e420 : q420=(((x15*x6)+(x16*x7))+(x17*x8))) (e427 : q427=(q420+x22)) (e434 : q434=(q427-x1)) (e421 : q421=(((x18*x6)+(x19*x7))+(x20*x8))) (e428 : q428=(q421+x23)) (e435 : q435=(q428-x2)) (e439 : q439=(((q433*x3)+(q434*x4))+(q435*x5))) (e440 : q440=(((((x16*x20)-(x17*x19))*x9)+(((x17*x18)-(x15*x20))*x10))+(((x15*x19)-(x16*x18))*x11))) (e441 : q441=(((((x19*x14)-(x20*x13))*x9)+(((x20*x12)-(x18*x14))*x10))+(((x18*x13)-(x19*x12))*x11))) (e442 : q442=(((((x13*x17)-(x14*x16))*x9)+(((x14*x15)-(x12*x17))*x10))+(((x12*x16)-(x13*x15))*x11))) (e446 : q446=(((q440*q433)+(q441*q434))+(q442*q435))) (e586 : q586=(q439*q446)) (e412 : q412=(((x3*x3)+(x4*x4))+(x5*x5))) (e415 : q415=(((x9*x9)+(x10*x10))+(x11*x11))) (e584 : q584=(((q433*q433)+(q434*q434))+(q435*q435))) (e589 : q589=(q584*q584)) (hp : Ort (-1) x12 x13 x14 x15 x16 x17 x18 x19 x20) (c413 : q412=Z1) (c418 : q415=Z1) (c448 : ¬q446<Z0) (c540 : Z0<q439) (c542 : ¬q446=Z0) (c592 : Z0<q584) (c594 : ¬q589=Z0) : q586=(q446*q439) := by
  subst Y0 Y1 e419 e426 e433 e420 e427 e434 e421 e428 e435 e439 e440 e441 e442 e446 e586 e412 e415 e584 e589
  unfold Ort at hp
  obtain ⟨a,b,c,d,e,f,g,h,i,j,k,l,m,n,o,p,q,r,s,t,u,v,w⟩ := hp
  grind

theorem al672 {Zm1 Z0 Z1 : Rat} (Ym1 : Zm1=(-1 : Rat)) (Y0 : Z0=(0 : Rat)) (Y1 : Z1=(1 : Rat)) {q446 q440 x16 x20 x17 x19 x9 x18 x15 x10 x11 q433 q426 q419 x12 x6 x13 x7 x14 x8 x21 x0 q441 q434 q427 q420 x22 x1 q442 q435 q428 q421 x23 x2 q665 q658 q651 q409 q666 q659 q652 q410 q667 q660 q653 q411 q412 x3 x4 x5 q415 q439 : Rat} (e440 : q440=(((((x16*x20)-(x17*x19))*x9)+(((x17*x18)-(x15*x20))*x10))+(((x15*x19)-(x16*x18))*x11))) (e419 : q419=(((x12*x6)+(x13*x7))+(x14*x8))) (e426 : q426=(q419+x21)) (e433 : q433=(q426-x0)) (e441 : q441=(((((x19*x14)-(x20*x13))*x9)+(((x20*x12)-(x18*x14))*x10))+(((x18*x13)-(x19*x12))*x11))) (e420 : q420=(((x15*x6)+(x16*x7))+(x17*x8))) (e427 : q427=(q420+x22)) (e434 : q434=(q427-x1)) (e442 : q442=(((((x13*x17)-(x14*x16))*x9)+(((x14*x15)-(x12*x17))*x10))+(((x12*x16)-(x13*x15))*x11))) (e421 : q421=(((x18*x6)+(x19*x7))+(x20*x8))) (e428 : q428=(q421+x23)) (e435 : q435=(q428-x2)) (e446 : q446=(((q440*q433)+(q441*q434))+(q442*q435))) (e651 : q651=(((x12*x0)+(x15*x1))+(x18*x2))) (e409 : q409=(Zm1*(((x12*x21)+(x15*x22))+(x18*x23)))) (e658 : q658=(q651+q409)) (e665 : q665=(q658-x6)) (e652 : q652=(((x13*x0)+(x16*x1))+(x19*x2))) (e410 : q410=(Zm1*(((x13*x21)+(x16*x22))+(x19*x23)))) (e659 : q659=(q652+q410)) (e666 : q666=(q659-x7)) (e653 : q653=(((x14*x0)+(x17*x1))+(x20*x2))) (e411 : q411=(Zm1*(((x14*x21)+(x17*x22))+(x20*x23)))) (e660 : q660=(q653+q411)) (e667 : q667=(q660-x8)) (e412 : q412=(((x3*x3)+(x4*x4))+(x5*x5))) (e415 : q415=(((x9*x9)+(x10*x10))+(x11*x11))) (e439 : q439=(((q433*x3)+(q434*x4))+(q435*x5))) (hp : Ort (-1) x12 x13 x14 x15 x16 x17 x18 x19 x20) (c413 : q412=Z1) (c418 : q415=Z1) (c448 : ¬q446<Z0) (c540 : ¬Z0<q439) : q446=(((q665*x9)+(q666*x10))+(q667*x11)) := by
  subst Ym1 Y0 Y1 e440 e419 e426 e433 e441 e420 e427 e434 e442 e421 e428 e435 e446 e651 e409 e658 e665 e652 e410 e659 e666 e653 e411 e660 e667 e412 e415 e439
  unfold Ort at hp
  obtain ⟨a,b,c,d,e,f,g,h,i,j,k,l,m,n,o,p,q,r,s,t,u,v,w⟩ := hp
  grind

theorem al680 {Zm1 Z0 Z1 : Rat} (Ym1 : Zm1=(-1 : Rat)) (Y0 : Z0=(0 : Rat)) (Y1 : Z1=(1 : Rat)) {q439 q433 q426 q419 x12 x6 x13 x7 x14 x8 x21 x0 x3 q434 q427 q420 x15 x16 x17 x22 x1 x4 q435 q428 q421 x18 x19 x20 x23 x2 x5 q673 q665 q658 q651 q409 q674 q666 q659 q652 q410 q675 q667 q660 q653 q411 q412 q415 x9 x10 x11 q446 q440 q441 q442 : Rat} (e419 : q419=(((x12*x6)+(x13*x7))+(x14*x8))) (e426 : q426=(q419+x21)) (e433 : q433=(q426-x0)) (e420 : q420=(((x15*x6)+(x16*x7))+(x17*x8))) (e427 : q427=(q420+x22)) (e434 : q434=(q427-x1)) (e421 : q421=(((x18*x6)+(x19*x7))+(x20*x8))) (e428 : q428=(q421+x23)) (e435 : q435=(q428-x2)) (e439 : q439=(((q433*x3)+(q434*x4))+(q435*x5))) (e673 : q673=(((((x16*x20)-(x19*x17))*x3)+(((x19*x14)-(x13*x20))*x4))+(((x13*x17)-(x16*x14))*x5))) (e651 : q651=(((x12*x0)+(x15*x1))+(x18*x2))) (e409 : q409=(Zm1*(((x12*x21)+(x15*x22))+(x18*x23)))) (e658 : q658=(q651+q409)) (e665 : q665=(q658-x6)) (e674 : q674=(((((x17*x18)-(x20*x15))*x3)+(((x20*x12)-(x14*x18))*x4))+(((x14*x15)-(x17*x12))*x5))) (e652 : q652=(((x13*x0)+(x16*x1))+(x19*x2))) (e410 : q410=(Zm1*(((x13*x21)+(x16*x22))+(x19*x23)))) (e659 : q659=(q652+q410)) (e666 : q666=(q659-x7)) (e675 : q675=(((((x15*x19)-(x18*x16))*x3)+(((x18*x13)-(x12*x19))*x4))+(((x12*x16)-(x15*x13))*x5))) (e653 : q653=(((x14*x0)+(x17*x1))+(x20*x2))) (e411 : q411=(Zm1*(((x14*x21)+(x17*x22))+(x20*x23)))) (e660 : q660=(q653+q411)) (e667 : q667=(q660-x8)) (e412 : q412=(((x3*x3)+(x4*x4))+(x5*x5))) (e415 : q415=(((x9*x9)+(x10*x10))+(x11*x11))) (e440 : q440=(((((x16*x20)-(x17*x19))*x9)+(((x17*x18)-(x15*x20))*x10))+(((x15*x19)-(x16*x18))*x11))) (e441 : q441=(((((x19*x14)-(x20*x13))*x9)+(((x20*x12)-(x18*x14))*x10))+(((x18*x13)-(x19*x12))*x11))) (e442 : q442=(((((x13*x17)-(x14*x16))*x9)+(((x14*x15)-(x12*x17))*x10))+(((x12*x16)-(x13*x15))*x11))) (e446 : q446=(((q440*q433)+(q441*q434))+(q442*q435))) (hp : Ort (-1) x12 x13 x14 x15 x16 x17 x18 x19 x20) (c413 : q412=Z1) (c418 : q415=Z1) (c448 : ¬q446<Z0) (c540 : ¬Z0<q439) : q439=(((q673*q665)+(q674*q666))+(q675*q667)) := by
  subst Ym1 Y0 Y1 e419 e426 e433 e420 e427 e434 e421 e428 e435 e439 e673 e651 e409 e658 e665 e674 e652 e410 e659 e666 e675 e653 e411 e660 e667 e412 e415 e440 e441 e442 e446
  unfold Ort at hp
  obtain ⟨a,b,c,d,e,f,g,h,i,j,k,l,m,n,o,p,q,r,s,t,u,v,w⟩ := hp
  grind

theorem al685 {Zm1 Z0 Z1 : Rat} (Ym1 : Zm1=(-1 : Rat)) (Y0 : Z0=(0 : Rat)) (Y1 : Z1=(1 : Rat)) {x12 x16 x20 x19 x17 x15 x14 x13 x18 q412 x3 x4 x5 q415 x9 x10 x11 q446 q440 q433 q426 q419 x6 x7 x8 x21 x0 q441 q434 q427 q420 x22 x1 q442 q435 q428 q421 x23 x2 q439 : Rat} (e412 : q412=(((x3*x3)+(x4*x4))+(x5*x5))) (e415 : q415=(((x9*x9)+(x10*x10))+(x11*x11))) (e440 : q440=(((((x16*x20)-(x17*x19))*x9)+(((x17*x18)-(x15*x20))*x10))+(((x15*x19)-(x16*x18))*x11))) (e419 : q419=(((x12*x6)+(x13*x7))+(x14*x8))) (e426 : q426=(q419+x21)) (e433 : q433=(q426-x0)) (e441 : q441=(((((x19*x14)-(x20*x13))*x9)+(((x20*x12)-(x18*x14))*x10))+(((x18*x13)-(x19*x12))*x11))) (e420 : q420=(((x15*x6)+(x16*x7))+(x17*x8))) (e427 : q427=(q420+x22)) (e434 : q434=(q427-x1)) (e442 : q442=(((((x13*x17)-(x14*x16))*x9)+(((x14*x15)-(x12*x17))*x10))+(((x12*x16)-(x13*x15))*x11))) (e421 : q421=(((x18*x6)+(x19*x7))+(x20*x8))) (e428 : q428=(q421+x23)) (e435 : q435=(q428-x2)) (e446 : q446=(((q440*q433)+(q441*q434))+(q442*q435))) (e439 : q439=(((q433*x3)+(q434*x4))+(q435*x5))) (hp : Ort (-1) x12 x13 x14 x15 x16 x17 x18 x19 x20) (c413 : q412=Z1) (c418 : q415=Z1) (c448 : ¬q446<Z0) (c540 : ¬Z0<q439) (c681 : q439<Z0) (c683 : Z0<q446) : Zm1=(((x12*((x16*x20)-(x19*x17)))+(x15*((x19*x14)-(x13*x20))))+(x18*((x13*x17)-(x16*x14)))) := by
  subst Ym1 Y0 Y1 e412 e415 e440 e419 e426 e433 e441 e420 e427 e434 e442 e421 e428 e435 e446 e439
  unfold Ort at hp
  obtain ⟨a,b,c,d,e,f,g,h,i,j,k,l,m,n,o,p,q,r,s,t,u,v,w⟩ := hp
  grind

theorem al694 {Zm1 Z0 Z1 : Rat} (Ym1 : Zm1=(-1 : Rat)) (Y0 : Z0=(0 : Rat)) (Y1 : Z1=(1 : Rat)) {x12 x16 x20 x19 x17 x15 x14 x13 x18 q412 x3 x4 x5 q415 x9 x10 x11 q446 q440 q433 q426 q419 x6 x7 x8 x21 x0 q441 q434 q427 q420 x22 x1 q442 q435 q428 q421 x23 x2 q439 : Rat} (e412 : q412=(((x3*x3)+(x4*x4))+(x5*x5))) (e415 : q415=(((x9*x9)+(x10*x10))+(x11*x11))) (e440 : q440=(((((x16*x20)-(x17*x19))*x9)+(((x17*x18)-(x15*x20))*x10))+(((x15*x19)-(x16*x18))*x11))) (e419 : q419=(((x12*x6)+(x13*x7))+(x14*x8))) (e426 : q426=(q419+x21)) (e433 : q433=(q426-x0)) (e441 : q441=(((((x19*x14)-(x20*x13))*x9)+(((x20*x12)-(x18*x14))*x10))+(((x18*x13)-(x19*x12))*x11))) (e420 : q420=(((x15*x6)+(x16*x7))+(x17*x8))) (e427 : q427=(q420+x22)) (e434 : q434=(q427-x1)) (e442 : q442=(((((x13*x17)-(x14*x16))*x9)+(((x14*x15)-(x12*x17))*x10))+(((x12*x16)-(x13*x15))*x11))) (e421 : q421=(((x18*x6)+(x19*x7))+(x20*x8))) (e428 : q428=(q421+x23)) (e435 : q435=(q428-x2)) (e446 : q446=(((q440*q433)+(q441*q434))+(q442*q435))) (e439 : q439=(((q433*x3)+(q434*x4))+(q435*x5))) (hp : Ort (-1) x12 x13 x14 x15 x16 x17 x18 x19 x20) (c413 : q412=Z1) (c418 : q415=Z1) (c448 : ¬q446<Z0) (c540 : ¬Z0<q439) (c681 : ¬q439<Z0) (c692 : Z0<q446) : Zm1=(((x12*((x16*x20)-(x19*x17)))+(x15*((x19*x14)-(x13*x20))))+(x18*((x13*x17)-(x16*x14)))) := by
  subst Ym1 Y0 Y1 e412 e415 e440 e419 e426 e433 e441 e420 e427 e434 e442 e421 e428 e435 e446 e439
  unfold Ort at hp
  obtain ⟨a,b,c,d,e,f,g,h,i,j,k,l,m,n,o,p,q,r,s,t,u,v,w⟩ := hp
  grind

theorem pure_DensTurned {r0 r1 r2 r3 r4 r5 r6 r7 r8 r9 r10 r11 : RR} (g0 : r0.ok 1048576) (g1 : r1.ok 1048576) (g2 : r2.ok 1048576) (g3 : r3.ok 1048576) (g4 : r4.ok 1048576) (g5 : r5.ok 1048576) (g6 : r6.ok 1048576) (g7 : r7.ok 1048576) (g8 : r8.ok 1048576) (g9 : r9.ok 1048576) (g10 : r10.ok 1048576) (g11 : r11.ok 1048576) {l : List SP6} (hl : ∀ s ∈ l,spok s) : PureCalls prog F.penumbralaw16_DensTurned [.agg ([.bool r0.neg, nl r0.num, nl r0.den, .bool r1.neg, nl r1.num, nl r1.den, .bool r2.neg, nl r2.num, nl r2.den, .bool r3.neg, nl r3.num, nl r3.den, .bool r4.neg, nl r4.num, nl r4.den, .bool r5.neg, nl r5.num, nl r5.den]),.agg ([.bool r6.neg, nl r6.num, nl r6.den, .bool r7.neg, nl r7.num, nl r7.den, .bool r8.neg, nl r8.num, nl r8.den, .bool r9.neg, nl r9.num, nl r9.den, .bool r10.neg, nl r10.num, nl r10.den, .bool r11.neg, nl r11.num, nl r11.den]),.one (spl l)] [.one (.bool true)] := by
  obtain ⟨Zm1,Ym1⟩ := ex_eq (-1 : Rat)
  obtain ⟨Z0,Y0⟩ := ex_eq (0 : Rat)
  obtain ⟨Z1,Y1⟩ := ex_eq (1 : Rat)
  obtain ⟨x0,h0⟩ := Num.raw g0 (by decide)
  obtain ⟨x1,h1⟩ := Num.raw g1 (by decide)
  obtain ⟨x2,h2⟩ := Num.raw g2 (by decide)
  obtain ⟨x3,h3⟩ := Num.raw g3 (by decide)
  obtain ⟨x4,h4⟩ := Num.raw g4 (by decide)
  obtain ⟨x5,h5⟩ := Num.raw g5 (by decide)
  obtain ⟨x6,h6⟩ := Num.raw g6 (by decide)
  obtain ⟨x7,h7⟩ := Num.raw g7 (by decide)
  obtain ⟨x8,h8⟩ := Num.raw g8 (by decide)
  obtain ⟨x9,h9⟩ := Num.raw g9 (by decide)
  obtain ⟨x10,h10⟩ := Num.raw g10 (by decide)
  obtain ⟨x11,h11⟩ := Num.raw g11 (by decide)
  refine symFunc_sound hmix tree_penumbralaw16_DensTurned (by kernel_rfl) rfl ?_
  unfold ir_penumbralaw16_DensTurned
  simp only [HH, gW, gD]
  obtain ⟨x12,x13,x14,x15,x16,x17,x18,x19,x20,x21,x22,x23,dd,hd,ho,h12,h13,h14,h15,h16,h17,h18,h19,h20,h21,h22,h23,hm⟩ := mirrors hl
  have hp := ho
  unfold Ort at ho
  obtain ⟨o0,o1,o2,o3,o4,o5,o6,o7,o8,o9,o10,o11,o12,o13,o14,o15,o16,o17,o18,o19,o20,o21,o22⟩ := ho
  rcases hd with rfl | rfl
  · skip
    have c1 : ((x16*x20)-(x17*x19))=x12 := by have y := o0; grind
    have c2 : ((x17*x18)-(x15*x20))=x13 := by have y := o1; grind
    have c3 : ((x15*x19)-(x16*x18))=x14 := by have y := o2; grind
    have c4 : ((x19*x14)-(x20*x13))=x15 := by have y := o3; grind
    have c5 : ((x20*x12)-(x18*x14))=x16 := by have y := o4; grind
    have c6 : ((x18*x13)-(x19*x12))=x17 := by have y := o5; grind
    have c7 : ((x13*x17)-(x14*x16))=x18 := by have y := o6; grind
    have c8 : ((x14*x15)-(x12*x17))=x19 := by have y := o7; grind
    have c9 : ((x12*x16)-(x13*x15))=x20 := by have y := o8; grind
    have c10 : (((x12*((x16*x20)-(x17*x19)))+(x13*((x17*x18)-(x15*x20))))+(x14*((x15*x19)-(x16*x18))))=Z1 := by have y := o10; rw [Y1]; grind
    have c11 : (((x12*x12)+(x15*x15))+(x18*x18))=Z1 := by have y := o11; rw [Y1]; grind
    have c12 : (((x12*x13)+(x15*x16))+(x18*x19))=Z0 := by have y := o12; rw [Y0]; grind
    have c13 : (((x12*x14)+(x15*x17))+(x18*x20))=Z0 := by have y := o13; rw [Y0]; grind
    have c14 : (((x13*x13)+(x16*x16))+(x19*x19))=Z1 := by have y := o14; rw [Y1]; grind
    have c15 : (((x13*x14)+(x16*x17))+(x19*x20))=Z0 := by have y := o15; rw [Y0]; grind
    have c16 : (((x14*x14)+(x17*x17))+(x20*x20))=Z1 := by have y := o16; rw [Y1]; grind
    have c17 : (((x12*x12)+(x13*x13))+(x14*x14))=Z1 := by have y := o17; rw [Y1]; grind
    have c18 : (((x12*x15)+(x13*x16))+(x14*x17))=Z0 := by have y := o18; rw [Y0]; grind
    have c19 : (((x12*x18)+(x13*x19))+(x14*x20))=Z0 := by have y := o19; rw [Y0]; grind
    have c20 : (((x15*x15)+(x16*x16))+(x17*x17))=Z1 := by have y := o20; rw [Y1]; grind
    have c21 : (((x15*x18)+(x16*x19))+(x17*x20))=Z0 := by have y := o21; rw [Y0]; grind
    have c22 : (((x18*x18)+(x19*x19))+(x20*x20))=Z1 := by have y := o22; rw [Y1]; grind
    refine call_step hm rfl ?_
    simp only [HH, gW, gD]
    have u23 : Z1=(((x12*((x16*x20)-(x17*x19)))+(x13*((x17*x18)-(x15*x20))))+(x14*((x15*x19)-(x16*x18)))) := (al24 Y1 hp)
    have u25 : x12=(Z1*((x16*x20)-(x17*x19))) := (al26 Y1 hp)
    have u27 : x15=(Z1*((x19*x14)-(x20*x13))) := (al28 Y1 hp)
    have u29 : x18=(Z1*((x13*x17)-(x14*x16))) := (al30 Y1 hp)
    have u31 : x13=(Z1*((x17*x18)-(x15*x20))) := (al32 Y1 hp)
    have u33 : x16=(Z1*((x20*x12)-(x18*x14))) := (al34 Y1 hp)
    have u35 : x19=(Z1*((x14*x15)-(x12*x17))) := (al36 Y1 hp)
    have u37 : x14=(Z1*((x15*x19)-(x16*x18))) := (al38 Y1 hp)
    have u39 : x17=(Z1*((x18*x13)-(x19*x12))) := (al40 Y1 hp)
    have u41 : x20=(Z1*((x12*x16)-(x13*x15))) := (al42 Y1 hp)
    obtain ⟨q43,e43⟩ := ex_eq (Zm1*(((x12*x21)+(x15*x22))+(x18*x23)))
    obtain ⟨q44,e44⟩ := ex_eq (Zm1*(((x13*x21)+(x16*x22))+(x19*x23)))
    obtain ⟨q45,e45⟩ := ex_eq (Zm1*(((x14*x21)+(x17*x22))+(x20*x23)))
    refine call_step (n_affine_Inverse_1w (k1 := Z1) Ym1 Y0 Y1 h12 h13 h14 h15 h16 h17 h18 h19 h20 h21 h22 h23 (by decide) u23 (by rw [Y1] <;> decide +kernel) u25 u27 u29 u31 u33 u35 u37 u39 u41 e43 e44 e45 (show ¬(Z1=Z0) by rw [Y1,Y0] <;> decide +kernel)) rfl ?_
    simp only [HH, gW, gD]
    refine cs0 n_penumbralaw16_fixed ?_
    refine itT rfl ?_
    refine itT rfl ?_
    obtain ⟨q46,e46⟩ := ex_eq (((x3*x3)+(x4*x4))+(x5*x5))
    by_cases c47 : q46=Z1
    · skip
      obtain ⟨f48_0,f48_1,f48_2,f48_3,f48_4,f48_5,f48_6,f48_7,f48_8,hf48⟩ := frame_any (h3.mono (by decide)) (h4.mono (by decide)) (h5.mono (by decide)) ((e46.symm.trans c47).trans Y1)
      obtain ⟨q49,e49⟩ := ex_eq (((x9*x9)+(x10*x10))+(x11*x11))
      have m50 : Num 6291458 (cr q49) q49 := Num.eqn e49 (Sm.add (Sm.add (Sm.mul h9.sm h9.sm) (Sm.mul h10.sm h10.sm)) (Sm.mul h11.sm h11.sm))
      have m51 : Num 1 (cr Z1) Z1 := Num.c Y1 (by decide +kernel) (by decide +kernel)
      by_cases c52 : q49=Z1
      · skip
        obtain ⟨q53,e53⟩ := ex_eq (((x12*x6)+(x13*x7))+(x14*x8))
        obtain ⟨q54,e54⟩ := ex_eq (((x15*x6)+(x16*x7))+(x17*x8))
        obtain ⟨q55,e55⟩ := ex_eq (((x18*x6)+(x19*x7))+(x20*x8))
        have m57 : Num 843145973 (cr q53) q53 := Num.eqn e53 (Sm.add (Sm.add (Sm.mul h12.sm h6.sm) (Sm.mul h13.sm h7.sm)) (Sm.mul h14.sm h8.sm))
        have m58 : Num 843145973 (cr q54) q54 := Num.eqn e54 (Sm.add (Sm.add (Sm.mul h15.sm h6.sm) (Sm.mul h16.sm h7.sm)) (Sm.mul h17.sm h8.sm))
        have m59 : Num 843145973 (cr q55) q55 := Num.eqn e55 (Sm.add (Sm.add (Sm.mul h18.sm h6.sm) (Sm.mul h19.sm h7.sm)) (Sm.mul h20.sm h8.sm))
        obtain ⟨q60,e60⟩ := ex_eq (q53+x21)
        obtain ⟨q61,e61⟩ := ex_eq (q54+x22)
        obtain ⟨q62,e62⟩ := ex_eq (q55+x23)
        have hc63 : PureCalls prog F.affine_Apply [.agg (gD [x12,x13,x14,x15,x16,x17,x18,x19,x20,x21,x22,x23]),.agg (gW [r6,r7,r8])] [.agg (gD [q60,q61,q62])] := by
          refine symFunc_sound hmix tree_affine_Apply (by kernel_rfl) rfl ?_
          unfold ir_affine_Apply
          simp only [HH, gW, gD]
          refine cs3 (n_affine_Turn_0w h12 h13 h14 h15 h16 h17 h18 h19 h20 h21 h22 h23 h6 h7 h8 (by decide) e53 e54 e55) ?_
          refine primS (rl3 [((cr q53),(cr q54),(cr q55)),((cr x21),(cr x22),(cr x23))]) rfl ?_
          refine cs3 (n_vec_Sum_2 (o0 := q60) (o1 := q61) (o2 := q62) (m57.mono (by decide)) (m58.mono (by decide)) (m59.mono (by decide)) (h21.mono (by decide)) (h22.mono (by decide)) (h23.mono (by decide)) e60 e61 e62) ?_
          exact ret_step rfl
        have m64 : Num 1341146099 (cr q60) q60 := Num.eqn e60 (Sm.add m57.sm h21.sm)
        have m65 : Num 1341146099 (cr q61) q61 := Num.eqn e61 (Sm.add m58.sm h22.sm)
        have m66 : Num 1341146099 (cr q62) q62 := Num.eqn e62 (Sm.add m59.sm h23.sm)
        obtain ⟨q67,e67⟩ := ex_eq (q60-x0)
        obtain ⟨q68,e68⟩ := ex_eq (q61-x1)
        obtain ⟨q69,e69⟩ := ex_eq (q62-x2)
        have m70 : Num 1342194676 (cr q67) q67 := Num.eqn e67 (Sm.sub m64.sm h0.sm)
        have m71 : Num 1342194676 (cr q68) q68 := Num.eqn e68 (Sm.sub m65.sm h1.sm)
        have m72 : Num 1342194676 (cr q69) q69 := Num.eqn e69 (Sm.sub m66.sm h2.sm)
        obtain ⟨q73,e73⟩ := ex_eq (((q67*x3)+(q68*x4))+(q69*x5))
        obtain ⟨q74,e74⟩ := ex_eq (((((x16*x20)-(x17*x19))*x9)+(((x17*x18)-(x15*x20))*x10))+(((x15*x19)-(x16*x18))*x11))
        obtain ⟨q75,e75⟩ := ex_eq (((((x19*x14)-(x20*x13))*x9)+(((x20*x12)-(x18*x14))*x10))+(((x18*x13)-(x19*x12))*x11))
        obtain ⟨q76,e76⟩ := ex_eq (((((x13*x17)-(x14*x16))*x9)+(((x14*x15)-(x12*x17))*x10))+(((x12*x16)-(x13*x15))*x11))
        have m77 : Num 3363146705 (cr q74) q74 := Num.eqn e74 (Sm.add (Sm.add (Sm.mul (Sm.sub (Sm.mul h16.sm h20.sm) (Sm.mul h17.sm h19.sm)) h9.sm) (Sm.mul (Sm.sub (Sm.mul h17.sm h18.sm) (Sm.mul h15.sm h20.sm)) h10.sm)) (Sm.mul (Sm.sub (Sm.mul h15.sm h19.sm) (Sm.mul h16.sm h18.sm)) h11.sm))
        have m78 : Num 3363146705 (cr q75) q75 := Num.eqn e75 (Sm.add (Sm.add (Sm.mul (Sm.sub (Sm.mul h19.sm h14.sm) (Sm.mul h20.sm h13.sm)) h9.sm) (Sm.mul (Sm.sub (Sm.mul h20.sm h12.sm) (Sm.mul h18.sm h14.sm)) h10.sm)) (Sm.mul (Sm.sub (Sm.mul h18.sm h13.sm) (Sm.mul h19.sm h12.sm)) h11.sm))
        have m79 : Num 3363146705 (cr q76) q76 := Num.eqn e76 (Sm.add (Sm.add (Sm.mul (Sm.sub (Sm.mul h13.sm h17.sm) (Sm.mul h14.sm h16.sm)) h9.sm) (Sm.mul (Sm.sub (Sm.mul h14.sm h15.sm) (Sm.mul h12.sm h17.sm)) h10.sm)) (Sm.mul (Sm.sub (Sm.mul h12.sm h16.sm) (Sm.mul h13.sm h15.sm)) h11.sm))
        obtain ⟨q80,e80⟩ := ex_eq (((q74*q67)+(q75*q68))+(q76*q69))
        have m81 : Num 14116024145 (cr q80) q80 := Num.eqn e80 (Sm.add (Sm.add (Sm.mul m77.sm m70.sm) (Sm.mul m78.sm m71.sm)) (Sm.mul m79.sm m72.sm))
        by_cases c82 : q80<Z0
        · skip
          obtain ⟨q83,e83⟩ := ex_eq (-q80)
          have m84 : Num 4029729758 (cr q73) q73 := Num.eqn e73 (Sm.add (Sm.add (Sm.mul m70.sm h3.sm) (Sm.mul m71.sm h4.sm)) (Sm.mul m72.sm h5.sm))
          by_cases c85 : Z0<q73
          · skip
            have hc86 : PureCalls prog F.dens_seen [.agg (gW [r0,r1,r2,r3,r4,r5]),.agg (gW [r6,r7,r8,r9,r10,r11]),.agg (gD [x12,x13,x14,x15,x16,x17,x18,x19,x20,x21,x22,x23])] [.agg (gD [f48_0,f48_1,f48_2,f48_3,f48_4,f48_5,f48_6,f48_7,f48_8,q67,q68,q69,q73,q83]),.one (.bool true)] := by
              refine symFunc_sound hmix tree_dens_seen (by kernel_rfl) rfl ?_
              unfold ir_dens_seen
              simp only [HH, gW, gD]
              refine call_step hf48 rfl ?_
              simp only [HH, gW, gD]
              refine primS (.bool false) rfl ?_
              refine itF rfl ?_
              refine cs1 (n_vec_Dot_0w h9 h10 h11 h9 h10 h11 (by decide) e49) ?_
              refine cs1 (n_rat_Of (1) (1) (by decide) (by decide) (by decide) (by decide) (Y1.trans (by decide +kernel))) ?_
              refine cs0 (n_rat_Same_t (m50.mono (by decide)) (m51.mono (by decide)) c52) ?_
              simp only [HH, gW, gD]
              refine primS (.bool false) rfl ?_
              refine itF rfl ?_
              refine call_step hc63 rfl ?_
              simp only [HH, gW, gD]
              refine cs3 (n_vec_Sub_0w m64 m65 m66 h0 h1 h2 (by decide) e67 e68 e69) ?_
              refine cs1 (n_vec_Dot_0w m70 m71 m72 h3 h4 h5 (by decide) e73) ?_
              refine cs3 (n_affine_Area_0w h12 h13 h14 h15 h16 h17 h18 h19 h20 h21 h22 h23 h9 h10 h11 (by decide) e74 e75 e76) ?_
              simp only [HH, gW, gD]
              refine cs1 (n_vec_Dot_0w m77 m78 m79 m70 m71 m72 (by decide) e80) ?_
              refine cs1 (n_rat_Abs_t Y0 (m81.mono (by decide)) e83 c82) ?_
              refine cs0 (n_rat_Sign (m84.mono (by decide))) ?_
              simp only [HH, gW, gD]
              refine primS (.bool true) (cs_gtr_t ((sg_gt Y0).2 c85)) ?_
              refine itT rfl ?_
              refine cs0 (n_rat_Sign (m81.mono (by decide))) ?_
              refine cs1 (n_affine_Det_0w h12 h13 h14 h15 h16 h17 h18 h19 h20 h21 h22 h23 (by decide) u23) ?_
              refine cs0 (n_rat_Sign (m51.mono (by decide))) ?_
              simp only [HH, gW, gD]
              refine primS (.int .i64 (-1)) (ii_mul (sgn_m Y0 c82) (sgn_p Y0 (show ¬(Z1<Z0) by rw [Y1,Y0] <;> decide +kernel) (show ¬(Z1=Z0) by rw [Y1,Y0] <;> decide +kernel)) rfl) ?_
              refine primS (.bool true) rfl ?_
              exact ret_step rfl
            obtain ⟨q87,e87⟩ := ex_eq (((q67*q67)+(q68*q68))+(q69*q69))
            have m89 : Num 14116024145 (cr q83) q83 := Num.eqn e83 (Sm.neg m81.sm)
            obtain ⟨q90,e90⟩ := ex_eq (q73*q83)
            have m92 : Num 8053168058 (cr q87) q87 := Num.eqn e87 (Sm.add (Sm.add (Sm.mul m70.sm m70.sm) (Sm.mul m71.sm m71.sm)) (Sm.mul m72.sm m72.sm))
            obtain ⟨q93,e93⟩ := ex_eq (q87*q87)
            have m94 : Num 18145753903 (cr q90) q90 := Num.eqn e90 (Sm.mul m84.sm m89.sm)
            have m95 : Num 16106336116 (cr q93) q93 := Num.eqn e93 (Sm.mul m92.sm m92.sm)
            have c96 : (Z0<q87) := (al97 Y0 Y1 e53 e60 e67 e54 e61 e68 e55 e62 e69 e87 e46 e49 e74 e75 e76 e80 e73 hp c47 c52 c82 c85)
            have c98 : ¬(q93=Z0) := (fun z => Rat.ne_of_lt (s_mul_pp Y0 e93 c96 c96) z.symm)
            obtain ⟨q99,e99⟩ := ex_eq (q90 / q93)
            have d99 := div_mul Y0 e99 c98
            have hc100 : PureCalls prog F.dens_Transfer [.agg (gW [r0,r1,r2,r3,r4,r5]),.agg (gW [r6,r7,r8,r9,r10,r11]),.agg (gD [x12,x13,x14,x15,x16,x17,x18,x19,x20,x21,x22,x23])] [.agg (gD [q99])] := by
              refine symFunc_sound hmix tree_dens_Transfer (by kernel_rfl) rfl ?_
              unfold ir_dens_Transfer
              simp only [HH, gW, gD]
              refine call_step hc86 rfl ?_
              simp only [HH, gW, gD]
              refine primS (.bool false) rfl ?_
              refine itF rfl ?_
              refine cs1 (n_vec_Dot_0w m70 m71 m72 m70 m71 m72 (by decide) e87) ?_
              refine primS (rl [(cr q73),(cr q83)]) rfl ?_
              refine cs1 (n_rat_Product_2 (k0 := q90) (m84.mono (by decide)) (m89.mono (by decide)) e90) ?_
              refine primS (rl [(cr q87),(cr q87)]) rfl ?_
              refine cs1 (n_rat_Product_2 (k0 := q93) (m92.mono (by decide)) (m92.mono (by decide)) e93) ?_
              simp only [HH, gW, gD]
              refine cs1 (n_dens_over_1 Y0 (m94.mono (by decide)) (m95.mono (by decide)) e99 c98) ?_
              exact ret_step rfl
            refine call_step hc100 rfl ?_
            simp only [HH, gW, gD]
            obtain ⟨f101_0,f101_1,f101_2,f101_3,f101_4,f101_5,f101_6,f101_7,f101_8,hf101⟩ := frame_any (h9.mono (by decide)) (h10.mono (by decide)) (h11.mono (by decide)) ((e49.symm.trans c52).trans Y1)
            have m102 : Num 6291458 (cr q46) q46 := Num.eqn e46 (Sm.add (Sm.add (Sm.mul h3.sm h3.sm) (Sm.mul h4.sm h4.sm)) (Sm.mul h5.sm h5.sm))
            have m104 : Num 1 (cr Zm1) Zm1 := Num.c Ym1 (by decide +kernel) (by decide +kernel)
            have m103 : Num 2334000621 (cr q43) q43 := Num.eqn e43 (Sm.mul m104.sm (Sm.add (Sm.add (Sm.mul h12.sm h21.sm) (Sm.mul h15.sm h22.sm)) (Sm.mul h18.sm h23.sm)))
            have m105 : Num 2334000621 (cr q44) q44 := Num.eqn e44 (Sm.mul m104.sm (Sm.add (Sm.add (Sm.mul h13.sm h21.sm) (Sm.mul h16.sm h22.sm)) (Sm.mul h19.sm h23.sm)))
            have m106 : Num 2334000621 (cr q45) q45 := Num.eqn e45 (Sm.mul m104.sm (Sm.add (Sm.add (Sm.mul h14.sm h21.sm) (Sm.mul h17.sm h22.sm)) (Sm.mul h20.sm h23.sm)))
            obtain ⟨q107,e107⟩ := ex_eq (((x12*x0)+(x15*x1))+(x18*x2))
            obtain ⟨q108,e108⟩ := ex_eq (((x13*x0)+(x16*x1))+(x19*x2))
            obtain ⟨q109,e109⟩ := ex_eq (((x14*x0)+(x17*x1))+(x20*x2))
            have m111 : Num 843145973 (cr q107) q107 := Num.eqn e107 (Sm.add (Sm.add (Sm.mul h12.sm h0.sm) (Sm.mul h15.sm h1.sm)) (Sm.mul h18.sm h2.sm))
            have m112 : Num 843145973 (cr q108) q108 := Num.eqn e108 (Sm.add (Sm.add (Sm.mul h13.sm h0.sm) (Sm.mul h16.sm h1.sm)) (Sm.mul h19.sm h2.sm))
            have m113 : Num 843145973 (cr q109) q109 := Num.eqn e109 (Sm.add (Sm.add (Sm.mul h14.sm h0.sm) (Sm.mul h17.sm h1.sm)) (Sm.mul h20.sm h2.sm))
            obtain ⟨q114,e114⟩ := ex_eq (q107+q43)
            obtain ⟨q115,e115⟩ := ex_eq (q108+q44)
            obtain ⟨q116,e116⟩ := ex_eq (q109+q45)
            have hc117 : PureCalls prog F.affine_Apply [.agg (gD [x12,x15,x18,x13,x16,x19,x14,x17,x20,q43,q44,q45]),.agg (gW [r0,r1,r2])] [.agg (gD [q114,q115,q116])] := by
              refine symFunc_sound hmix tree_affine_Apply (by kernel_rfl) rfl ?_
              unfold ir_affine_Apply
              simp only [HH, gW, gD]
              refine cs3 (n_affine_Turn_0w h12 h15 h18 h13 h16 h19 h14 h17 h20 m103 m105 m106 h0 h1 h2 (by decide) e107 e108 e109) ?_
              refine primS (rl3 [((cr q107),(cr q108),(cr q109)),((cr q43),(cr q44),(cr q45))]) rfl ?_
              refine cs3 (n_vec_Sum_2 (o0 := q114) (o1 := q115) (o2 := q116) (m111.mono (by decide)) (m112.mono (by decide)) (m113.mono (by decide)) (m103.mono (by decide)) (m105.mono (by decide)) (m106.mono (by decide)) e114 e115 e116) ?_
              exact ret_step rfl
            have m118 : Num 3177146595 (cr q114) q114 := Num.eqn e114 (Sm.add m111.sm m103.sm)
            have m119 : Num 3177146595 (cr q115) q115 := Num.eqn e115 (Sm.add m112.sm m105.sm)
            have m120 : Num 3177146595 (cr q116) q116 := Num.eqn e116 (Sm.add m113.sm m106.sm)
            obtain ⟨q121,e121⟩ := ex_eq (q114-x6)
            obtain ⟨q122,e122⟩ := ex_eq (q115-x7)
            obtain ⟨q123,e123⟩ := ex_eq (q116-x8)
            have m124 : Num 3178195172 (cr q121) q121 := Num.eqn e121 (Sm.sub m118.sm h6.sm)
            have m125 : Num 3178195172 (cr q122) q122 := Num.eqn e122 (Sm.sub m119.sm h7.sm)
            have m126 : Num 3178195172 (cr q123) q123 := Num.eqn e123 (Sm.sub m120.sm h8.sm)
            have u127 : q83=(((q121*x9)+(q122*x10))+(q123*x11)) := (al128 Ym1 Y0 Y1 e74 e53 e60 e67 e75 e54 e61 e68 e76 e55 e62 e69 e80 e83 e107 e43 e114 e121 e108 e44 e115 e122 e109 e45 e116 e123 e46 e49 e73 e87 e93 hp c47 c52 c82 c85 c96 c98)
            obtain ⟨q129,e129⟩ := ex_eq (((((x16*x20)-(x19*x17))*x3)+(((x19*x14)-(x13*x20))*x4))+(((x13*x17)-(x16*x14))*x5))
            obtain ⟨q130,e130⟩ := ex_eq (((((x17*x18)-(x20*x15))*x3)+(((x20*x12)-(x14*x18))*x4))+(((x14*x15)-(x17*x12))*x5))
            obtain ⟨q131,e131⟩ := ex_eq (((((x15*x19)-(x18*x16))*x3)+(((x18*x13)-(x12*x19))*x4))+(((x12*x16)-(x15*x13))*x5))
            have m132 : Num 3363146705 (cr q129) q129 := Num.eqn e129 (Sm.add (Sm.add (Sm.mul (Sm.sub (Sm.mul h16.sm h20.sm) (Sm.mul h19.sm h17.sm)) h3.sm) (Sm.mul (Sm.sub (Sm.mul h19.sm h14.sm) (Sm.mul h13.sm h20.sm)) h4.sm)) (Sm.mul (Sm.sub (Sm.mul h13.sm h17.sm) (Sm.mul h16.sm h14.sm)) h5.sm))
            have m133 : Num 3363146705 (cr q130) q130 := Num.eqn e130 (Sm.add (Sm.add (Sm.mul (Sm.sub (Sm.mul h17.sm h18.sm) (Sm.mul h20.sm h15.sm)) h3.sm) (Sm.mul (Sm.sub (Sm.mul h20.sm h12.sm) (Sm.mul h14.sm h18.sm)) h4.sm)) (Sm.mul (Sm.sub (Sm.mul h14.sm h15.sm) (Sm.mul h17.sm h12.sm)) h5.sm))
            have m134 : Num 3363146705 (cr q131) q131 := Num.eqn e131 (Sm.add (Sm.add (Sm.mul (Sm.sub (Sm.mul h15.sm h19.sm) (Sm.mul h18.sm h16.sm)) h3.sm) (Sm.mul (Sm.sub (Sm.mul h18.sm h13.sm) (Sm.mul h12.sm h19.sm)) h4.sm)) (Sm.mul (Sm.sub (Sm.mul h12.sm h16.sm) (Sm.mul h15.sm h13.sm)) h5.sm))
            obtain ⟨q135,e135⟩ := ex_eq (((q129*q121)+(q130*q122))+(q131*q123))
            have m136 : Num 19624025633 (cr q135) q135 := Num.eqn e135 (Sm.add (Sm.add (Sm.mul m132.sm m124.sm) (Sm.mul m133.sm m125.sm)) (Sm.mul m134.sm m126.sm))
            have u138 : q135=(-q73) := (al139 Ym1 Y0 Y1 e129 e107 e43 e114 e121 e130 e108 e44 e115 e122 e131 e109 e45 e116 e123 e135 e53 e60 e67 e54 e61 e68 e55 e62 e69 e73 e46 e49 e74 e75 e76 e80 e87 e93 hp c47 c52 c82 c85 c96 c98)
            have c137 : (q135<Z0) := (neg_l Y0 u138 c85)
            have u140 : q73=(-q135) := (al141 Ym1 Y0 Y1 e53 e60 e67 e54 e61 e68 e55 e62 e69 e73 e129 e107 e43 e114 e121 e130 e108 e44 e115 e122 e131 e109 e45 e116 e123 e135 e46 e49 e74 e75 e76 e80 e87 e93 hp c47 c52 c82 c85 c96 c98 c137)
            have u142 : Z1=(((x12*((x16*x20)-(x19*x17)))+(x15*((x19*x14)-(x13*x20))))+(x18*((x13*x17)-(x16*x14)))) := (al143 Ym1 Y0 Y1 e46 e49 e74 e53 e60 e67 e75 e54 e61 e68 e76 e55 e62 e69 e80 e73 e87 e93 e129 e107 e43 e114 e121 e130 e108 e44 e115 e122 e131 e109 e45 e116 e123 e135 hp c47 c52 c82 c85 c96 c98 c137)
            have hc144 : PureCalls prog F.dens_seen [.agg (gW [r6,r7,r8,r9,r10,r11]),.agg (gW [r0,r1,r2,r3,r4,r5]),.agg (gD [x12,x15,x18,x13,x16,x19,x14,x17,x20,q43,q44,q45])] [.agg (gD [f101_0,f101_1,f101_2,f101_3,f101_4,f101_5,f101_6,f101_7,f101_8,q121,q122,q123,q83,q73]),.one (.bool true)] := by
              refine symFunc_sound hmix tree_dens_seen (by kernel_rfl) rfl ?_
              unfold ir_dens_seen
              simp only [HH, gW, gD]
              refine call_step hf101 rfl ?_
              simp only [HH, gW, gD]
              refine primS (.bool false) rfl ?_
              refine itF rfl ?_
              refine cs1 (n_vec_Dot_0w h3 h4 h5 h3 h4 h5 (by decide) e46) ?_
              refine cs1 (n_rat_Of (1) (1) (by decide) (by decide) (by decide) (by decide) (Y1.trans (by decide +kernel))) ?_
              refine cs0 (n_rat_Same_t (m102.mono (by decide)) (m51.mono (by decide)) c47) ?_
              simp only [HH, gW, gD]
              refine primS (.bool false) rfl ?_
              refine itF rfl ?_
              refine call_step hc117 rfl ?_
              simp only [HH, gW, gD]
              refine cs3 (n_vec_Sub_0w m118 m119 m120 h6 h7 h8 (by decide) e121 e122 e123) ?_
              refine cs1 (n_vec_Dot_0w m124 m125 m126 h9 h10 h11 (by decide) u127) ?_
              refine cs3 (n_affine_Area_0w h12 h15 h18 h13 h16 h19 h14 h17 h20 m103 m105 m106 h3 h4 h5 (by decide) e129 e130 e131) ?_
              simp only [HH, gW, gD]
              refine cs1 (n_vec_Dot_0w m132 m133 m134 m124 m125 m126 (by decide) e135) ?_
              refine cs1 (n_rat_Abs_t Y0 (m136.mono (by decide)) u140 c137) ?_
              refine cs0 (n_rat_Sign (m89.mono (by decide))) ?_
              simp only [HH, gW, gD]
              refine primS (.bool true) (cs_gtr_t ((sg_gt Y0).2 (s_neg_n (b := Z0) Y0 e83 c82))) ?_
              refine itT rfl ?_
              refine cs0 (n_rat_Sign (m136.mono (by decide))) ?_
              refine cs1 (n_affine_Det_0w h12 h15 h18 h13 h16 h19 h14 h17 h20 m103 m105 m106 (by decide) u142) ?_
              refine cs0 (n_rat_Sign (m51.mono (by decide))) ?_
              simp only [HH, gW, gD]
              refine primS (.int .i64 (-1)) (ii_mul (sgn_m Y0 c137) (sgn_p Y0 (show ¬(Z1<Z0) by rw [Y1,Y0] <;> decide +kernel) (show ¬(Z1=Z0) by rw [Y1,Y0] <;> decide +kernel)) rfl) ?_
              refine primS (.bool true) rfl ?_
              exact ret_step rfl
            have u145 : q87=(((q121*q121)+(q122*q122))+(q123*q123)) := (al146 Ym1 Y0 Y1 e53 e60 e67 e54 e61 e68 e55 e62 e69 e87 e107 e43 e114 e121 e108 e44 e115 e122 e109 e45 e116 e123 e46 e49 e74 e75 e76 e80 e73 e93 e129 e130 e131 e135 hp c47 c52 c82 c85 c96 c98 c137)
            have u148 : q90=(q83*q73) := (al149 Ym1 Y0 Y1 e53 e60 e67 e54 e61 e68 e55 e62 e69 e73 e74 e75 e76 e80 e83 e90 e46 e49 e87 e93 e129 e107 e43 e114 e121 e130 e108 e44 e115 e122 e131 e109 e45 e116 e123 e135 hp c47 c52 c82 c85 c96 c98 c137)
            have hc151 : PureCalls prog F.dens_Transfer [.agg (gW [r6,r7,r8,r9,r10,r11]),.agg (gW [r0,r1,r2,r3,r4,r5]),.agg (gD [x12,x15,x18,x13,x16,x19,x14,x17,x20,q43,q44,q45])] [.agg (gD [q99])] := by
              refine symFunc_sound hmix tree_dens_Transfer (by kernel_rfl) rfl ?_
              unfold ir_dens_Transfer
              simp only [HH, gW, gD]
              refine call_step hc144 rfl ?_
              simp only [HH, gW, gD]
              refine primS (.bool false) rfl ?_
              refine itF rfl ?_
              refine cs1 (n_vec_Dot_0w m124 m125 m126 m124 m125 m126 (by decide) u145) ?_
              refine primS (rl [(cr q83),(cr q73)]) rfl ?_
              refine cs1 (n_rat_Product_2 (k0 := q90) (m89.mono (by decide)) (m84.mono (by decide)) u148) ?_
              refine primS (rl [(cr q87),(cr q87)]) rfl ?_
              refine cs1 (n_rat_Product_2 (k0 := q93) (m92.mono (by decide)) (m92.mono (by decide)) e93) ?_
              simp only [HH, gW, gD]
              refine cs1 (n_dens_over_1 Y0 (m94.mono (by decide)) (m95.mono (by decide)) e99 c98) ?_
              exact ret_step rfl
            refine call_step hc151 rfl ?_
            simp only [HH, gW, gD]
            have m152 : Num 34252090019 (cr q99) q99 := Num.eqn e99 (Sm.div m94.sm m95.sm)
            refine cs0 (n_penumbraref03_Is_t (m152.mono (by decide)) (m152.mono (by decide)) rfl) ?_
            exact ret_step rfl
          · skip
            have hc153 : PureCalls prog F.dens_seen [.agg (gW [r0,r1,r2,r3,r4,r5]),.agg (gW [r6,r7,r8,r9,r10,r11]),.agg (gD [x12,x13,x14,x15,x16,x17,x18,x19,x20,x21,x22,x23])] [.agg (gD [f48_0,f48_1,f48_2,f48_3,f48_4,f48_5,f48_6,f48_7,f48_8,q67,q68,q69,q73,q83]),.one (.bool false)] := by
              refine symFunc_sound hmix tree_dens_seen (by kernel_rfl) rfl ?_
              unfold ir_dens_seen
              simp only [HH, gW, gD]
              refine call_step hf48 rfl ?_
              simp only [HH, gW, gD]
              refine primS (.bool false) rfl ?_
              refine itF rfl ?_
              refine cs1 (n_vec_Dot_0w h9 h10 h11 h9 h10 h11 (by decide) e49) ?_
              refine cs1 (n_rat_Of (1) (1) (by decide) (by decide) (by decide) (by decide) (Y1.trans (by decide +kernel))) ?_
              refine cs0 (n_rat_Same_t (m50.mono (by decide)) (m51.mono (by decide)) c52) ?_
              simp only [HH, gW, gD]
              refine primS (.bool false) rfl ?_
              refine itF rfl ?_
              refine call_step hc63 rfl ?_
              simp only [HH, gW, gD]
              refine cs3 (n_vec_Sub_0w m64 m65 m66 h0 h1 h2 (by decide) e67 e68 e69) ?_
              refine cs1 (n_vec_Dot_0w m70 m71 m72 h3 h4 h5 (by decide) e73) ?_
              refine cs3 (n_affine_Area_0w h12 h13 h14 h15 h16 h17 h18 h19 h20 h21 h22 h23 h9 h10 h11 (by decide) e74 e75 e76) ?_
              simp only [HH, gW, gD]
              refine cs1 (n_vec_Dot_0w m77 m78 m79 m70 m71 m72 (by decide) e80) ?_
              refine cs1 (n_rat_Abs_t Y0 (m81.mono (by decide)) e83 c82) ?_
              refine cs0 (n_rat_Sign (m84.mono (by decide))) ?_
              simp only [HH, gW, gD]
              refine primS (.bool false) (cs_gtr_f (fun z => c85 ((sg_gt Y0).1 z))) ?_
              refine itF rfl ?_
              exact ret_step rfl
            have hc154 : PureCalls prog F.dens_Transfer [.agg (gW [r0,r1,r2,r3,r4,r5]),.agg (gW [r6,r7,r8,r9,r10,r11]),.agg (gD [x12,x13,x14,x15,x16,x17,x18,x19,x20,x21,x22,x23])] [.agg (gD [Z0])] := by
              refine symFunc_sound hmix tree_dens_Transfer (by kernel_rfl) rfl ?_
              unfold ir_dens_Transfer
              simp only [HH, gW, gD]
              refine call_step hc153 rfl ?_
              simp only [HH, gW, gD]
              refine primS (.bool true) rfl ?_
              refine itT rfl ?_
              refine cs1 (n_rat_Of (0) (1) (by decide) (by decide) (by decide) (by decide) (Y0.trans (by decide +kernel))) ?_
              exact ret_step rfl
            refine call_step hc154 rfl ?_
            simp only [HH, gW, gD]
            obtain ⟨f155_0,f155_1,f155_2,f155_3,f155_4,f155_5,f155_6,f155_7,f155_8,hf155⟩ := frame_any (h9.mono (by decide)) (h10.mono (by decide)) (h11.mono (by decide)) ((e49.symm.trans c52).trans Y1)
            have m156 : Num 6291458 (cr q46) q46 := Num.eqn e46 (Sm.add (Sm.add (Sm.mul h3.sm h3.sm) (Sm.mul h4.sm h4.sm)) (Sm.mul h5.sm h5.sm))
            have m158 : Num 1 (cr Zm1) Zm1 := Num.c Ym1 (by decide +kernel) (by decide +kernel)
            have m157 : Num 2334000621 (cr q43) q43 := Num.eqn e43 (Sm.mul m158.sm (Sm.add (Sm.add (Sm.mul h12.sm h21.sm) (Sm.mul h15.sm h22.sm)) (Sm.mul h18.sm h23.sm)))
            have m159 : Num 2334000621 (cr q44) q44 := Num.eqn e44 (Sm.mul m158.sm (Sm.add (Sm.add (Sm.mul h13.sm h21.sm) (Sm.mul h16.sm h22.sm)) (Sm.mul h19.sm h23.sm)))
            have m160 : Num 2334000621 (cr q45) q45 := Num.eqn e45 (Sm.mul m158.sm (Sm.add (Sm.add (Sm.mul h14.sm h21.sm) (Sm.mul h17.sm h22.sm)) (Sm.mul h20.sm h23.sm)))
            obtain ⟨q161,e161⟩ := ex_eq (((x12*x0)+(x15*x1))+(x18*x2))
            obtain ⟨q162,e162⟩ := ex_eq (((x13*x0)+(x16*x1))+(x19*x2))
            obtain ⟨q163,e163⟩ := ex_eq (((x14*x0)+(x17*x1))+(x20*x2))
            have m165 : Num 843145973 (cr q161) q161 := Num.eqn e161 (Sm.add (Sm.add (Sm.mul h12.sm h0.sm) (Sm.mul h15.sm h1.sm)) (Sm.mul h18.sm h2.sm))
            have m166 : Num 843145973 (cr q162) q162 := Num.eqn e162 (Sm.add (Sm.add (Sm.mul h13.sm h0.sm) (Sm.mul h16.sm h1.sm)) (Sm.mul h19.sm h2.sm))
            have m167 : Num 843145973 (cr q163) q163 := Num.eqn e163 (Sm.add (Sm.add (Sm.mul h14.sm h0.sm) (Sm.mul h17.sm h1.sm)) (Sm.mul h20.sm h2.sm))
            obtain ⟨q168,e168⟩ := ex_eq (q161+q43)
            obtain ⟨q169,e169⟩ := ex_eq (q162+q44)
            obtain ⟨q170,e170⟩ := ex_eq (q163+q45)
            have hc171 : PureCalls prog F.affine_Apply [.agg (gD [x12,x15,x18,x13,x16,x19,x14,x17,x20,q43,q44,q45]),.agg (gW [r0,r1,r2])] [.agg (gD [q168,q169,q170])] := by
              refine symFunc_sound hmix tree_affine_Apply (by kernel_rfl) rfl ?_
              unfold ir_affine_Apply
              simp only [HH, gW, gD]
              refine cs3 (n_affine_Turn_0w h12 h15 h18 h13 h16 h19 h14 h17 h20 m157 m159 m160 h0 h1 h2 (by decide) e161 e162 e163) ?_
              refine primS (rl3 [((cr q161),(cr q162),(cr q163)),((cr q43),(cr q44),(cr q45))]) rfl ?_
              refine cs3 (n_vec_Sum_2 (o0 := q168) (o1 := q169) (o2 := q170) (m165.mono (by decide)) (m166.mono (by decide)) (m167.mono (by decide)) (m157.mono (by decide)) (m159.mono (by decide)) (m160.mono (by decide)) e168 e169 e170) ?_
              exact ret_step rfl
            have m172 : Num 3177146595 (cr q168) q168 := Num.eqn e168 (Sm.add m165.sm m157.sm)
            have m173 : Num 3177146595 (cr q169) q169 := Num.eqn e169 (Sm.add m166.sm m159.sm)
            have m174 : Num 3177146595 (cr q170) q170 := Num.eqn e170 (Sm.add m167.sm m160.sm)
            obtain ⟨q175,e175⟩ := ex_eq (q168-x6)
            obtain ⟨q176,e176⟩ := ex_eq (q169-x7)
            obtain ⟨q177,e177⟩ := ex_eq (q170-x8)
            have m178 : Num 3178195172 (cr q175) q175 := Num.eqn e175 (Sm.sub m172.sm h6.sm)
            have m179 : Num 3178195172 (cr q176) q176 := Num.eqn e176 (Sm.sub m173.sm h7.sm)
            have m180 : Num 3178195172 (cr q177) q177 := Num.eqn e177 (Sm.sub m174.sm h8.sm)
            have u181 : q83=(((q175*x9)+(q176*x10))+(q177*x11)) := (al182 Ym1 Y0 Y1 e74 e53 e60 e67 e75 e54 e61 e68 e76 e55 e62 e69 e80 e83 e161 e43 e168 e175 e162 e44 e169 e176 e163 e45 e170 e177 e46 e49 e73 hp c47 c52 c82 c85)
            obtain ⟨q183,e183⟩ := ex_eq (((((x16*x20)-(x19*x17))*x3)+(((x19*x14)-(x13*x20))*x4))+(((x13*x17)-(x16*x14))*x5))
            obtain ⟨q184,e184⟩ := ex_eq (((((x17*x18)-(x20*x15))*x3)+(((x20*x12)-(x14*x18))*x4))+(((x14*x15)-(x17*x12))*x5))
            obtain ⟨q185,e185⟩ := ex_eq (((((x15*x19)-(x18*x16))*x3)+(((x18*x13)-(x12*x19))*x4))+(((x12*x16)-(x15*x13))*x5))
            have m186 : Num 3363146705 (cr q183) q183 := Num.eqn e183 (Sm.add (Sm.add (Sm.mul (Sm.sub (Sm.mul h16.sm h20.sm) (Sm.mul h19.sm h17.sm)) h3.sm) (Sm.mul (Sm.sub (Sm.mul h19.sm h14.sm) (Sm.mul h13.sm h20.sm)) h4.sm)) (Sm.mul (Sm.sub (Sm.mul h13.sm h17.sm) (Sm.mul h16.sm h14.sm)) h5.sm))
            have m187 : Num 3363146705 (cr q184) q184 := Num.eqn e184 (Sm.add (Sm.add (Sm.mul (Sm.sub (Sm.mul h17.sm h18.sm) (Sm.mul h20.sm h15.sm)) h3.sm) (Sm.mul (Sm.sub (Sm.mul h20.sm h12.sm) (Sm.mul h14.sm h18.sm)) h4.sm)) (Sm.mul (Sm.sub (Sm.mul h14.sm h15.sm) (Sm.mul h17.sm h12.sm)) h5.sm))
            have m188 : Num 3363146705 (cr q185) q185 := Num.eqn e185 (Sm.add (Sm.add (Sm.mul (Sm.sub (Sm.mul h15.sm h19.sm) (Sm.mul h18.sm h16.sm)) h3.sm) (Sm.mul (Sm.sub (Sm.mul h18.sm h13.sm) (Sm.mul h12.sm h19.sm)) h4.sm)) (Sm.mul (Sm.sub (Sm.mul h12.sm h16.sm) (Sm.mul h15.sm h13.sm)) h5.sm))
            obtain ⟨q189,e189⟩ := ex_eq (((q183*q175)+(q184*q176))+(q185*q177))
            have m190 : Num 19624025633 (cr q189) q189 := Num.eqn e189 (Sm.add (Sm.add (Sm.mul m186.sm m178.sm) (Sm.mul m187.sm m179.sm)) (Sm.mul m188.sm m180.sm))
            have u192 : q189=(-q73) := (al193 Ym1 Y0 Y1 e183 e161 e43 e168 e175 e184 e162 e44 e169 e176 e185 e163 e45 e170 e177 e189 e53 e60 e67 e54 e61 e68 e55 e62 e69 e73 e46 e49 e74 e75 e76 e80 hp c47 c52 c82 c85)
            have c191 : ¬(q189<Z0) := (neg_ln Y0 u192 c85)
            have m194 : Num 14116024145 (cr q83) q83 := Num.eqn e83 (Sm.neg m81.sm)
            have u195 : Z1=(((x12*((x16*x20)-(x19*x17)))+(x15*((x19*x14)-(x13*x20))))+(x18*((x13*x17)-(x16*x14)))) := (al196 Ym1 Y0 Y1 e46 e49 e74 e53 e60 e67 e75 e54 e61 e68 e76 e55 e62 e69 e80 e73 e183 e161 e43 e168 e175 e184 e162 e44 e169 e176 e185 e163 e45 e170 e177 e189 hp c47 c52 c82 c85 c191)
            by_cases c197 : q189=Z0
            · skip
              have hc198 : PureCalls prog F.dens_seen [.agg (gW [r6,r7,r8,r9,r10,r11]),.agg (gW [r0,r1,r2,r3,r4,r5]),.agg (gD [x12,x15,x18,x13,x16,x19,x14,x17,x20,q43,q44,q45])] [.agg (gD [f155_0,f155_1,f155_2,f155_3,f155_4,f155_5,f155_6,f155_7,f155_8,q175,q176,q177,q83,q189]),.one (.bool false)] := by
                refine symFunc_sound hmix tree_dens_seen (by kernel_rfl) rfl ?_
                unfold ir_dens_seen
                simp only [HH, gW, gD]
                refine call_step hf155 rfl ?_
                simp only [HH, gW, gD]
                refine primS (.bool false) rfl ?_
                refine itF rfl ?_
                refine cs1 (n_vec_Dot_0w h3 h4 h5 h3 h4 h5 (by decide) e46) ?_
                refine cs1 (n_rat_Of (1) (1) (by decide) (by decide) (by decide) (by decide) (Y1.trans (by decide +kernel))) ?_
                refine cs0 (n_rat_Same_t (m156.mono (by decide)) (m51.mono (by decide)) c47) ?_
                simp only [HH, gW, gD]
                refine primS (.bool false) rfl ?_
                refine itF rfl ?_
                refine call_step hc171 rfl ?_
                simp only [HH, gW, gD]
                refine cs3 (n_vec_Sub_0w m172 m173 m174 h6 h7 h8 (by decide) e175 e176 e177) ?_
                refine cs1 (n_vec_Dot_0w m178 m179 m180 h9 h10 h11 (by decide) u181) ?_
                refine cs3 (n_affine_Area_0w h12 h15 h18 h13 h16 h19 h14 h17 h20 m157 m159 m160 h3 h4 h5 (by decide) e183 e184 e185) ?_
                simp only [HH, gW, gD]
                refine cs1 (n_vec_Dot_0w m186 m187 m188 m178 m179 m180 (by decide) e189) ?_
                refine cs1 (n_rat_Abs_f Y0 (m190.mono (by decide)) c191) ?_
                refine cs0 (n_rat_Sign (m194.mono (by decide))) ?_
                simp only [HH, gW, gD]
                refine primS (.bool true) (cs_gtr_t ((sg_gt Y0).2 (s_neg_n (b := Z0) Y0 e83 c82))) ?_
                refine itT rfl ?_
                refine cs0 (n_rat_Sign (m190.mono (by decide))) ?_
                refine cs1 (n_affine_Det_0w h12 h15 h18 h13 h16 h19 h14 h17 h20 m157 m159 m160 (by decide) u195) ?_
                refine cs0 (n_rat_Sign (m51.mono (by decide))) ?_
                simp only [HH, gW, gD]
                refine primS (.int .i64 (0)) (ii_mul0 (sgn_z Y0 c197)) ?_
                refine primS (.bool false) rfl ?_
                exact ret_step rfl
              have hc199 : PureCalls prog F.dens_Transfer [.agg (gW [r6,r7,r8,r9,r10,r11]),.agg (gW [r0,r1,r2,r3,r4,r5]),.agg (gD [x12,x15,x18,x13,x16,x19,x14,x17,x20,q43,q44,q45])] [.agg (gD [Z0])] := by
                refine symFunc_sound hmix tree_dens_Transfer (by kernel_rfl) rfl ?_
                unfold ir_dens_Transfer
                simp only [HH, gW, gD]
                refine call_step hc198 rfl ?_
                simp only [HH, gW, gD]
                refine primS (.bool true) rfl ?_
                refine itT rfl ?_
                refine cs1 (n_rat_Of (0) (1) (by decide) (by decide) (by decide) (by decide) (Y0.trans (by decide +kernel))) ?_
                exact ret_step rfl
              refine call_step hc199 rfl ?_
              simp only [HH, gW, gD]
              have m200 : Num 1 (cr Z0) Z0 := Num.c Y0 (by decide +kernel) (by decide +kernel)
              refine cs0 (n_penumbraref03_Is_t (m200.mono (by decide)) (m200.mono (by decide)) rfl) ?_
              exact ret_step rfl
            · skip
              have hc201 : PureCalls prog F.dens_seen [.agg (gW [r6,r7,r8,r9,r10,r11]),.agg (gW [r0,r1,r2,r3,r4,r5]),.agg (gD [x12,x15,x18,x13,x16,x19,x14,x17,x20,q43,q44,q45])] [.agg (gD [f155_0,f155_1,f155_2,f155_3,f155_4,f155_5,f155_6,f155_7,f155_8,q175,q176,q177,q83,q189]),.one (.bool false)] := by
                refine symFunc_sound hmix tree_dens_seen (by kernel_rfl) rfl ?_
                unfold ir_dens_seen
                simp only [HH, gW, gD]
                refine call_step hf155 rfl ?_
                simp only [HH, gW, gD]
                refine primS (.bool false) rfl ?_
                refine itF rfl ?_
                refine cs1 (n_vec_Dot_0w h3 h4 h5 h3 h4 h5 (by decide) e46) ?_
                refine cs1 (n_rat_Of (1) (1) (by decide) (by decide) (by decide) (by decide) (Y1.trans (by decide +kernel))) ?_
                refine cs0 (n_rat_Same_t (m156.mono (by decide)) (m51.mono (by decide)) c47) ?_
                simp only [HH, gW, gD]
                refine primS (.bool false) rfl ?_
                refine itF rfl ?_
                refine call_step hc171 rfl ?_
                simp only [HH, gW, gD]
                refine cs3 (n_vec_Sub_0w m172 m173 m174 h6 h7 h8 (by decide) e175 e176 e177) ?_
                refine cs1 (n_vec_Dot_0w m178 m179 m180 h9 h10 h11 (by decide) u181) ?_
                refine cs3 (n_affine_Area_0w h12 h15 h18 h13 h16 h19 h14 h17 h20 m157 m159 m160 h3 h4 h5 (by decide) e183 e184 e185) ?_
                simp only [HH, gW, gD]
                refine cs1 (n_vec_Dot_0w m186 m187 m188 m178 m179 m180 (by decide) e189) ?_
                refine cs1 (n_rat_Abs_f Y0 (m190.mono (by decide)) c191) ?_
                refine cs0 (n_rat_Sign (m194.mono (by decide))) ?_
                simp only [HH, gW, gD]
                refine primS (.bool true) (cs_gtr_t ((sg_gt Y0).2 (s_neg_n (b := Z0) Y0 e83 c82))) ?_
                refine itT rfl ?_
                refine cs0 (n_rat_Sign (m190.mono (by decide))) ?_
                refine cs1 (n_affine_Det_0w h12 h15 h18 h13 h16 h19 h14 h17 h20 m157 m159 m160 (by decide) u195) ?_
                refine cs0 (n_rat_Sign (m51.mono (by decide))) ?_
                simp only [HH, gW, gD]
                refine primS (.int .i64 (1)) (ii_mul (sgn_p Y0 c191 c197) (sgn_p Y0 (show ¬(Z1<Z0) by rw [Y1,Y0] <;> decide +kernel) (show ¬(Z1=Z0) by rw [Y1,Y0] <;> decide +kernel)) rfl) ?_
                refine primS (.bool false) rfl ?_
                exact ret_step rfl
              have hc202 : PureCalls prog F.dens_Transfer [.agg (gW [r6,r7,r8,r9,r10,r11]),.agg (gW [r0,r1,r2,r3,r4,r5]),.agg (gD [x12,x15,x18,x13,x16,x19,x14,x17,x20,q43,q44,q45])] [.agg (gD [Z0])] := by
                refine symFunc_sound hmix tree_dens_Transfer (by kernel_rfl) rfl ?_
                unfold ir_dens_Transfer
                simp only [HH, gW, gD]
                refine call_step hc201 rfl ?_
                simp only [HH, gW, gD]
                refine primS (.bool true) rfl ?_
                refine itT rfl ?_
                refine cs1 (n_rat_Of (0) (1) (by decide) (by decide) (by decide) (by decide) (Y0.trans (by decide +kernel))) ?_
                exact ret_step rfl
              refine call_step hc202 rfl ?_
              simp only [HH, gW, gD]
              have m203 : Num 1 (cr Z0) Z0 := Num.c Y0 (by decide +kernel) (by decide +kernel)
              refine cs0 (n_penumbraref03_Is_t (m203.mono (by decide)) (m203.mono (by decide)) rfl) ?_
              exact ret_step rfl
        · skip
          have m204 : Num 4029729758 (cr q73) q73 := Num.eqn e73 (Sm.add (Sm.add (Sm.mul m70.sm h3.sm) (Sm.mul m71.sm h4.sm)) (Sm.mul m72.sm h5.sm))
          by_cases c205 : Z0<q73
          · skip
            by_cases c206 : q80=Z0
            · skip
              have hc207 : PureCalls prog F.dens_seen [.agg (gW [r0,r1,r2,r3,r4,r5]),.agg (gW [r6,r7,r8,r9,r10,r11]),.agg (gD [x12,x13,x14,x15,x16,x17,x18,x19,x20,x21,x22,x23])] [.agg (gD [f48_0,f48_1,f48_2,f48_3,f48_4,f48_5,f48_6,f48_7,f48_8,q67,q68,q69,q73,q80]),.one (.bool false)] := by
                refine symFunc_sound hmix tree_dens_seen (by kernel_rfl) rfl ?_
                unfold ir_dens_seen
                simp only [HH, gW, gD]
                refine call_step hf48 rfl ?_
                simp only [HH, gW, gD]
                refine primS (.bool false) rfl ?_
                refine itF rfl ?_
                refine cs1 (n_vec_Dot_0w h9 h10 h11 h9 h10 h11 (by decide) e49) ?_
                refine cs1 (n_rat_Of (1) (1) (by decide) (by decide) (by decide) (by decide) (Y1.trans (by decide +kernel))) ?_
                refine cs0 (n_rat_Same_t (m50.mono (by decide)) (m51.mono (by decide)) c52) ?_
                simp only [HH, gW, gD]
                refine primS (.bool false) rfl ?_
                refine itF rfl ?_
                refine call_step hc63 rfl ?_
                simp only [HH, gW, gD]
                refine cs3 (n_vec_Sub_0w m64 m65 m66 h0 h1 h2 (by decide) e67 e68 e69) ?_
                refine cs1 (n_vec_Dot_0w m70 m71 m72 h3 h4 h5 (by decide) e73) ?_
                refine cs3 (n_affine_Area_0w h12 h13 h14 h15 h16 h17 h18 h19 h20 h21 h22 h23 h9 h10 h11 (by decide) e74 e75 e76) ?_
                simp only [HH, gW, gD]
                refine cs1 (n_vec_Dot_0w m77 m78 m79 m70 m71 m72 (by decide) e80) ?_
                refine cs1 (n_rat_Abs_f Y0 (m81.mono (by decide)) c82) ?_
                refine cs0 (n_rat_Sign (m204.mono (by decide))) ?_
                simp only [HH, gW, gD]
                refine primS (.bool true) (cs_gtr_t ((sg_gt Y0).2 c205)) ?_
                refine itT rfl ?_
                refine cs0 (n_rat_Sign (m81.mono (by decide))) ?_
                refine cs1 (n_affine_Det_0w h12 h13 h14 h15 h16 h17 h18 h19 h20 h21 h22 h23 (by decide) u23) ?_
                refine cs0 (n_rat_Sign (m51.mono (by decide))) ?_
                simp only [HH, gW, gD]
                refine primS (.int .i64 (0)) (ii_mul0 (sgn_z Y0 c206)) ?_
                refine primS (.bool false) rfl ?_
                exact ret_step rfl
              have hc208 : PureCalls prog F.dens_Transfer [.agg (gW [r0,r1,r2,r3,r4,r5]),.agg (gW [r6,r7,r8,r9,r10,r11]),.agg (gD [x12,x13,x14,x15,x16,x17,x18,x19,x20,x21,x22,x23])] [.agg (gD [Z0])] := by
                refine symFunc_sound hmix tree_dens_Transfer (by kernel_rfl) rfl ?_
                unfold ir_dens_Transfer
                simp only [HH, gW, gD]
                refine call_step hc207 rfl ?_
                simp only [HH, gW, gD]
                refine primS (.bool true) rfl ?_
                refine itT rfl ?_
                refine cs1 (n_rat_Of (0) (1) (by decide) (by decide) (by decide) (by decide) (Y0.trans (by decide +kernel))) ?_
                exact ret_step rfl
              refine call_step hc208 rfl ?_
              simp only [HH, gW, gD]
              obtain ⟨f209_0,f209_1,f209_2,f209_3,f209_4,f209_5,f209_6,f209_7,f209_8,hf209⟩ := frame_any (h9.mono (by decide)) (h10.mono (by decide)) (h11.mono (by decide)) ((e49.symm.trans c52).trans Y1)
              have m210 : Num 6291458 (cr q46) q46 := Num.eqn e46 (Sm.add (Sm.add (Sm.mul h3.sm h3.sm) (Sm.mul h4.sm h4.sm)) (Sm.mul h5.sm h5.sm))
              have m212 : Num 1 (cr Zm1) Zm1 := Num.c Ym1 (by decide +kernel) (by decide +kernel)
              have m211 : Num 2334000621 (cr q43) q43 := Num.eqn e43 (Sm.mul m212.sm (Sm.add (Sm.add (Sm.mul h12.sm h21.sm) (Sm.mul h15.sm h22.sm)) (Sm.mul h18.sm h23.sm)))
              have m213 : Num 2334000621 (cr q44) q44 := Num.eqn e44 (Sm.mul m212.sm (Sm.add (Sm.add (Sm.mul h13.sm h21.sm) (Sm.mul h16.sm h22.sm)) (Sm.mul h19.sm h23.sm)))
              have m214 : Num 2334000621 (cr q45) q45 := Num.eqn e45 (Sm.mul m212.sm (Sm.add (Sm.add (Sm.mul h14.sm h21.sm) (Sm.mul h17.sm h22.sm)) (Sm.mul h20.sm h23.sm)))
              obtain ⟨q215,e215⟩ := ex_eq (((x12*x0)+(x15*x1))+(x18*x2))
              obtain ⟨q216,e216⟩ := ex_eq (((x13*x0)+(x16*x1))+(x19*x2))
              obtain ⟨q217,e217⟩ := ex_eq (((x14*x0)+(x17*x1))+(x20*x2))
              have m219 : Num 843145973 (cr q215) q215 := Num.eqn e215 (Sm.add (Sm.add (Sm.mul h12.sm h0.sm) (Sm.mul h15.sm h1.sm)) (Sm.mul h18.sm h2.sm))
              have m220 : Num 843145973 (cr q216) q216 := Num.eqn e216 (Sm.add (Sm.add (Sm.mul h13.sm h0.sm) (Sm.mul h16.sm h1.sm)) (Sm.mul h19.sm h2.sm))
              have m221 : Num 843145973 (cr q217) q217 := Num.eqn e217 (Sm.add (Sm.add (Sm.mul h14.sm h0.sm) (Sm.mul h17.sm h1.sm)) (Sm.mul h20.sm h2.sm))
              obtain ⟨q222,e222⟩ := ex_eq (q215+q43)
              obtain ⟨q223,e223⟩ := ex_eq (q216+q44)
              obtain ⟨q224,e224⟩ := ex_eq (q217+q45)
              have hc225 : PureCalls prog F.affine_Apply [.agg (gD [x12,x15,x18,x13,x16,x19,x14,x17,x20,q43,q44,q45]),.agg (gW [r0,r1,r2])] [.agg (gD [q222,q223,q224])] := by
                refine symFunc_sound hmix tree_affine_Apply (by kernel_rfl) rfl ?_
                unfold ir_affine_Apply
                simp only [HH, gW, gD]
                refine cs3 (n_affine_Turn_0w h12 h15 h18 h13 h16 h19 h14 h17 h20 m211 m213 m214 h0 h1 h2 (by decide) e215 e216 e217) ?_
                refine primS (rl3 [((cr q215),(cr q216),(cr q217)),((cr q43),(cr q44),(cr q45))]) rfl ?_
                refine cs3 (n_vec_Sum_2 (o0 := q222) (o1 := q223) (o2 := q224) (m219.mono (by decide)) (m220.mono (by decide)) (m221.mono (by decide)) (m211.mono (by decide)) (m213.mono (by decide)) (m214.mono (by decide)) e222 e223 e224) ?_
                exact ret_step rfl
              have m226 : Num 3177146595 (cr q222) q222 := Num.eqn e222 (Sm.add m219.sm m211.sm)
              have m227 : Num 3177146595 (cr q223) q223 := Num.eqn e223 (Sm.add m220.sm m213.sm)
              have m228 : Num 3177146595 (cr q224) q224 := Num.eqn e224 (Sm.add m221.sm m214.sm)
              obtain ⟨q229,e229⟩ := ex_eq (q222-x6)
              obtain ⟨q230,e230⟩ := ex_eq (q223-x7)
              obtain ⟨q231,e231⟩ := ex_eq (q224-x8)
              have m232 : Num 3178195172 (cr q229) q229 := Num.eqn e229 (Sm.sub m226.sm h6.sm)
              have m233 : Num 3178195172 (cr q230) q230 := Num.eqn e230 (Sm.sub m227.sm h7.sm)
              have m234 : Num 3178195172 (cr q231) q231 := Num.eqn e231 (Sm.sub m228.sm h8.sm)
              have u235 : Z0=(((q229*x9)+(q230*x10))+(q231*x11)) := (al236 Ym1 Y0 Y1 e215 e43 e222 e229 e216 e44 e223 e230 e217 e45 e224 e231 e46 e49 e74 e53 e60 e67 e75 e54 e61 e68 e76 e55 e62 e69 e80 e73 hp c47 c52 c82 c205 c206)
              obtain ⟨q237,e237⟩ := ex_eq (((((x16*x20)-(x19*x17))*x3)+(((x19*x14)-(x13*x20))*x4))+(((x13*x17)-(x16*x14))*x5))
              obtain ⟨q238,e238⟩ := ex_eq (((((x17*x18)-(x20*x15))*x3)+(((x20*x12)-(x14*x18))*x4))+(((x14*x15)-(x17*x12))*x5))
              obtain ⟨q239,e239⟩ := ex_eq (((((x15*x19)-(x18*x16))*x3)+(((x18*x13)-(x12*x19))*x4))+(((x12*x16)-(x15*x13))*x5))
              have m240 : Num 3363146705 (cr q237) q237 := Num.eqn e237 (Sm.add (Sm.add (Sm.mul (Sm.sub (Sm.mul h16.sm h20.sm) (Sm.mul h19.sm h17.sm)) h3.sm) (Sm.mul (Sm.sub (Sm.mul h19.sm h14.sm) (Sm.mul h13.sm h20.sm)) h4.sm)) (Sm.mul (Sm.sub (Sm.mul h13.sm h17.sm) (Sm.mul h16.sm h14.sm)) h5.sm))
              have m241 : Num 3363146705 (cr q238) q238 := Num.eqn e238 (Sm.add (Sm.add (Sm.mul (Sm.sub (Sm.mul h17.sm h18.sm) (Sm.mul h20.sm h15.sm)) h3.sm) (Sm.mul (Sm.sub (Sm.mul h20.sm h12.sm) (Sm.mul h14.sm h18.sm)) h4.sm)) (Sm.mul (Sm.sub (Sm.mul h14.sm h15.sm) (Sm.mul h17.sm h12.sm)) h5.sm))
              have m242 : Num 3363146705 (cr q239) q239 := Num.eqn e239 (Sm.add (Sm.add (Sm.mul (Sm.sub (Sm.mul h15.sm h19.sm) (Sm.mul h18.sm h16.sm)) h3.sm) (Sm.mul (Sm.sub (Sm.mul h18.sm h13.sm) (Sm.mul h12.sm h19.sm)) h4.sm)) (Sm.mul (Sm.sub (Sm.mul h12.sm h16.sm) (Sm.mul h15.sm h13.sm)) h5.sm))
              obtain ⟨q243,e243⟩ := ex_eq (((q237*q229)+(q238*q230))+(q239*q231))
              have m244 : Num 19624025633 (cr q243) q243 := Num.eqn e243 (Sm.add (Sm.add (Sm.mul m240.sm m232.sm) (Sm.mul m241.sm m233.sm)) (Sm.mul m242.sm m234.sm))
              have u246 : q243=(-q73) := (al247 Ym1 Y0 Y1 e237 e215 e43 e222 e229 e238 e216 e44 e223 e230 e239 e217 e45 e224 e231 e243 e53 e60 e67 e54 e61 e68 e55 e62 e69 e73 e46 e49 e74 e75 e76 e80 hp c47 c52 c82 c205 c206)
              have c245 : (q243<Z0) := (neg_l Y0 u246 c205)
              have u248 : q73=(-q243) := (al249 Ym1 Y0 Y1 e53 e60 e67 e54 e61 e68 e55 e62 e69 e73 e237 e215 e43 e222 e229 e238 e216 e44 e223 e230 e239 e217 e45 e224 e231 e243 e46 e49 e74 e75 e76 e80 hp c47 c52 c82 c205 c206 c245)
              have m250 : Num 1 (cr Z0) Z0 := Num.c Y0 (by decide +kernel) (by decide +kernel)
              have hc251 : PureCalls prog F.dens_seen [.agg (gW [r6,r7,r8,r9,r10,r11]),.agg (gW [r0,r1,r2,r3,r4,r5]),.agg (gD [x12,x15,x18,x13,x16,x19,x14,x17,x20,q43,q44,q45])] [.agg (gD [f209_0,f209_1,f209_2,f209_3,f209_4,f209_5,f209_6,f209_7,f209_8,q229,q230,q231,Z0,q73]),.one (.bool false)] := by
                refine symFunc_sound hmix tree_dens_seen (by kernel_rfl) rfl ?_
                unfold ir_dens_seen
                simp only [HH, gW, gD]
                refine call_step hf209 rfl ?_
                simp only [HH, gW, gD]
                refine primS (.bool false) rfl ?_
                refine itF rfl ?_
                refine cs1 (n_vec_Dot_0w h3 h4 h5 h3 h4 h5 (by decide) e46) ?_
                refine cs1 (n_rat_Of (1) (1) (by decide) (by decide) (by decide) (by decide) (Y1.trans (by decide +kernel))) ?_
                refine cs0 (n_rat_Same_t (m210.mono (by decide)) (m51.mono (by decide)) c47) ?_
                simp only [HH, gW, gD]
                refine primS (.bool false) rfl ?_
                refine itF rfl ?_
                refine call_step hc225 rfl ?_
                simp only [HH, gW, gD]
                refine cs3 (n_vec_Sub_0w m226 m227 m228 h6 h7 h8 (by decide) e229 e230 e231) ?_
                refine cs1 (n_vec_Dot_0w m232 m233 m234 h9 h10 h11 (by decide) u235) ?_
                refine cs3 (n_affine_Area_0w h12 h15 h18 h13 h16 h19 h14 h17 h20 m211 m213 m214 h3 h4 h5 (by decide) e237 e238 e239) ?_
                simp only [HH, gW, gD]
                refine cs1 (n_vec_Dot_0w m240 m241 m242 m232 m233 m234 (by decide) e243) ?_
                refine cs1 (n_rat_Abs_t Y0 (m244.mono (by decide)) u248 c245) ?_
                refine cs0 (n_rat_Sign (m250.mono (by decide))) ?_
                simp only [HH, gW, gD]
                refine primS (.bool false) (cs_gtr_f (fun z => (Rat.lt_irrefl) ((sg_gt Y0).1 z))) ?_
                refine itF rfl ?_
                exact ret_step rfl
              have hc252 : PureCalls prog F.dens_Transfer [.agg (gW [r6,r7,r8,r9,r10,r11]),.agg (gW [r0,r1,r2,r3,r4,r5]),.agg (gD [x12,x15,x18,x13,x16,x19,x14,x17,x20,q43,q44,q45])] [.agg (gD [Z0])] := by
                refine symFunc_sound hmix tree_dens_Transfer (by kernel_rfl) rfl ?_
                unfold ir_dens_Transfer
                simp only [HH, gW, gD]
                refine call_step hc251 rfl ?_
                simp only [HH, gW, gD]
                refine primS (.bool true) rfl ?_
                refine itT rfl ?_
                refine cs1 (n_rat_Of (0) (1) (by decide) (by decide) (by decide) (by decide) (Y0.trans (by decide +kernel))) ?_
                exact ret_step rfl
              refine call_step hc252 rfl ?_
              simp only [HH, gW, gD]
              refine cs0 (n_penumbraref03_Is_t (m250.mono (by decide)) (m250.mono (by decide)) rfl) ?_
              exact ret_step rfl
            · skip
              have hc253 : PureCalls prog F.dens_seen [.agg (gW [r0,r1,r2,r3,r4,r5]),.agg (gW [r6,r7,r8,r9,r10,r11]),.agg (gD [x12,x13,x14,x15,x16,x17,x18,x19,x20,x21,x22,x23])] [.agg (gD [f48_0,f48_1,f48_2,f48_3,f48_4,f48_5,f48_6,f48_7,f48_8,q67,q68,q69,q73,q80]),.one (.bool false)] := by
                refine symFunc_sound hmix tree_dens_seen (by kernel_rfl) rfl ?_
                unfold ir_dens_seen
                simp only [HH, gW, gD]
                refine call_step hf48 rfl ?_
                simp only [HH, gW, gD]
                refine primS (.bool false) rfl ?_
                refine itF rfl ?_
                refine cs1 (n_vec_Dot_0w h9 h10 h11 h9 h10 h11 (by decide) e49) ?_
                refine cs1 (n_rat_Of (1) (1) (by decide) (by decide) (by decide) (by decide) (Y1.trans (by decide +kernel))) ?_
                refine cs0 (n_rat_Same_t (m50.mono (by decide)) (m51.mono (by decide)) c52) ?_
                simp only [HH, gW, gD]
                refine primS (.bool false) rfl ?_
                refine itF rfl ?_
                refine call_step hc63 rfl ?_
                simp only [HH, gW, gD]
                refine cs3 (n_vec_Sub_0w m64 m65 m66 h0 h1 h2 (by decide) e67 e68 e69) ?_
                refine cs1 (n_vec_Dot_0w m70 m71 m72 h3 h4 h5 (by decide) e73) ?_
                refine cs3 (n_affine_Area_0w h12 h13 h14 h15 h16 h17 h18 h19 h20 h21 h22 h23 h9 h10 h11 (by decide) e74 e75 e76) ?_
                simp only [HH, gW, gD]
                refine cs1 (n_vec_Dot_0w m77 m78 m79 m70 m71 m72 (by decide) e80) ?_
                refine cs1 (n_rat_Abs_f Y0 (m81.mono (by decide)) c82) ?_
                refine cs0 (n_rat_Sign (m204.mono (by decide))) ?_
                simp only [HH, gW, gD]
                refine primS (.bool true) (cs_gtr_t ((sg_gt Y0).2 c205)) ?_
                refine itT rfl ?_
                refine cs0 (n_rat_Sign (m81.mono (by decide))) ?_
                refine cs1 (n_affine_Det_0w h12 h13 h14 h15 h16 h17 h18 h19 h20 h21 h22 h23 (by decide) u23) ?_
                refine cs0 (n_rat_Sign (m51.mono (by decide))) ?_
                simp only [HH, gW, gD]
                refine primS (.int .i64 (1)) (ii_mul (sgn_p Y0 c82 c206) (sgn_p Y0 (show ¬(Z1<Z0) by rw [Y1,Y0] <;> decide +kernel) (show ¬(Z1=Z0) by rw [Y1,Y0] <;> decide +kernel)) rfl) ?_
                refine primS (.bool false) rfl ?_
                exact ret_step rfl
              have hc254 : PureCalls prog F.dens_Transfer [.agg (gW [r0,r1,r2,r3,r4,r5]),.agg (gW [r6,r7,r8,r9,r10,r11]),.agg (gD [x12,x13,x14,x15,x16,x17,x18,x19,x20,x21,x22,x23])] [.agg (gD [Z0])] := by
                refine symFunc_sound hmix tree_dens_Transfer (by kernel_rfl) rfl ?_
                unfold ir_dens_Transfer
                simp only [HH, gW, gD]
                refine call_step hc253 rfl ?_
                simp only [HH, gW, gD]
                refine primS (.bool true) rfl ?_
                refine itT rfl ?_
                refine cs1 (n_rat_Of (0) (1) (by decide) (by decide) (by decide) (by decide) (Y0.trans (by decide +kernel))) ?_
                exact ret_step rfl
              refine call_step hc254 rfl ?_
              simp only [HH, gW, gD]
              obtain ⟨f255_0,f255_1,f255_2,f255_3,f255_4,f255_5,f255_6,f255_7,f255_8,hf255⟩ := frame_any (h9.mono (by decide)) (h10.mono (by decide)) (h11.mono (by decide)) ((e49.symm.trans c52).trans Y1)
              have m256 : Num 6291458 (cr q46) q46 := Num.eqn e46 (Sm.add (Sm.add (Sm.mul h3.sm h3.sm) (Sm.mul h4.sm h4.sm)) (Sm.mul h5.sm h5.sm))
              have m258 : Num 1 (cr Zm1) Zm1 := Num.c Ym1 (by decide +kernel) (by decide +kernel)
              have m257 : Num 2334000621 (cr q43) q43 := Num.eqn e43 (Sm.mul m258.sm (Sm.add (Sm.add (Sm.mul h12.sm h21.sm) (Sm.mul h15.sm h22.sm)) (Sm.mul h18.sm h23.sm)))
              have m259 : Num 2334000621 (cr q44) q44 := Num.eqn e44 (Sm.mul m258.sm (Sm.add (Sm.add (Sm.mul h13.sm h21.sm) (Sm.mul h16.sm h22.sm)) (Sm.mul h19.sm h23.sm)))
              have m260 : Num 2334000621 (cr q45) q45 := Num.eqn e45 (Sm.mul m258.sm (Sm.add (Sm.add (Sm.mul h14.sm h21.sm) (Sm.mul h17.sm h22.sm)) (Sm.mul h20.sm h23.sm)))
              obtain ⟨q261,e261⟩ := ex_eq (((x12*x0)+(x15*x1))+(x18*x2))
              obtain ⟨q262,e262⟩ := ex_eq (((x13*x0)+(x16*x1))+(x19*x2))
              obtain ⟨q263,e263⟩ := ex_eq (((x14*x0)+(x17*x1))+(x20*x2))
              have m265 : Num 843145973 (cr q261) q261 := Num.eqn e261 (Sm.add (Sm.add (Sm.mul h12.sm h0.sm) (Sm.mul h15.sm h1.sm)) (Sm.mul h18.sm h2.sm))
              have m266 : Num 843145973 (cr q262) q262 := Num.eqn e262 (Sm.add (Sm.add (Sm.mul h13.sm h0.sm) (Sm.mul h16.sm h1.sm)) (Sm.mul h19.sm h2.sm))
              have m267 : Num 843145973 (cr q263) q263 := Num.eqn e263 (Sm.add (Sm.add (Sm.mul h14.sm h0.sm) (Sm.mul h17.sm h1.sm)) (Sm.mul h20.sm h2.sm))
              obtain ⟨q268,e268⟩ := ex_eq (q261+q43)
              obtain ⟨q269,e269⟩ := ex_eq (q262+q44)
              obtain ⟨q270,e270⟩ := ex_eq (q263+q45)
              have hc271 : PureCalls prog F.affine_Apply [.agg (gD [x12,x15,x18,x13,x16,x19,x14,x17,x20,q43,q44,q45]),.agg (gW [r0,r1,r2])] [.agg (gD [q268,q269,q270])] := by
                refine symFunc_sound hmix tree_affine_Apply (by kernel_rfl) rfl ?_
                unfold ir_affine_Apply
                simp only [HH, gW, gD]
                refine cs3 (n_affine_Turn_0w h12 h15 h18 h13 h16 h19 h14 h17 h20 m257 m259 m260 h0 h1 h2 (by decide) e261 e262 e263) ?_
                refine primS (rl3 [((cr q261),(cr q262),(cr q263)),((cr q43),(cr q44),(cr q45))]) rfl ?_
                refine cs3 (n_vec_Sum_2 (o0 := q268) (o1 := q269) (o2 := q270) (m265.mono (by decide)) (m266.mono (by decide)) (m267.mono (by decide)) (m257.mono (by decide)) (m259.mono (by decide)) (m260.mono (by decide)) e268 e269 e270) ?_
                exact ret_step rfl
              have m272 : Num 3177146595 (cr q268) q268 := Num.eqn e268 (Sm.add m265.sm m257.sm)
              have m273 : Num 3177146595 (cr q269) q269 := Num.eqn e269 (Sm.add m266.sm m259.sm)
              have m274 : Num 3177146595 (cr q270) q270 := Num.eqn e270 (Sm.add m267.sm m260.sm)
              obtain ⟨q275,e275⟩ := ex_eq (q268-x6)
              obtain ⟨q276,e276⟩ := ex_eq (q269-x7)
              obtain ⟨q277,e277⟩ := ex_eq (q270-x8)
              have m278 : Num 3178195172 (cr q275) q275 := Num.eqn e275 (Sm.sub m272.sm h6.sm)
              have m279 : Num 3178195172 (cr q276) q276 := Num.eqn e276 (Sm.sub m273.sm h7.sm)
              have m280 : Num 3178195172 (cr q277) q277 := Num.eqn e277 (Sm.sub m274.sm h8.sm)
              obtain ⟨q281,e281⟩ := ex_eq (((q275*x9)+(q276*x10))+(q277*x11))
              obtain ⟨q282,e282⟩ := ex_eq (((((x16*x20)-(x19*x17))*x3)+(((x19*x14)-(x13*x20))*x4))+(((x13*x17)-(x16*x14))*x5))
              obtain ⟨q283,e283⟩ := ex_eq (((((x17*x18)-(x20*x15))*x3)+(((x20*x12)-(x14*x18))*x4))+(((x14*x15)-(x17*x12))*x5))
              obtain ⟨q284,e284⟩ := ex_eq (((((x15*x19)-(x18*x16))*x3)+(((x18*x13)-(x12*x19))*x4))+(((x12*x16)-(x15*x13))*x5))
              have m285 : Num 3363146705 (cr q282) q282 := Num.eqn e282 (Sm.add (Sm.add (Sm.mul (Sm.sub (Sm.mul h16.sm h20.sm) (Sm.mul h19.sm h17.sm)) h3.sm) (Sm.mul (Sm.sub (Sm.mul h19.sm h14.sm) (Sm.mul h13.sm h20.sm)) h4.sm)) (Sm.mul (Sm.sub (Sm.mul h13.sm h17.sm) (Sm.mul h16.sm h14.sm)) h5.sm))
              have m286 : Num 3363146705 (cr q283) q283 := Num.eqn e283 (Sm.add (Sm.add (Sm.mul (Sm.sub (Sm.mul h17.sm h18.sm) (Sm.mul h20.sm h15.sm)) h3.sm) (Sm.mul (Sm.sub (Sm.mul h20.sm h12.sm) (Sm.mul h14.sm h18.sm)) h4.sm)) (Sm.mul (Sm.sub (Sm.mul h14.sm h15.sm) (Sm.mul h17.sm h12.sm)) h5.sm))
              have m287 : Num 3363146705 (cr q284) q284 := Num.eqn e284 (Sm.add (Sm.add (Sm.mul (Sm.sub (Sm.mul h15.sm h19.sm) (Sm.mul h18.sm h16.sm)) h3.sm) (Sm.mul (Sm.sub (Sm.mul h18.sm h13.sm) (Sm.mul h12.sm h19.sm)) h4.sm)) (Sm.mul (Sm.sub (Sm.mul h12.sm h16.sm) (Sm.mul h15.sm h13.sm)) h5.sm))
              obtain ⟨q288,e288⟩ := ex_eq (((q282*q275)+(q283*q276))+(q284*q277))
              have m289 : Num 19624025633 (cr q288) q288 := Num.eqn e288 (Sm.add (Sm.add (Sm.mul m285.sm m278.sm) (Sm.mul m286.sm m279.sm)) (Sm.mul m287.sm m280.sm))
              have u291 : q288=(-q73) := (al292 Ym1 Y0 Y1 e282 e261 e43 e268 e275 e283 e262 e44 e269 e276 e284 e263 e45 e270 e277 e288 e53 e60 e67 e54 e61 e68 e55 e62 e69 e73 e46 e49 e74 e75 e76 e80 hp c47 c52 c82 c205 c206)
              have c290 : (q288<Z0) := (neg_l Y0 u291 c205)
              have u293 : q73=(-q288) := (al294 Ym1 Y0 Y1 e53 e60 e67 e54 e61 e68 e55 e62 e69 e73 e282 e261 e43 e268 e275 e283 e262 e44 e269 e276 e284 e263 e45 e270 e277 e288 e46 e49 e74 e75 e76 e80 hp c47 c52 c82 c205 c206 c290)
              have m295 : Num 9537731246 (cr q281) q281 := Num.eqn e281 (Sm.add (Sm.add (Sm.mul m278.sm h9.sm) (Sm.mul m279.sm h10.sm)) (Sm.mul m280.sm h11.sm))
              have u297 : q281=(-q80) := (al298 Ym1 Y0 Y1 e261 e43 e268 e275 e262 e44 e269 e276 e263 e45 e270 e277 e281 e74 e53 e60 e67 e75 e54 e61 e68 e76 e55 e62 e69 e80 e46 e49 e73 e282 e283 e284 e288 hp c47 c52 c82 c205 c206 c290)
              have c296 : ¬(Z0<q281) := (neg_gn Y0 u297 c82)
              have hc299 : PureCalls prog F.dens_seen [.agg (gW [r6,r7,r8,r9,r10,r11]),.agg (gW [r0,r1,r2,r3,r4,r5]),.agg (gD [x12,x15,x18,x13,x16,x19,x14,x17,x20,q43,q44,q45])] [.agg (gD [f255_0,f255_1,f255_2,f255_3,f255_4,f255_5,f255_6,f255_7,f255_8,q275,q276,q277,q281,q73]),.one (.bool false)] := by
                refine symFunc_sound hmix tree_dens_seen (by kernel_rfl) rfl ?_
                unfold ir_dens_seen
                simp only [HH, gW, gD]
                refine call_step hf255 rfl ?_
                simp only [HH, gW, gD]
                refine primS (.bool false) rfl ?_
                refine itF rfl ?_
                refine cs1 (n_vec_Dot_0w h3 h4 h5 h3 h4 h5 (by decide) e46) ?_
                refine cs1 (n_rat_Of (1) (1) (by decide) (by decide) (by decide) (by decide) (Y1.trans (by decide +kernel))) ?_
                refine cs0 (n_rat_Same_t (m256.mono (by decide)) (m51.mono (by decide)) c47) ?_
                simp only [HH, gW, gD]
                refine primS (.bool false) rfl ?_
                refine itF rfl ?_
                refine call_step hc271 rfl ?_
                simp only [HH, gW, gD]
                refine cs3 (n_vec_Sub_0w m272 m273 m274 h6 h7 h8 (by decide) e275 e276 e277) ?_
                refine cs1 (n_vec_Dot_0w m278 m279 m280 h9 h10 h11 (by decide) e281) ?_
                refine cs3 (n_affine_Area_0w h12 h15 h18 h13 h16 h19 h14 h17 h20 m257 m259 m260 h3 h4 h5 (by decide) e282 e283 e284) ?_
                simp only [HH, gW, gD]
                refine cs1 (n_vec_Dot_0w m285 m286 m287 m278 m279 m280 (by decide) e288) ?_
                refine cs1 (n_rat_Abs_t Y0 (m289.mono (by decide)) u293 c290) ?_
                refine cs0 (n_rat_Sign (m295.mono (by decide))) ?_
                simp only [HH, gW, gD]
                refine primS (.bool false) (cs_gtr_f (fun z => c296 ((sg_gt Y0).1 z))) ?_
                refine itF rfl ?_
                exact ret_step rfl
              have hc300 : PureCalls prog F.dens_Transfer [.agg (gW [r6,r7,r8,r9,r10,r11]),.agg (gW [r0,r1,r2,r3,r4,r5]),.agg (gD [x12,x15,x18,x13,x16,x19,x14,x17,x20,q43,q44,q45])] [.agg (gD [Z0])] := by
                refine symFunc_sound hmix tree_dens_Transfer (by kernel_rfl) rfl ?_
                unfold ir_dens_Transfer
                simp only [HH, gW, gD]
                refine call_step hc299 rfl ?_
                simp only [HH, gW, gD]
                refine primS (.bool true) rfl ?_
                refine itT rfl ?_
                refine cs1 (n_rat_Of (0) (1) (by decide) (by decide) (by decide) (by decide) (Y0.trans (by decide +kernel))) ?_
                exact ret_step rfl
              refine call_step hc300 rfl ?_
              simp only [HH, gW, gD]
              have m301 : Num 1 (cr Z0) Z0 := Num.c Y0 (by decide +kernel) (by decide +kernel)
              refine cs0 (n_penumbraref03_Is_t (m301.mono (by decide)) (m301.mono (by decide)) rfl) ?_
              exact ret_step rfl
          · skip
            have hc302 : PureCalls prog F.dens_seen [.agg (gW [r0,r1,r2,r3,r4,r5]),.agg (gW [r6,r7,r8,r9,r10,r11]),.agg (gD [x12,x13,x14,x15,x16,x17,x18,x19,x20,x21,x22,x23])] [.agg (gD [f48_0,f48_1,f48_2,f48_3,f48_4,f48_5,f48_6,f48_7,f48_8,q67,q68,q69,q73,q80]),.one (.bool false)] := by
              refine symFunc_sound hmix tree_dens_seen (by kernel_rfl) rfl ?_
              unfold ir_dens_seen
              simp only [HH, gW, gD]
              refine call_step hf48 rfl ?_
              simp only [HH, gW, gD]
              refine primS (.bool false) rfl ?_
              refine itF rfl ?_
              refine cs1 (n_vec_Dot_0w h9 h10 h11 h9 h10 h11 (by decide) e49) ?_
              refine cs1 (n_rat_Of (1) (1) (by decide) (by decide) (by decide) (by decide) (Y1.trans (by decide +kernel))) ?_
              refine cs0 (n_rat_Same_t (m50.mono (by decide)) (m51.mono (by decide)) c52) ?_
              simp only [HH, gW, gD]
              refine primS (.bool false) rfl ?_
              refine itF rfl ?_
              refine call_step hc63 rfl ?_
              simp only [HH, gW, gD]
              refine cs3 (n_vec_Sub_0w m64 m65 m66 h0 h1 h2 (by decide) e67 e68 e69) ?_
              refine cs1 (n_vec_Dot_0w m70 m71 m72 h3 h4 h5 (by decide) e73) ?_
              refine cs3 (n_affine_Area_0w h12 h13 h14 h15 h16 h17 h18 h19 h20 h21 h22 h23 h9 h10 h11 (by decide) e74 e75 e76) ?_
              simp only [HH, gW, gD]
              refine cs1 (n_vec_Dot_0w m77 m78 m79 m70 m71 m72 (by decide) e80) ?_
              refine cs1 (n_rat_Abs_f Y0 (m81.mono (by decide)) c82) ?_
              refine cs0 (n_rat_Sign (m204.mono (by decide))) ?_
              simp only [HH, gW, gD]
              refine primS (.bool false) (cs_gtr_f (fun z => c205 ((sg_gt Y0).1 z))) ?_
              refine itF rfl ?_
              exact ret_step rfl
            have hc303 : PureCalls prog F.dens_Transfer [.agg (gW [r0,r1,r2,r3,r4,r5]),.agg (gW [r6,r7,r8,r9,r10,r11]),.agg (gD [x12,x13,x14,x15,x16,x17,x18,x19,x20,x21,x22,x23])] [.agg (gD [Z0])] := by
              refine symFunc_sound hmix tree_dens_Transfer (by kernel_rfl) rfl ?_
              unfold ir_dens_Transfer
              simp only [HH, gW, gD]
              refine call_step hc302 rfl ?_
              simp only [HH, gW, gD]
              refine primS (.bool true) rfl ?_
              refine itT rfl ?_
              refine cs1 (n_rat_Of (0) (1) (by decide) (by decide) (by decide) (by decide) (Y0.trans (by decide +kernel))) ?_
              exact ret_step rfl
            refine call_step hc303 rfl ?_
            simp only [HH, gW, gD]
            obtain ⟨f304_0,f304_1,f304_2,f304_3,f304_4,f304_5,f304_6,f304_7,f304_8,hf304⟩ := frame_any (h9.mono (by decide)) (h10.mono (by decide)) (h11.mono (by decide)) ((e49.symm.trans c52).trans Y1)
            have m305 : Num 6291458 (cr q46) q46 := Num.eqn e46 (Sm.add (Sm.add (Sm.mul h3.sm h3.sm) (Sm.mul h4.sm h4.sm)) (Sm.mul h5.sm h5.sm))
            have m307 : Num 1 (cr Zm1) Zm1 := Num.c Ym1 (by decide +kernel) (by decide +kernel)
            have m306 : Num 2334000621 (cr q43) q43 := Num.eqn e43 (Sm.mul m307.sm (Sm.add (Sm.add (Sm.mul h12.sm h21.sm) (Sm.mul h15.sm h22.sm)) (Sm.mul h18.sm h23.sm)))
            have m308 : Num 2334000621 (cr q44) q44 := Num.eqn e44 (Sm.mul m307.sm (Sm.add (Sm.add (Sm.mul h13.sm h21.sm) (Sm.mul h16.sm h22.sm)) (Sm.mul h19.sm h23.sm)))
            have m309 : Num 2334000621 (cr q45) q45 := Num.eqn e45 (Sm.mul m307.sm (Sm.add (Sm.add (Sm.mul h14.sm h21.sm) (Sm.mul h17.sm h22.sm)) (Sm.mul h20.sm h23.sm)))
            obtain ⟨q310,e310⟩ := ex_eq (((x12*x0)+(x15*x1))+(x18*x2))
            obtain ⟨q311,e311⟩ := ex_eq (((x13*x0)+(x16*x1))+(x19*x2))
            obtain ⟨q312,e312⟩ := ex_eq (((x14*x0)+(x17*x1))+(x20*x2))
            have m314 : Num 843145973 (cr q310) q310 := Num.eqn e310 (Sm.add (Sm.add (Sm.mul h12.sm h0.sm) (Sm.mul h15.sm h1.sm)) (Sm.mul h18.sm h2.sm))
            have m315 : Num 843145973 (cr q311) q311 := Num.eqn e311 (Sm.add (Sm.add (Sm.mul h13.sm h0.sm) (Sm.mul h16.sm h1.sm)) (Sm.mul h19.sm h2.sm))
            have m316 : Num 843145973 (cr q312) q312 := Num.eqn e312 (Sm.add (Sm.add (Sm.mul h14.sm h0.sm) (Sm.mul h17.sm h1.sm)) (Sm.mul h20.sm h2.sm))
            obtain ⟨q317,e317⟩ := ex_eq (q310+q43)
            obtain ⟨q318,e318⟩ := ex_eq (q311+q44)
            obtain ⟨q319,e319⟩ := ex_eq (q312+q45)
            have hc320 : PureCalls prog F.affine_Apply [.agg (gD [x12,x15,x18,x13,x16,x19,x14,x17,x20,q43,q44,q45]),.agg (gW [r0,r1,r2])] [.agg (gD [q317,q318,q319])] := by
              refine symFunc_sound hmix tree_affine_Apply (by kernel_rfl) rfl ?_
              unfold ir_affine_Apply
              simp only [HH, gW, gD]
              refine cs3 (n_affine_Turn_0w h12 h15 h18 h13 h16 h19 h14 h17 h20 m306 m308 m309 h0 h1 h2 (by decide) e310 e311 e312) ?_
              refine primS (rl3 [((cr q310),(cr q311),(cr q312)),((cr q43),(cr q44),(cr q45))]) rfl ?_
              refine cs3 (n_vec_Sum_2 (o0 := q317) (o1 := q318) (o2 := q319) (m314.mono (by decide)) (m315.mono (by decide)) (m316.mono (by decide)) (m306.mono (by decide)) (m308.mono (by decide)) (m309.mono (by decide)) e317 e318 e319) ?_
              exact ret_step rfl
            have m321 : Num 3177146595 (cr q317) q317 := Num.eqn e317 (Sm.add m314.sm m306.sm)
            have m322 : Num 3177146595 (cr q318) q318 := Num.eqn e318 (Sm.add m315.sm m308.sm)
            have m323 : Num 3177146595 (cr q319) q319 := Num.eqn e319 (Sm.add m316.sm m309.sm)
            obtain ⟨q324,e324⟩ := ex_eq (q317-x6)
            obtain ⟨q325,e325⟩ := ex_eq (q318-x7)
            obtain ⟨q326,e326⟩ := ex_eq (q319-x8)
            have m327 : Num 3178195172 (cr q324) q324 := Num.eqn e324 (Sm.sub m321.sm h6.sm)
            have m328 : Num 3178195172 (cr q325) q325 := Num.eqn e325 (Sm.sub m322.sm h7.sm)
            have m329 : Num 3178195172 (cr q326) q326 := Num.eqn e326 (Sm.sub m323.sm h8.sm)
            obtain ⟨q330,e330⟩ := ex_eq (((q324*x9)+(q325*x10))+(q326*x11))
            obtain ⟨q331,e331⟩ := ex_eq (((((x16*x20)-(x19*x17))*x3)+(((x19*x14)-(x13*x20))*x4))+(((x13*x17)-(x16*x14))*x5))
            obtain ⟨q332,e332⟩ := ex_eq (((((x17*x18)-(x20*x15))*x3)+(((x20*x12)-(x14*x18))*x4))+(((x14*x15)-(x17*x12))*x5))
            obtain ⟨q333,e333⟩ := ex_eq (((((x15*x19)-(x18*x16))*x3)+(((x18*x13)-(x12*x19))*x4))+(((x12*x16)-(x15*x13))*x5))
            have m334 : Num 3363146705 (cr q331) q331 := Num.eqn e331 (Sm.add (Sm.add (Sm.mul (Sm.sub (Sm.mul h16.sm h20.sm) (Sm.mul h19.sm h17.sm)) h3.sm) (Sm.mul (Sm.sub (Sm.mul h19.sm h14.sm) (Sm.mul h13.sm h20.sm)) h4.sm)) (Sm.mul (Sm.sub (Sm.mul h13.sm h17.sm) (Sm.mul h16.sm h14.sm)) h5.sm))
            have m335 : Num 3363146705 (cr q332) q332 := Num.eqn e332 (Sm.add (Sm.add (Sm.mul (Sm.sub (Sm.mul h17.sm h18.sm) (Sm.mul h20.sm h15.sm)) h3.sm) (Sm.mul (Sm.sub (Sm.mul h20.sm h12.sm) (Sm.mul h14.sm h18.sm)) h4.sm)) (Sm.mul (Sm.sub (Sm.mul h14.sm h15.sm) (Sm.mul h17.sm h12.sm)) h5.sm))
            have m336 : Num 3363146705 (cr q333) q333 := Num.eqn e333 (Sm.add (Sm.add (Sm.mul (Sm.sub (Sm.mul h15.sm h19.sm) (Sm.mul h18.sm h16.sm)) h3.sm) (Sm.mul (Sm.sub (Sm.mul h18.sm h13.sm) (Sm.mul h12.sm h19.sm)) h4.sm)) (Sm.mul (Sm.sub (Sm.mul h12.sm h16.sm) (Sm.mul h15.sm h13.sm)) h5.sm))
            obtain ⟨q337,e337⟩ := ex_eq (((q331*q324)+(q332*q325))+(q333*q326))
            have m338 : Num 19624025633 (cr q337) q337 := Num.eqn e337 (Sm.add (Sm.add (Sm.mul m334.sm m327.sm) (Sm.mul m335.sm m328.sm)) (Sm.mul m336.sm m329.sm))
            have u340 : q337=(-q73) := (al341 Ym1 Y0 Y1 e331 e310 e43 e317 e324 e332 e311 e44 e318 e325 e333 e312 e45 e319 e326 e337 e53 e60 e67 e54 e61 e68 e55 e62 e69 e73 e46 e49 e74 e75 e76 e80 hp c47 c52 c82 c205)
            have c339 : ¬(q337<Z0) := (neg_ln Y0 u340 c205)
            have m342 : Num 9537731246 (cr q330) q330 := Num.eqn e330 (Sm.add (Sm.add (Sm.mul m327.sm h9.sm) (Sm.mul m328.sm h10.sm)) (Sm.mul m329.sm h11.sm))
            have u344 : q330=(-q80) := (al345 Ym1 Y0 Y1 e310 e43 e317 e324 e311 e44 e318 e325 e312 e45 e319 e326 e330 e74 e53 e60 e67 e75 e54 e61 e68 e76 e55 e62 e69 e80 e46 e49 e73 e331 e332 e333 e337 hp c47 c52 c82 c205 c339)
            have c343 : ¬(Z0<q330) := (neg_gn Y0 u344 c82)
            have hc346 : PureCalls prog F.dens_seen [.agg (gW [r6,r7,r8,r9,r10,r11]),.agg (gW [r0,r1,r2,r3,r4,r5]),.agg (gD [x12,x15,x18,x13,x16,x19,x14,x17,x20,q43,q44,q45])] [.agg (gD [f304_0,f304_1,f304_2,f304_3,f304_4,f304_5,f304_6,f304_7,f304_8,q324,q325,q326,q330,q337]),.one (.bool false)] := by
              refine symFunc_sound hmix tree_dens_seen (by kernel_rfl) rfl ?_
              unfold ir_dens_seen
              simp only [HH, gW, gD]
              refine call_step hf304 rfl ?_
              simp only [HH, gW, gD]
              refine primS (.bool false) rfl ?_
              refine itF rfl ?_
              refine cs1 (n_vec_Dot_0w h3 h4 h5 h3 h4 h5 (by decide) e46) ?_
              refine cs1 (n_rat_Of (1) (1) (by decide) (by decide) (by decide) (by decide) (Y1.trans (by decide +kernel))) ?_
              refine cs0 (n_rat_Same_t (m305.mono (by decide)) (m51.mono (by decide)) c47) ?_
              simp only [HH, gW, gD]
              refine primS (.bool false) rfl ?_
              refine itF rfl ?_
              refine call_step hc320 rfl ?_
              simp only [HH, gW, gD]
              refine cs3 (n_vec_Sub_0w m321 m322 m323 h6 h7 h8 (by decide) e324 e325 e326) ?_
              refine cs1 (n_vec_Dot_0w m327 m328 m329 h9 h10 h11 (by decide) e330) ?_
              refine cs3 (n_affine_Area_0w h12 h15 h18 h13 h16 h19 h14 h17 h20 m306 m308 m309 h3 h4 h5 (by decide) e331 e332 e333) ?_
              simp only [HH, gW, gD]
              refine cs1 (n_vec_Dot_0w m334 m335 m336 m327 m328 m329 (by decide) e337) ?_
              refine cs1 (n_rat_Abs_f Y0 (m338.mono (by decide)) c339) ?_
              refine cs0 (n_rat_Sign (m342.mono (by decide))) ?_
              simp only [HH, gW, gD]
              refine primS (.bool false) (cs_gtr_f (fun z => c343 ((sg_gt Y0).1 z))) ?_
              refine itF rfl ?_
              exact ret_step rfl
            have hc347 : PureCalls prog F.dens_Transfer [.agg (gW [r6,r7,r8,r9,r10,r11]),.agg (gW [r0,r1,r2,r3,r4,r5]),.agg (gD [x12,x15,x18,x13,x16,x19,x14,x17,x20,q43,q44,q45])] [.agg (gD [Z0])] := by
              refine symFunc_sound hmix tree_dens_Transfer (by kernel_rfl) rfl ?_
              unfold ir_dens_Transfer
              simp only [HH, gW, gD]
              refine call_step hc346 rfl ?_
              simp only [HH, gW, gD]
              refine primS (.bool true) rfl ?_
              refine itT rfl ?_
              refine cs1 (n_rat_Of (0) (1) (by decide) (by decide) (by decide) (by decide) (Y0.trans (by decide +kernel))) ?_
              exact ret_step rfl
            refine call_step hc347 rfl ?_
            simp only [HH, gW, gD]
            have m348 : Num 1 (cr Z0) Z0 := Num.c Y0 (by decide +kernel) (by decide +kernel)
            refine cs0 (n_penumbraref03_Is_t (m348.mono (by decide)) (m348.mono (by decide)) rfl) ?_
            exact ret_step rfl
      · skip
        have hc349 : PureCalls prog F.dens_seen [.agg (gW [r0,r1,r2,r3,r4,r5]),.agg (gW [r6,r7,r8,r9,r10,r11]),.agg (gD [x12,x13,x14,x15,x16,x17,x18,x19,x20,x21,x22,x23])] [.agg (gW [rz,rz,rz,rz,rz,rz,rz,rz,rz,rz,rz,rz,rz,rz]),.one (.bool false)] := by
          refine symFunc_sound hmix tree_dens_seen (by kernel_rfl) rfl ?_
          unfold ir_dens_seen
          simp only [HH, gW, gD]
          refine call_step hf48 rfl ?_
          simp only [HH, gW, gD]
          refine primS (.bool false) rfl ?_
          refine itF rfl ?_
          refine cs1 (n_vec_Dot_0w h9 h10 h11 h9 h10 h11 (by decide) e49) ?_
          refine cs1 (n_rat_Of (1) (1) (by decide) (by decide) (by decide) (by decide) (Y1.trans (by decide +kernel))) ?_
          refine cs0 (n_rat_Same_f (m50.mono (by decide)) (m51.mono (by decide)) c52) ?_
          simp only [HH, gW, gD]
          refine primS (.bool true) rfl ?_
          refine itT rfl ?_
          exact ret_step rfl
        have hc350 : PureCalls prog F.dens_Transfer [.agg (gW [r0,r1,r2,r3,r4,r5]),.agg (gW [r6,r7,r8,r9,r10,r11]),.agg (gD [x12,x13,x14,x15,x16,x17,x18,x19,x20,x21,x22,x23])] [.agg (gD [Z0])] := by
          refine symFunc_sound hmix tree_dens_Transfer (by kernel_rfl) rfl ?_
          unfold ir_dens_Transfer
          simp only [HH, gW, gD]
          refine call_step hc349 rfl ?_
          simp only [HH, gW, gD]
          refine primS (.bool true) rfl ?_
          refine itT rfl ?_
          refine cs1 (n_rat_Of (0) (1) (by decide) (by decide) (by decide) (by decide) (Y0.trans (by decide +kernel))) ?_
          exact ret_step rfl
        refine call_step hc350 rfl ?_
        simp only [HH, gW, gD]
        have hc351 : PureCalls prog F.dens_seen [.agg (gW [r6,r7,r8,r9,r10,r11]),.agg (gW [r0,r1,r2,r3,r4,r5]),.agg (gD [x12,x15,x18,x13,x16,x19,x14,x17,x20,q43,q44,q45])] [.agg (gW [rz,rz,rz,rz,rz,rz,rz,rz,rz,rz,rz,rz,rz,rz]),.one (.bool false)] := by
          refine symFunc_sound hmix tree_dens_seen (by kernel_rfl) rfl ?_
          unfold ir_dens_seen
          simp only [HH, gW, gD]
          refine call_step (n_frame_Of_2 Y0 Y1 (h9.mono (by decide)) (h10.mono (by decide)) (h11.mono (by decide)) rfl (fun z => c52 (e49.trans z))) rfl ?_
          simp only [HH, gW, gD]
          refine primS (.bool true) rfl ?_
          refine itT rfl ?_
          exact ret_step rfl
        have hc352 : PureCalls prog F.dens_Transfer [.agg (gW [r6,r7,r8,r9,r10,r11]),.agg (gW [r0,r1,r2,r3,r4,r5]),.agg (gD [x12,x15,x18,x13,x16,x19,x14,x17,x20,q43,q44,q45])] [.agg (gD [Z0])] := by
          refine symFunc_sound hmix tree_dens_Transfer (by kernel_rfl) rfl ?_
          unfold ir_dens_Transfer
          simp only [HH, gW, gD]
          refine call_step hc351 rfl ?_
          simp only [HH, gW, gD]
          refine primS (.bool true) rfl ?_
          refine itT rfl ?_
          refine cs1 (n_rat_Of (0) (1) (by decide) (by decide) (by decide) (by decide) (Y0.trans (by decide +kernel))) ?_
          exact ret_step rfl
        refine call_step hc352 rfl ?_
        simp only [HH, gW, gD]
        have m353 : Num 1 (cr Z0) Z0 := Num.c Y0 (by decide +kernel) (by decide +kernel)
        refine cs0 (n_penumbraref03_Is_t (m353.mono (by decide)) (m353.mono (by decide)) rfl) ?_
        exact ret_step rfl
    · skip
      have hc354 : PureCalls prog F.dens_seen [.agg (gW [r0,r1,r2,r3,r4,r5]),.agg (gW [r6,r7,r8,r9,r10,r11]),.agg (gD [x12,x13,x14,x15,x16,x17,x18,x19,x20,x21,x22,x23])] [.agg (gW [rz,rz,rz,rz,rz,rz,rz,rz,rz,rz,rz,rz,rz,rz]),.one (.bool false)] := by
        refine symFunc_sound hmix tree_dens_seen (by kernel_rfl) rfl ?_
        unfold ir_dens_seen
        simp only [HH, gW, gD]
        refine call_step (n_frame_Of_2 Y0 Y1 (h3.mono (by decide)) (h4.mono (by decide)) (h5.mono (by decide)) rfl (fun z => c47 (e46.trans z))) rfl ?_
        simp only [HH, gW, gD]
        refine primS (.bool true) rfl ?_
        refine itT rfl ?_
        exact ret_step rfl
      have hc355 : PureCalls prog F.dens_Transfer [.agg (gW [r0,r1,r2,r3,r4,r5]),.agg (gW [r6,r7,r8,r9,r10,r11]),.agg (gD [x12,x13,x14,x15,x16,x17,x18,x19,x20,x21,x22,x23])] [.agg (gD [Z0])] := by
        refine symFunc_sound hmix tree_dens_Transfer (by kernel_rfl) rfl ?_
        unfold ir_dens_Transfer
        simp only [HH, gW, gD]
        refine call_step hc354 rfl ?_
        simp only [HH, gW, gD]
        refine primS (.bool true) rfl ?_
        refine itT rfl ?_
        refine cs1 (n_rat_Of (0) (1) (by decide) (by decide) (by decide) (by decide) (Y0.trans (by decide +kernel))) ?_
        exact ret_step rfl
      refine call_step hc355 rfl ?_
      simp only [HH, gW, gD]
      obtain ⟨q356,e356⟩ := ex_eq (((x9*x9)+(x10*x10))+(x11*x11))
      by_cases c357 : q356=Z1
      · skip
        obtain ⟨f358_0,f358_1,f358_2,f358_3,f358_4,f358_5,f358_6,f358_7,f358_8,hf358⟩ := frame_any (h9.mono (by decide)) (h10.mono (by decide)) (h11.mono (by decide)) ((e356.symm.trans c357).trans Y1)
        have m359 : Num 6291458 (cr q46) q46 := Num.eqn e46 (Sm.add (Sm.add (Sm.mul h3.sm h3.sm) (Sm.mul h4.sm h4.sm)) (Sm.mul h5.sm h5.sm))
        have m360 : Num 1 (cr Z1) Z1 := Num.c Y1 (by decide +kernel) (by decide +kernel)
        have hc361 : PureCalls prog F.dens_seen [.agg (gW [r6,r7,r8,r9,r10,r11]),.agg (gW [r0,r1,r2,r3,r4,r5]),.agg (gD [x12,x15,x18,x13,x16,x19,x14,x17,x20,q43,q44,q45])] [.agg (gW [rz,rz,rz,rz,rz,rz,rz,rz,rz,rz,rz,rz,rz,rz]),.one (.bool false)] := by
          refine symFunc_sound hmix tree_dens_seen (by kernel_rfl) rfl ?_
          unfold ir_dens_seen
          simp only [HH, gW, gD]
          refine call_step hf358 rfl ?_
          simp only [HH, gW, gD]
          refine primS (.bool false) rfl ?_
          refine itF rfl ?_
          refine cs1 (n_vec_Dot_0w h3 h4 h5 h3 h4 h5 (by decide) e46) ?_
          refine cs1 (n_rat_Of (1) (1) (by decide) (by decide) (by decide) (by decide) (Y1.trans (by decide +kernel))) ?_
          refine cs0 (n_rat_Same_f (m359.mono (by decide)) (m360.mono (by decide)) c47) ?_
          simp only [HH, gW, gD]
          refine primS (.bool true) rfl ?_
          refine itT rfl ?_
          exact ret_step rfl
        have hc362 : PureCalls prog F.dens_Transfer [.agg (gW [r6,r7,r8,r9,r10,r11]),.agg (gW [r0,r1,r2,r3,r4,r5]),.agg (gD [x12,x15,x18,x13,x16,x19,x14,x17,x20,q43,q44,q45])] [.agg (gD [Z0])] := by
          refine symFunc_sound hmix tree_dens_Transfer (by kernel_rfl) rfl ?_
          unfold ir_dens_Transfer
          simp only [HH, gW, gD]
          refine call_step hc361 rfl ?_
          simp only [HH, gW, gD]
          refine primS (.bool true) rfl ?_
          refine itT rfl ?_
          refine cs1 (n_rat_Of (0) (1) (by decide) (by decide) (by decide) (by decide) (Y0.trans (by decide +kernel))) ?_
          exact ret_step rfl
        refine call_step hc362 rfl ?_
        simp only [HH, gW, gD]
        have m363 : Num 1 (cr Z0) Z0 := Num.c Y0 (by decide +kernel) (by decide +kernel)
        refine cs0 (n_penumbraref03_Is_t (m363.mono (by decide)) (m363.mono (by decide)) rfl) ?_
        exact ret_step rfl
      · skip
        have hc364 : PureCalls prog F.dens_seen [.agg (gW [r6,r7,r8,r9,r10,r11]),.agg (gW [r0,r1,r2,r3,r4,r5]),.agg (gD [x12,x15,x18,x13,x16,x19,x14,x17,x20,q43,q44,q45])] [.agg (gW [rz,rz,rz,rz,rz,rz,rz,rz,rz,rz,rz,rz,rz,rz]),.one (.bool false)] := by
          refine symFunc_sound hmix tree_dens_seen (by kernel_rfl) rfl ?_
          unfold ir_dens_seen
          simp only [HH, gW, gD]
          refine call_step (n_frame_Of_2 Y0 Y1 (h9.mono (by decide)) (h10.mono (by decide)) (h11.mono (by decide)) rfl (fun z => c357 (e356.trans z))) rfl ?_
          simp only [HH, gW, gD]
          refine primS (.bool true) rfl ?_
          refine itT rfl ?_
          exact ret_step rfl
        have hc365 : PureCalls prog F.dens_Transfer [.agg (gW [r6,r7,r8,r9,r10,r11]),.agg (gW [r0,r1,r2,r3,r4,r5]),.agg (gD [x12,x15,x18,x13,x16,x19,x14,x17,x20,q43,q44,q45])] [.agg (gD [Z0])] := by
          refine symFunc_sound hmix tree_dens_Transfer (by kernel_rfl) rfl ?_
          unfold ir_dens_Transfer
          simp only [HH, gW, gD]
          refine call_step hc364 rfl ?_
          simp only [HH, gW, gD]
          refine primS (.bool true) rfl ?_
          refine itT rfl ?_
          refine cs1 (n_rat_Of (0) (1) (by decide) (by decide) (by decide) (by decide) (Y0.trans (by decide +kernel))) ?_
          exact ret_step rfl
        refine call_step hc365 rfl ?_
        simp only [HH, gW, gD]
        have m366 : Num 1 (cr Z0) Z0 := Num.c Y0 (by decide +kernel) (by decide +kernel)
        refine cs0 (n_penumbraref03_Is_t (m366.mono (by decide)) (m366.mono (by decide)) rfl) ?_
        exact ret_step rfl
  · skip
    have c367 : ((x16*x20)-(x17*x19))=(-x12) := by have y := o0; grind
    have c368 : ((x17*x18)-(x15*x20))=(-x13) := by have y := o1; grind
    have c369 : ((x15*x19)-(x16*x18))=(-x14) := by have y := o2; grind
    have c370 : ((x19*x14)-(x20*x13))=(-x15) := by have y := o3; grind
    have c371 : ((x20*x12)-(x18*x14))=(-x16) := by have y := o4; grind
    have c372 : ((x18*x13)-(x19*x12))=(-x17) := by have y := o5; grind
    have c373 : ((x13*x17)-(x14*x16))=(-x18) := by have y := o6; grind
    have c374 : ((x14*x15)-(x12*x17))=(-x19) := by have y := o7; grind
    have c375 : ((x12*x16)-(x13*x15))=(-x20) := by have y := o8; grind
    have c376 : (((x12*((x16*x20)-(x17*x19)))+(x13*((x17*x18)-(x15*x20))))+(x14*((x15*x19)-(x16*x18))))=Zm1 := by have y := o10; rw [Ym1]; grind
    have c377 : (((x12*x12)+(x15*x15))+(x18*x18))=Z1 := by have y := o11; rw [Y1]; grind
    have c378 : (((x12*x13)+(x15*x16))+(x18*x19))=Z0 := by have y := o12; rw [Y0]; grind
    have c379 : (((x12*x14)+(x15*x17))+(x18*x20))=Z0 := by have y := o13; rw [Y0]; grind
    have c380 : (((x13*x13)+(x16*x16))+(x19*x19))=Z1 := by have y := o14; rw [Y1]; grind
    have c381 : (((x13*x14)+(x16*x17))+(x19*x20))=Z0 := by have y := o15; rw [Y0]; grind
    have c382 : (((x14*x14)+(x17*x17))+(x20*x20))=Z1 := by have y := o16; rw [Y1]; grind
    have c383 : (((x12*x12)+(x13*x13))+(x14*x14))=Z1 := by have y := o17; rw [Y1]; grind
    have c384 : (((x12*x15)+(x13*x16))+(x14*x17))=Z0 := by have y := o18; rw [Y0]; grind
    have c385 : (((x12*x18)+(x13*x19))+(x14*x20))=Z0 := by have y := o19; rw [Y0]; grind
    have c386 : (((x15*x15)+(x16*x16))+(x17*x17))=Z1 := by have y := o20; rw [Y1]; grind
    have c387 : (((x15*x18)+(x16*x19))+(x17*x20))=Z0 := by have y := o21; rw [Y0]; grind
    have c388 : (((x18*x18)+(x19*x19))+(x20*x20))=Z1 := by have y := o22; rw [Y1]; grind
    refine call_step hm rfl ?_
    simp only [HH, gW, gD]
    have u389 : Zm1=(((x12*((x16*x20)-(x17*x19)))+(x13*((x17*x18)-(x15*x20))))+(x14*((x15*x19)-(x16*x18)))) := (al390 Ym1 hp)
    have u391 : x12=(Zm1*((x16*x20)-(x17*x19))) := (al392 Ym1 hp)
    have u393 : x15=(Zm1*((x19*x14)-(x20*x13))) := (al394 Ym1 hp)
    have u395 : x18=(Zm1*((x13*x17)-(x14*x16))) := (al396 Ym1 hp)
    have u397 : x13=(Zm1*((x17*x18)-(x15*x20))) := (al398 Ym1 hp)
    have u399 : x16=(Zm1*((x20*x12)-(x18*x14))) := (al400 Ym1 hp)
    have u401 : x19=(Zm1*((x14*x15)-(x12*x17))) := (al402 Ym1 hp)
    have u403 : x14=(Zm1*((x15*x19)-(x16*x18))) := (al404 Ym1 hp)
    have u405 : x17=(Zm1*((x18*x13)-(x19*x12))) := (al406 Ym1 hp)
    have u407 : x20=(Zm1*((x12*x16)-(x13*x15))) := (al408 Ym1 hp)
    obtain ⟨q409,e409⟩ := ex_eq (Zm1*(((x12*x21)+(x15*x22))+(x18*x23)))
    obtain ⟨q410,e410⟩ := ex_eq (Zm1*(((x13*x21)+(x16*x22))+(x19*x23)))
    obtain ⟨q411,e411⟩ := ex_eq (Zm1*(((x14*x21)+(x17*x22))+(x20*x23)))
    refine call_step (n_affine_Inverse_1w (k1 := Zm1) Ym1 Y0 Y1 h12 h13 h14 h15 h16 h17 h18 h19 h20 h21 h22 h23 (by decide) u389 (by rw [Ym1,Y1] <;> decide +kernel) u391 u393 u395 u397 u399 u401 u403 u405 u407 e409 e410 e411 (show ¬(Zm1=Z0) by rw [Ym1,Y0] <;> decide +kernel)) rfl ?_
    simp only [HH, gW, gD]
    refine cs0 n_penumbralaw16_fixed ?_
    refine itT rfl ?_
    refine itT rfl ?_
    obtain ⟨q412,e412⟩ := ex_eq (((x3*x3)+(x4*x4))+(x5*x5))
    by_cases c413 : q412=Z1
    · skip
      obtain ⟨f414_0,f414_1,f414_2,f414_3,f414_4,f414_5,f414_6,f414_7,f414_8,hf414⟩ := frame_any (h3.mono (by decide)) (h4.mono (by decide)) (h5.mono (by decide)) ((e412.symm.trans c413).trans Y1)
      obtain ⟨q415,e415⟩ := ex_eq (((x9*x9)+(x10*x10))+(x11*x11))
      have m416 : Num 6291458 (cr q415) q415 := Num.eqn e415 (Sm.add (Sm.add (Sm.mul h9.sm h9.sm) (Sm.mul h10.sm h10.sm)) (Sm.mul h11.sm h11.sm))
      have m417 : Num 1 (cr Z1) Z1 := Num.c Y1 (by decide +kernel) (by decide +kernel)
      by_cases c418 : q415=Z1
      · skip
        obtain ⟨q419,e419⟩ := ex_eq (((x12*x6)+(x13*x7))+(x14*x8))
        obtain ⟨q420,e420⟩ := ex_eq (((x15*x6)+(x16*x7))+(x17*x8))
        obtain ⟨q421,e421⟩ := ex_eq (((x18*x6)+(x19*x7))+(x20*x8))
        have m423 : Num 843145973 (cr q419) q419 := Num.eqn e419 (Sm.add (Sm.add (Sm.mul h12.sm h6.sm) (Sm.mul h13.sm h7.sm)) (Sm.mul h14.sm h8.sm))
        have m424 : Num 843145973 (cr q420) q420 := Num.eqn e420 (Sm.add (Sm.add (Sm.mul h15.sm h6.sm) (Sm.mul h16.sm h7.sm)) (Sm.mul h17.sm h8.sm))
        have m425 : Num 843145973 (cr q421) q421 := Num.eqn e421 (Sm.add (Sm.add (Sm.mul h18.sm h6.sm) (Sm.mul h19.sm h7.sm)) (Sm.mul h20.sm h8.sm))
        obtain ⟨q426,e426⟩ := ex_eq (q419+x21)
        obtain ⟨q427,e427⟩ := ex_eq (q420+x22)
        obtain ⟨q428,e428⟩ := ex_eq (q421+x23)
        have hc429 : PureCalls prog F.affine_Apply [.agg (gD [x12,x13,x14,x15,x16,x17,x18,x19,x20,x21,x22,x23]),.agg (gW [r6,r7,r8])] [.agg (gD [q426,q427,q428])] := by
          refine symFunc_sound hmix tree_affine_Apply (by kernel_rfl) rfl ?_
          unfold ir_affine_Apply
          simp only [HH, gW, gD]
          refine cs3 (n_affine_Turn_0w h12 h13 h14 h15 h16 h17 h18 h19 h20 h21 h22 h23 h6 h7 h8 (by decide) e419 e420 e421) ?_
          refine primS (rl3 [((cr q419),(cr q420),(cr q421)),((cr x21),(cr x22),(cr x23))]) rfl ?_
          refine cs3 (n_vec_Sum_2 (o0 := q426) (o1 := q427) (o2 := q428) (m423.mono (by decide)) (m424.mono (by decide)) (m425.mono (by decide)) (h21.mono (by decide)) (h22.mono (by decide)) (h23.mono (by decide)) e426 e427 e428) ?_
          exact ret_step rfl
        have m430 : Num 1341146099 (cr q426) q426 := Num.eqn e426 (Sm.add m423.sm h21.sm)
        have m431 : Num 1341146099 (cr q427) q427 := Num.eqn e427 (Sm.add m424.sm h22.sm)
        have m432 : Num 1341146099 (cr q428) q428 := Num.eqn e428 (Sm.add m425.sm h23.sm)
        obtain ⟨q433,e433⟩ := ex_eq (q426-x0)
        obtain ⟨q434,e434⟩ := ex_eq (q427-x1)
        obtain ⟨q435,e435⟩ := ex_eq (q428-x2)
        have m436 : Num 1342194676 (cr q433) q433 := Num.eqn e433 (Sm.sub m430.sm h0.sm)
        have m437 : Num 1342194676 (cr q434) q434 := Num.eqn e434 (Sm.sub m431.sm h1.sm)
        have m438 : Num 1342194676 (cr q435) q435 := Num.eqn e435 (Sm.sub m432.sm h2.sm)
        obtain ⟨q439,e439⟩ := ex_eq (((q433*x3)+(q434*x4))+(q435*x5))
        obtain ⟨q440,e440⟩ := ex_eq (((((x16*x20)-(x17*x19))*x9)+(((x17*x18)-(x15*x20))*x10))+(((x15*x19)-(x16*x18))*x11))
        obtain ⟨q441,e441⟩ := ex_eq (((((x19*x14)-(x20*x13))*x9)+(((x20*x12)-(x18*x14))*x10))+(((x18*x13)-(x19*x12))*x11))
        obtain ⟨q442,e442⟩ := ex_eq (((((x13*x17)-(x14*x16))*x9)+(((x14*x15)-(x12*x17))*x10))+(((x12*x16)-(x13*x15))*x11))
        have m443 : Num 3363146705 (cr q440) q440 := Num.eqn e440 (Sm.add (Sm.add (Sm.mul (Sm.sub (Sm.mul h16.sm h20.sm) (Sm.mul h17.sm h19.sm)) h9.sm) (Sm.mul (Sm.sub (Sm.mul h17.sm h18.sm) (Sm.mul h15.sm h20.sm)) h10.sm)) (Sm.mul (Sm.sub (Sm.mul h15.sm h19.sm) (Sm.mul h16.sm h18.sm)) h11.sm))
        have m444 : Num 3363146705 (cr q441) q441 := Num.eqn e441 (Sm.add (Sm.add (Sm.mul (Sm.sub (Sm.mul h19.sm h14.sm) (Sm.mul h20.sm h13.sm)) h9.sm) (Sm.mul (Sm.sub (Sm.mul h20.sm h12.sm) (Sm.mul h18.sm h14.sm)) h10.sm)) (Sm.mul (Sm.sub (Sm.mul h18.sm h13.sm) (Sm.mul h19.sm h12.sm)) h11.sm))
        have m445 : Num 3363146705 (cr q442) q442 := Num.eqn e442 (Sm.add (Sm.add (Sm.mul (Sm.sub (Sm.mul h13.sm h17.sm) (Sm.mul h14.sm h16.sm)) h9.sm) (Sm.mul (Sm.sub (Sm.mul h14.sm h15.sm) (Sm.mul h12.sm h17.sm)) h10.sm)) (Sm.mul (Sm.sub (Sm.mul h12.sm h16.sm) (Sm.mul h13.sm h15.sm)) h11.sm))
        obtain ⟨q446,e446⟩ := ex_eq (((q440*q433)+(q441*q434))+(q442*q435))
        have m447 : Num 14116024145 (cr q446) q446 := Num.eqn e446 (Sm.add (Sm.add (Sm.mul m443.sm m436.sm) (Sm.mul m444.sm m437.sm)) (Sm.mul m445.sm m438.sm))
        by_cases c448 : q446<Z0
        · skip
          obtain ⟨q449,e449⟩ := ex_eq (-q446)
          have m450 : Num 4029729758 (cr q439) q439 := Num.eqn e439 (Sm.add (Sm.add (Sm.mul m436.sm h3.sm) (Sm.mul m437.sm h4.sm)) (Sm.mul m438.sm h5.sm))
          by_cases c451 : Z0<q439
          · skip
            have m452 : Num 1 (cr Zm1) Zm1 := Num.c Ym1 (by decide +kernel) (by decide +kernel)
            have hc453 : PureCalls prog F.dens_seen [.agg (gW [r0,r1,r2,r3,r4,r5]),.agg (gW [r6,r7,r8,r9,r10,r11]),.agg (gD [x12,x13,x14,x15,x16,x17,x18,x19,x20,x21,x22,x23])] [.agg (gD [f414_0,f414_1,f414_2,f414_3,f414_4,f414_5,f414_6,f414_7,f414_8,q433,q434,q435,q439,q449]),.one (.bool false)] := by
              refine symFunc_sound hmix tree_dens_seen (by kernel_rfl) rfl ?_
              unfold ir_dens_seen
              simp only [HH, gW, gD]
              refine call_step hf414 rfl ?_
              simp only [HH, gW, gD]
              refine primS (.bool false) rfl ?_
              refine itF rfl ?_
              refine cs1 (n_vec_Dot_0w h9 h10 h11 h9 h10 h11 (by decide) e415) ?_
              refine cs1 (n_rat_Of (1) (1) (by decide) (by decide) (by decide) (by decide) (Y1.trans (by decide +kernel))) ?_
              refine cs0 (n_rat_Same_t (m416.mono (by decide)) (m417.mono (by decide)) c418) ?_
              simp only [HH, gW, gD]
              refine primS (.bool false) rfl ?_
              refine itF rfl ?_
              refine call_step hc429 rfl ?_
              simp only [HH, gW, gD]
              refine cs3 (n_vec_Sub_0w m430 m431 m432 h0 h1 h2 (by decide) e433 e434 e435) ?_
              refine cs1 (n_vec_Dot_0w m436 m437 m438 h3 h4 h5 (by decide) e439) ?_
              refine cs3 (n_affine_Area_0w h12 h13 h14 h15 h16 h17 h18 h19 h20 h21 h22 h23 h9 h10 h11 (by decide) e440 e441 e442) ?_
              simp only [HH, gW, gD]
              refine cs1 (n_vec_Dot_0w m443 m444 m445 m436 m437 m438 (by decide) e446) ?_
              refine cs1 (n_rat_Abs_t Y0 (m447.mono (by decide)) e449 c448) ?_
              refine cs0 (n_rat_Sign (m450.mono (by decide))) ?_
              simp only [HH, gW, gD]
              refine primS (.bool true) (cs_gtr_t ((sg_gt Y0).2 c451)) ?_
              refine itT rfl ?_
              refine cs0 (n_rat_Sign (m447.mono (by decide))) ?_
              refine cs1 (n_affine_Det_0w h12 h13 h14 h15 h16 h17 h18 h19 h20 h21 h22 h23 (by decide) u389) ?_
              refine cs0 (n_rat_Sign (m452.mono (by decide))) ?_
              simp only [HH, gW, gD]
              refine primS (.int .i64 (1)) (ii_mul (sgn_m Y0 c448) (sgn_m Y0 (show (Zm1<Z0) by rw [Ym1,Y0] <;> decide +kernel)) rfl) ?_
              refine primS (.bool false) rfl ?_
              exact ret_step rfl
            have hc454 : PureCalls prog F.dens_Transfer [.agg (gW [r0,r1,r2,r3,r4,r5]),.agg (gW [r6,r7,r8,r9,r10,r11]),.agg (gD [x12,x13,x14,x15,x16,x17,x18,x19,x20,x21,x22,x23])] [.agg (gD [Z0])] := by
              refine symFunc_sound hmix tree_dens_Transfer (by kernel_rfl) rfl ?_
              unfold ir_dens_Transfer
              simp only [HH, gW, gD]
              refine call_step hc453 rfl ?_
              simp only [HH, gW, gD]
              refine primS (.bool true) rfl ?_
              refine itT rfl ?_
              refine cs1 (n_rat_Of (0) (1) (by decide) (by decide) (by decide) (by decide) (Y0.trans (by decide +kernel))) ?_
              exact ret_step rfl
            refine call_step hc454 rfl ?_
            simp only [HH, gW, gD]
            obtain ⟨f455_0,f455_1,f455_2,f455_3,f455_4,f455_5,f455_6,f455_7,f455_8,hf455⟩ := frame_any (h9.mono (by decide)) (h10.mono (by decide)) (h11.mono (by decide)) ((e415.symm.trans c418).trans Y1)
            have m456 : Num 6291458 (cr q412) q412 := Num.eqn e412 (Sm.add (Sm.add (Sm.mul h3.sm h3.sm) (Sm.mul h4.sm h4.sm)) (Sm.mul h5.sm h5.sm))
            have m457 : Num 2334000621 (cr q409) q409 := Num.eqn e409 (Sm.mul m452.sm (Sm.add (Sm.add (Sm.mul h12.sm h21.sm) (Sm.mul h15.sm h22.sm)) (Sm.mul h18.sm h23.sm)))
            have m458 : Num 2334000621 (cr q410) q410 := Num.eqn e410 (Sm.mul m452.sm (Sm.add (Sm.add (Sm.mul h13.sm h21.sm) (Sm.mul h16.sm h22.sm)) (Sm.mul h19.sm h23.sm)))
            have m459 : Num 2334000621 (cr q411) q411 := Num.eqn e411 (Sm.mul m452.sm (Sm.add (Sm.add (Sm.mul h14.sm h21.sm) (Sm.mul h17.sm h22.sm)) (Sm.mul h20.sm h23.sm)))
            obtain ⟨q460,e460⟩ := ex_eq (((x12*x0)+(x15*x1))+(x18*x2))
            obtain ⟨q461,e461⟩ := ex_eq (((x13*x0)+(x16*x1))+(x19*x2))
            obtain ⟨q462,e462⟩ := ex_eq (((x14*x0)+(x17*x1))+(x20*x2))
            have m464 : Num 843145973 (cr q460) q460 := Num.eqn e460 (Sm.add (Sm.add (Sm.mul h12.sm h0.sm) (Sm.mul h15.sm h1.sm)) (Sm.mul h18.sm h2.sm))
            have m465 : Num 843145973 (cr q461) q461 := Num.eqn e461 (Sm.add (Sm.add (Sm.mul h13.sm h0.sm) (Sm.mul h16.sm h1.sm)) (Sm.mul h19.sm h2.sm))
            have m466 : Num 843145973 (cr q462) q462 := Num.eqn e462 (Sm.add (Sm.add (Sm.mul h14.sm h0.sm) (Sm.mul h17.sm h1.sm)) (Sm.mul h20.sm h2.sm))
            obtain ⟨q467,e467⟩ := ex_eq (q460+q409)
            obtain ⟨q468,e468⟩ := ex_eq (q461+q410)
            obtain ⟨q469,e469⟩ := ex_eq (q462+q411)
            have hc470 : PureCalls prog F.affine_Apply [.agg (gD [x12,x15,x18,x13,x16,x19,x14,x17,x20,q409,q410,q411]),.agg (gW [r0,r1,r2])] [.agg (gD [q467,q468,q469])] := by
              refine symFunc_sound hmix tree_affine_Apply (by kernel_rfl) rfl ?_
              unfold ir_affine_Apply
              simp only [HH, gW, gD]
              refine cs3 (n_affine_Turn_0w h12 h15 h18 h13 h16 h19 h14 h17 h20 m457 m458 m459 h0 h1 h2 (by decide) e460 e461 e462) ?_
              refine primS (rl3 [((cr q460),(cr q461),(cr q462)),((cr q409),(cr q410),(cr q411))]) rfl ?_
              refine cs3 (n_vec_Sum_2 (o0 := q467) (o1 := q468) (o2 := q469) (m464.mono (by decide)) (m465.mono (by decide)) (m466.mono (by decide)) (m457.mono (by decide)) (m458.mono (by decide)) (m459.mono (by decide)) e467 e468 e469) ?_
              exact ret_step rfl
            have m471 : Num 3177146595 (cr q467) q467 := Num.eqn e467 (Sm.add m464.sm m457.sm)
            have m472 : Num 3177146595 (cr q468) q468 := Num.eqn e468 (Sm.add m465.sm m458.sm)
            have m473 : Num 3177146595 (cr q469) q469 := Num.eqn e469 (Sm.add m466.sm m459.sm)
            obtain ⟨q474,e474⟩ := ex_eq (q467-x6)
            obtain ⟨q475,e475⟩ := ex_eq (q468-x7)
            obtain ⟨q476,e476⟩ := ex_eq (q469-x8)
            have m477 : Num 3178195172 (cr q474) q474 := Num.eqn e474 (Sm.sub m471.sm h6.sm)
            have m478 : Num 3178195172 (cr q475) q475 := Num.eqn e475 (Sm.sub m472.sm h7.sm)
            have m479 : Num 3178195172 (cr q476) q476 := Num.eqn e476 (Sm.sub m473.sm h8.sm)
            have u480 : q446=(((q474*x9)+(q475*x10))+(q476*x11)) := (al481 Ym1 Y0 Y1 e440 e419 e426 e433 e441 e420 e427 e434 e442 e421 e428 e435 e446 e460 e409 e467 e474 e461 e410 e468 e475 e462 e411 e469 e476 e412 e415 e439 hp c413 c418 c448 c451)
            obtain ⟨q482,e482⟩ := ex_eq (((((x16*x20)-(x19*x17))*x3)+(((x19*x14)-(x13*x20))*x4))+(((x13*x17)-(x16*x14))*x5))
            obtain ⟨q483,e483⟩ := ex_eq (((((x17*x18)-(x20*x15))*x3)+(((x20*x12)-(x14*x18))*x4))+(((x14*x15)-(x17*x12))*x5))
            obtain ⟨q484,e484⟩ := ex_eq (((((x15*x19)-(x18*x16))*x3)+(((x18*x13)-(x12*x19))*x4))+(((x12*x16)-(x15*x13))*x5))
            have m485 : Num 3363146705 (cr q482) q482 := Num.eqn e482 (Sm.add (Sm.add (Sm.mul (Sm.sub (Sm.mul h16.sm h20.sm) (Sm.mul h19.sm h17.sm)) h3.sm) (Sm.mul (Sm.sub (Sm.mul h19.sm h14.sm) (Sm.mul h13.sm h20.sm)) h4.sm)) (Sm.mul (Sm.sub (Sm.mul h13.sm h17.sm) (Sm.mul h16.sm h14.sm)) h5.sm))
            have m486 : Num 3363146705 (cr q483) q483 := Num.eqn e483 (Sm.add (Sm.add (Sm.mul (Sm.sub (Sm.mul h17.sm h18.sm) (Sm.mul h20.sm h15.sm)) h3.sm) (Sm.mul (Sm.sub (Sm.mul h20.sm h12.sm) (Sm.mul h14.sm h18.sm)) h4.sm)) (Sm.mul (Sm.sub (Sm.mul h14.sm h15.sm) (Sm.mul h17.sm h12.sm)) h5.sm))
            have m487 : Num 3363146705 (cr q484) q484 := Num.eqn e484 (Sm.add (Sm.add (Sm.mul (Sm.sub (Sm.mul h15.sm h19.sm) (Sm.mul h18.sm h16.sm)) h3.sm) (Sm.mul (Sm.sub (Sm.mul h18.sm h13.sm) (Sm.mul h12.sm h19.sm)) h4.sm)) (Sm.mul (Sm.sub (Sm.mul h12.sm h16.sm) (Sm.mul h15.sm h13.sm)) h5.sm))
            have u488 : q439=(((q482*q474)+(q483*q475))+(q484*q476)) := (al489 Ym1 Y0 Y1 e419 e426 e433 e420 e427 e434 e421 e428 e435 e439 e482 e460 e409 e467 e474 e483 e461 e410 e468 e475 e484 e462 e411 e469 e476 e412 e415 e440 e441 e442 e446 hp c413 c418 c448 c451)
            have hc490 : PureCalls prog F.dens_seen [.agg (gW [r6,r7,r8,r9,r10,r11]),.agg (gW [r0,r1,r2,r3,r4,r5]),.agg (gD [x12,x15,x18,x13,x16,x19,x14,x17,x20,q409,q410,q411])] [.agg (gD [f455_0,f455_1,f455_2,f455_3,f455_4,f455_5,f455_6,f455_7,f455_8,q474,q475,q476,q446,q439]),.one (.bool false)] := by
              refine symFunc_sound hmix tree_dens_seen (by kernel_rfl) rfl ?_
              unfold ir_dens_seen
              simp only [HH, gW, gD]
              refine call_step hf455 rfl ?_
              simp only [HH, gW, gD]
              refine primS (.bool false) rfl ?_
              refine itF rfl ?_
              refine cs1 (n_vec_Dot_0w h3 h4 h5 h3 h4 h5 (by decide) e412) ?_
              refine cs1 (n_rat_Of (1) (1) (by decide) (by decide) (by decide) (by decide) (Y1.trans (by decide +kernel))) ?_
              refine cs0 (n_rat_Same_t (m456.mono (by decide)) (m417.mono (by decide)) c413) ?_
              simp only [HH, gW, gD]
              refine primS (.bool false) rfl ?_
              refine itF rfl ?_
              refine call_step hc470 rfl ?_
              simp only [HH, gW, gD]
              refine cs3 (n_vec_Sub_0w m471 m472 m473 h6 h7 h8 (by decide) e474 e475 e476) ?_
              refine cs1 (n_vec_Dot_0w m477 m478 m479 h9 h10 h11 (by decide) u480) ?_
              refine cs3 (n_affine_Area_0w h12 h15 h18 h13 h16 h19 h14 h17 h20 m457 m458 m459 h3 h4 h5 (by decide) e482 e483 e484) ?_
              simp only [HH, gW, gD]
              refine cs1 (n_vec_Dot_0w m485 m486 m487 m477 m478 m479 (by decide) u488) ?_
              refine cs1 (n_rat_Abs_f Y0 (m450.mono (by decide)) (t_asym c451)) ?_
              refine cs0 (n_rat_Sign (m447.mono (by decide))) ?_
              simp only [HH, gW, gD]
              refine primS (.bool false) (cs_gtr_f (fun z => (t_asym c448) ((sg_gt Y0).1 z))) ?_
              refine itF rfl ?_
              exact ret_step rfl
            have hc491 : PureCalls prog F.dens_Transfer [.agg (gW [r6,r7,r8,r9,r10,r11]),.agg (gW [r0,r1,r2,r3,r4,r5]),.agg (gD [x12,x15,x18,x13,x16,x19,x14,x17,x20,q409,q410,q411])] [.agg (gD [Z0])] := by
              refine symFunc_sound hmix tree_dens_Transfer (by kernel_rfl) rfl ?_
              unfold ir_dens_Transfer
              simp only [HH, gW, gD]
              refine call_step hc490 rfl ?_
              simp only [HH, gW, gD]
              refine primS (.bool true) rfl ?_
              refine itT rfl ?_
              refine cs1 (n_rat_Of (0) (1) (by decide) (by decide) (by decide) (by decide) (Y0.trans (by decide +kernel))) ?_
              exact ret_step rfl
            refine call_step hc491 rfl ?_
            simp only [HH, gW, gD]
            have m492 : Num 1 (cr Z0) Z0 := Num.c Y0 (by decide +kernel) (by decide +kernel)
            refine cs0 (n_penumbraref03_Is_t (m492.mono (by decide)) (m492.mono (by decide)) rfl) ?_
            exact ret_step rfl
          · skip
            have hc493 : PureCalls prog F.dens_seen [.agg (gW [r0,r1,r2,r3,r4,r5]),.agg (gW [r6,r7,r8,r9,r10,r11]),.agg (gD [x12,x13,x14,x15,x16,x17,x18,x19,x20,x21,x22,x23])] [.agg (gD [f414_0,f414_1,f414_2,f414_3,f414_4,f414_5,f414_6,f414_7,f414_8,q433,q434,q435,q439,q449]),.one (.bool false)] := by
              refine symFunc_sound hmix tree_dens_seen (by kernel_rfl) rfl ?_
              unfold ir_dens_seen
              simp only [HH, gW, gD]
              refine call_step hf414 rfl ?_
              simp only [HH, gW, gD]
              refine primS (.bool false) rfl ?_
              refine itF rfl ?_
              refine cs1 (n_vec_Dot_0w h9 h10 h11 h9 h10 h11 (by decide) e415) ?_
              refine cs1 (n_rat_Of (1) (1) (by decide) (by decide) (by decide) (by decide) (Y1.trans (by decide +kernel))) ?_
              refine cs0 (n_rat_Same_t (m416.mono (by decide)) (m417.mono (by decide)) c418) ?_
              simp only [HH, gW, gD]
              refine primS (.bool false) rfl ?_
              refine itF rfl ?_
              refine call_step hc429 rfl ?_
              simp only [HH, gW, gD]
              refine cs3 (n_vec_Sub_0w m430 m431 m432 h0 h1 h2 (by decide) e433 e434 e435) ?_
              refine cs1 (n_vec_Dot_0w m436 m437 m438 h3 h4 h5 (by decide) e439) ?_
              refine cs3 (n_affine_Area_0w h12 h13 h14 h15 h16 h17 h18 h19 h20 h21 h22 h23 h9 h10 h11 (by decide) e440 e441 e442) ?_
              simp only [HH, gW, gD]
              refine cs1 (n_vec_Dot_0w m443 m444 m445 m436 m437 m438 (by decide) e446) ?_
              refine cs1 (n_rat_Abs_t Y0 (m447.mono (by decide)) e449 c448) ?_
              refine cs0 (n_rat_Sign (m450.mono (by decide))) ?_
              simp only [HH, gW, gD]
              refine primS (.bool false) (cs_gtr_f (fun z => c451 ((sg_gt Y0).1 z))) ?_
              refine itF rfl ?_
              exact ret_step rfl
            have hc494 : PureCalls prog F.dens_Transfer [.agg (gW [r0,r1,r2,r3,r4,r5]),.agg (gW [r6,r7,r8,r9,r10,r11]),.agg (gD [x12,x13,x14,x15,x16,x17,x18,x19,x20,x21,x22,x23])] [.agg (gD [Z0])] := by
              refine symFunc_sound hmix tree_dens_Transfer (by kernel_rfl) rfl ?_
              unfold ir_dens_Transfer
              simp only [HH, gW, gD]
              refine call_step hc493 rfl ?_
              simp only [HH, gW, gD]
              refine primS (.bool true) rfl ?_
              refine itT rfl ?_
              refine cs1 (n_rat_Of (0) (1) (by decide) (by decide) (by decide) (by decide) (Y0.trans (by decide +kernel))) ?_
              exact ret_step rfl
            refine call_step hc494 rfl ?_
            simp only [HH, gW, gD]
            obtain ⟨f495_0,f495_1,f495_2,f495_3,f495_4,f495_5,f495_6,f495_7,f495_8,hf495⟩ := frame_any (h9.mono (by decide)) (h10.mono (by decide)) (h11.mono (by decide)) ((e415.symm.trans c418).trans Y1)
            have m496 : Num 6291458 (cr q412) q412 := Num.eqn e412 (Sm.add (Sm.add (Sm.mul h3.sm h3.sm) (Sm.mul h4.sm h4.sm)) (Sm.mul h5.sm h5.sm))
            have m498 : Num 1 (cr Zm1) Zm1 := Num.c Ym1 (by decide +kernel) (by decide +kernel)
            have m497 : Num 2334000621 (cr q409) q409 := Num.eqn e409 (Sm.mul m498.sm (Sm.add (Sm.add (Sm.mul h12.sm h21.sm) (Sm.mul h15.sm h22.sm)) (Sm.mul h18.sm h23.sm)))
            have m499 : Num 2334000621 (cr q410) q410 := Num.eqn e410 (Sm.mul m498.sm (Sm.add (Sm.add (Sm.mul h13.sm h21.sm) (Sm.mul h16.sm h22.sm)) (Sm.mul h19.sm h23.sm)))
            have m500 : Num 2334000621 (cr q411) q411 := Num.eqn e411 (Sm.mul m498.sm (Sm.add (Sm.add (Sm.mul h14.sm h21.sm) (Sm.mul h17.sm h22.sm)) (Sm.mul h20.sm h23.sm)))
            obtain ⟨q501,e501⟩ := ex_eq (((x12*x0)+(x15*x1))+(x18*x2))
            obtain ⟨q502,e502⟩ := ex_eq (((x13*x0)+(x16*x1))+(x19*x2))
            obtain ⟨q503,e503⟩ := ex_eq (((x14*x0)+(x17*x1))+(x20*x2))
            have m505 : Num 843145973 (cr q501) q501 := Num.eqn e501 (Sm.add (Sm.add (Sm.mul h12.sm h0.sm) (Sm.mul h15.sm h1.sm)) (Sm.mul h18.sm h2.sm))
            have m506 : Num 843145973 (cr q502) q502 := Num.eqn e502 (Sm.add (Sm.add (Sm.mul h13.sm h0.sm) (Sm.mul h16.sm h1.sm)) (Sm.mul h19.sm h2.sm))
            have m507 : Num 843145973 (cr q503) q503 := Num.eqn e503 (Sm.add (Sm.add (Sm.mul h14.sm h0.sm) (Sm.mul h17.sm h1.sm)) (Sm.mul h20.sm h2.sm))
            obtain ⟨q508,e508⟩ := ex_eq (q501+q409)
            obtain ⟨q509,e509⟩ := ex_eq (q502+q410)
            obtain ⟨q510,e510⟩ := ex_eq (q503+q411)
            have hc511 : PureCalls prog F.affine_Apply [.agg (gD [x12,x15,x18,x13,x16,x19,x14,x17,x20,q409,q410,q411]),.agg (gW [r0,r1,r2])] [.agg (gD [q508,q509,q510])] := by
              refine symFunc_sound hmix tree_affine_Apply (by kernel_rfl) rfl ?_
              unfold ir_affine_Apply
              simp only [HH, gW, gD]
              refine cs3 (n_affine_Turn_0w h12 h15 h18 h13 h16 h19 h14 h17 h20 m497 m499 m500 h0 h1 h2 (by decide) e501 e502 e503) ?_
              refine primS (rl3 [((cr q501),(cr q502),(cr q503)),((cr q409),(cr q410),(cr q411))]) rfl ?_
              refine cs3 (n_vec_Sum_2 (o0 := q508) (o1 := q509) (o2 := q510) (m505.mono (by decide)) (m506.mono (by decide)) (m507.mono (by decide)) (m497.mono (by decide)) (m499.mono (by decide)) (m500.mono (by decide)) e508 e509 e510) ?_
              exact ret_step rfl
            have m512 : Num 3177146595 (cr q508) q508 := Num.eqn e508 (Sm.add m505.sm m497.sm)
            have m513 : Num 3177146595 (cr q509) q509 := Num.eqn e509 (Sm.add m506.sm m499.sm)
            have m514 : Num 3177146595 (cr q510) q510 := Num.eqn e510 (Sm.add m507.sm m500.sm)
            obtain ⟨q515,e515⟩ := ex_eq (q508-x6)
            obtain ⟨q516,e516⟩ := ex_eq (q509-x7)
            obtain ⟨q517,e517⟩ := ex_eq (q510-x8)
            have m518 : Num 3178195172 (cr q515) q515 := Num.eqn e515 (Sm.sub m512.sm h6.sm)
            have m519 : Num 3178195172 (cr q516) q516 := Num.eqn e516 (Sm.sub m513.sm h7.sm)
            have m520 : Num 3178195172 (cr q517) q517 := Num.eqn e517 (Sm.sub m514.sm h8.sm)
            have u521 : q446=(((q515*x9)+(q516*x10))+(q517*x11)) := (al522 Ym1 Y0 Y1 e440 e419 e426 e433 e441 e420 e427 e434 e442 e421 e428 e435 e446 e501 e409 e508 e515 e502 e410 e509 e516 e503 e411 e510 e517 e412 e415 e439 hp c413 c418 c448 c451)
            obtain ⟨q523,e523⟩ := ex_eq (((((x16*x20)-(x19*x17))*x3)+(((x19*x14)-(x13*x20))*x4))+(((x13*x17)-(x16*x14))*x5))
            obtain ⟨q524,e524⟩ := ex_eq (((((x17*x18)-(x20*x15))*x3)+(((x20*x12)-(x14*x18))*x4))+(((x14*x15)-(x17*x12))*x5))
            obtain ⟨q525,e525⟩ := ex_eq (((((x15*x19)-(x18*x16))*x3)+(((x18*x13)-(x12*x19))*x4))+(((x12*x16)-(x15*x13))*x5))
            have m526 : Num 3363146705 (cr q523) q523 := Num.eqn e523 (Sm.add (Sm.add (Sm.mul (Sm.sub (Sm.mul h16.sm h20.sm) (Sm.mul h19.sm h17.sm)) h3.sm) (Sm.mul (Sm.sub (Sm.mul h19.sm h14.sm) (Sm.mul h13.sm h20.sm)) h4.sm)) (Sm.mul (Sm.sub (Sm.mul h13.sm h17.sm) (Sm.mul h16.sm h14.sm)) h5.sm))
            have m527 : Num 3363146705 (cr q524) q524 := Num.eqn e524 (Sm.add (Sm.add (Sm.mul (Sm.sub (Sm.mul h17.sm h18.sm) (Sm.mul h20.sm h15.sm)) h3.sm) (Sm.mul (Sm.sub (Sm.mul h20.sm h12.sm) (Sm.mul h14.sm h18.sm)) h4.sm)) (Sm.mul (Sm.sub (Sm.mul h14.sm h15.sm) (Sm.mul h17.sm h12.sm)) h5.sm))
            have m528 : Num 3363146705 (cr q525) q525 := Num.eqn e525 (Sm.add (Sm.add (Sm.mul (Sm.sub (Sm.mul h15.sm h19.sm) (Sm.mul h18.sm h16.sm)) h3.sm) (Sm.mul (Sm.sub (Sm.mul h18.sm h13.sm) (Sm.mul h12.sm h19.sm)) h4.sm)) (Sm.mul (Sm.sub (Sm.mul h12.sm h16.sm) (Sm.mul h15.sm h13.sm)) h5.sm))
            have u529 : q439=(((q523*q515)+(q524*q516))+(q525*q517)) := (al530 Ym1 Y0 Y1 e419 e426 e433 e420 e427 e434 e421 e428 e435 e439 e523 e501 e409 e508 e515 e524 e502 e410 e509 e516 e525 e503 e411 e510 e517 e412 e415 e440 e441 e442 e446 hp c413 c418 c448 c451)
            by_cases c531 : q439<Z0
            · skip
              obtain ⟨q532,e532⟩ := ex_eq (-q439)
              have hc533 : PureCalls prog F.dens_seen [.agg (gW [r6,r7,r8,r9,r10,r11]),.agg (gW [r0,r1,r2,r3,r4,r5]),.agg (gD [x12,x15,x18,x13,x16,x19,x14,x17,x20,q409,q410,q411])] [.agg (gD [f495_0,f495_1,f495_2,f495_3,f495_4,f495_5,f495_6,f495_7,f495_8,q515,q516,q517,q446,q532]),.one (.bool false)] := by
                refine symFunc_sound hmix tree_dens_seen (by kernel_rfl) rfl ?_
                unfold ir_dens_seen
                simp only [HH, gW, gD]
                refine call_step hf495 rfl ?_
                simp only [HH, gW, gD]
                refine primS (.bool false) rfl ?_
                refine itF rfl ?_
                refine cs1 (n_vec_Dot_0w h3 h4 h5 h3 h4 h5 (by decide) e412) ?_
                refine cs1 (n_rat_Of (1) (1) (by decide) (by decide) (by decide) (by decide) (Y1.trans (by decide +kernel))) ?_
                refine cs0 (n_rat_Same_t (m496.mono (by decide)) (m417.mono (by decide)) c413) ?_
                simp only [HH, gW, gD]
                refine primS (.bool false) rfl ?_
                refine itF rfl ?_
                refine call_step hc511 rfl ?_
                simp only [HH, gW, gD]
                refine cs3 (n_vec_Sub_0w m512 m513 m514 h6 h7 h8 (by decide) e515 e516 e517) ?_
                refine cs1 (n_vec_Dot_0w m518 m519 m520 h9 h10 h11 (by decide) u521) ?_
                refine cs3 (n_affine_Area_0w h12 h15 h18 h13 h16 h19 h14 h17 h20 m497 m499 m500 h3 h4 h5 (by decide) e523 e524 e525) ?_
                simp only [HH, gW, gD]
                refine cs1 (n_vec_Dot_0w m526 m527 m528 m518 m519 m520 (by decide) u529) ?_
                refine cs1 (n_rat_Abs_t Y0 (m450.mono (by decide)) e532 c531) ?_
                refine cs0 (n_rat_Sign (m447.mono (by decide))) ?_
                simp only [HH, gW, gD]
                refine primS (.bool false) (cs_gtr_f (fun z => (t_asym c448) ((sg_gt Y0).1 z))) ?_
                refine itF rfl ?_
                exact ret_step rfl
              have hc534 : PureCalls prog F.dens_Transfer [.agg (gW [r6,r7,r8,r9,r10,r11]),.agg (gW [r0,r1,r2,r3,r4,r5]),.agg (gD [x12,x15,x18,x13,x16,x19,x14,x17,x20,q409,q410,q411])] [.agg (gD [Z0])] := by
                refine symFunc_sound hmix tree_dens_Transfer (by kernel_rfl) rfl ?_
                unfold ir_dens_Transfer
                simp only [HH, gW, gD]
                refine call_step hc533 rfl ?_
                simp only [HH, gW, gD]
                refine primS (.bool true) rfl ?_
                refine itT rfl ?_
                refine cs1 (n_rat_Of (0) (1) (by decide) (by decide) (by decide) (by decide) (Y0.trans (by decide +kernel))) ?_
                exact ret_step rfl
              refine call_step hc534 rfl ?_
              simp only [HH, gW, gD]
              have m535 : Num 1 (cr Z0) Z0 := Num.c Y0 (by decide +kernel) (by decide +kernel)
              refine cs0 (n_penumbraref03_Is_t (m535.mono (by decide)) (m535.mono (by decide)) rfl) ?_
              exact ret_step rfl
            · skip
              have hc536 : PureCalls prog F.dens_seen [.agg (gW [r6,r7,r8,r9,r10,r11]),.agg (gW [r0,r1,r2,r3,r4,r5]),.agg (gD [x12,x15,x18,x13,x16,x19,x14,x17,x20,q409,q410,q411])] [.agg (gD [f495_0,f495_1,f495_2,f495_3,f495_4,f495_5,f495_6,f495_7,f495_8,q515,q516,q517,q446,q439]),.one (.bool false)] := by
                refine symFunc_sound hmix tree_dens_seen (by kernel_rfl) rfl ?_
                unfold ir_dens_seen
                simp only [HH, gW, gD]
                refine call_step hf495 rfl ?_
                simp only [HH, gW, gD]
                refine primS (.bool false) rfl ?_
                refine itF rfl ?_
                refine cs1 (n_vec_Dot_0w h3 h4 h5 h3 h4 h5 (by decide) e412) ?_
                refine cs1 (n_rat_Of (1) (1) (by decide) (by decide) (by decide) (by decide) (Y1.trans (by decide +kernel))) ?_
                refine cs0 (n_rat_Same_t (m496.mono (by decide)) (m417.mono (by decide)) c413) ?_
                simp only [HH, gW, gD]
                refine primS (.bool false) rfl ?_
                refine itF rfl ?_
                refine call_step hc511 rfl ?_
                simp only [HH, gW, gD]
                refine cs3 (n_vec_Sub_0w m512 m513 m514 h6 h7 h8 (by decide) e515 e516 e517) ?_
                refine cs1 (n_vec_Dot_0w m518 m519 m520 h9 h10 h11 (by decide) u521) ?_
                refine cs3 (n_affine_Area_0w h12 h15 h18 h13 h16 h19 h14 h17 h20 m497 m499 m500 h3 h4 h5 (by decide) e523 e524 e525) ?_
                simp only [HH, gW, gD]
                refine cs1 (n_vec_Dot_0w m526 m527 m528 m518 m519 m520 (by decide) u529) ?_
                refine cs1 (n_rat_Abs_f Y0 (m450.mono (by decide)) c531) ?_
                refine cs0 (n_rat_Sign (m447.mono (by decide))) ?_
                simp only [HH, gW, gD]
                refine primS (.bool false) (cs_gtr_f (fun z => (t_asym c448) ((sg_gt Y0).1 z))) ?_
                refine itF rfl ?_
                exact ret_step rfl
              have hc537 : PureCalls prog F.dens_Transfer [.agg (gW [r6,r7,r8,r9,r10,r11]),.agg (gW [r0,r1,r2,r3,r4,r5]),.agg (gD [x12,x15,x18,x13,x16,x19,x14,x17,x20,q409,q410,q411])] [.agg (gD [Z0])] := by
                refine symFunc_sound hmix tree_dens_Transfer (by kernel_rfl) rfl ?_
                unfold ir_dens_Transfer
                simp only [HH, gW, gD]
                refine call_step hc536 rfl ?_
                simp only [HH, gW, gD]
                refine primS (.bool true) rfl ?_
                refine itT rfl ?_
                refine cs1 (n_rat_Of (0) (1) (by decide) (by decide) (by decide) (by decide) (Y0.trans (by decide +kernel))) ?_
                exact ret_step rfl
              refine call_step hc537 rfl ?_
              simp only [HH, gW, gD]
              have m538 : Num 1 (cr Z0) Z0 := Num.c Y0 (by decide +kernel) (by decide +kernel)
              refine cs0 (n_penumbraref03_Is_t (m538.mono (by decide)) (m538.mono (by decide)) rfl) ?_
              exact ret_step rfl
        · skip
          have m539 : Num 4029729758 (cr q439) q439 := Num.eqn e439 (Sm.add (Sm.add (Sm.mul m436.sm h3.sm) (Sm.mul m437.sm h4.sm)) (Sm.mul m438.sm h5.sm))
          by_cases c540 : Z0<q439
          · skip
            have m541 : Num 1 (cr Zm1) Zm1 := Num.c Ym1 (by decide +kernel) (by decide +kernel)
            by_cases c542 : q446=Z0
            · skip
              have hc543 : PureCalls prog F.dens_seen [.agg (gW [r0,r1,r2,r3,r4,r5]),.agg (gW [r6,r7,r8,r9,r10,r11]),.agg (gD [x12,x13,x14,x15,x16,x17,x18,x19,x20,x21,x22,x23])] [.agg (gD [f414_0,f414_1,f414_2,f414_3,f414_4,f414_5,f414_6,f414_7,f414_8,q433,q434,q435,q439,q446]),.one (.bool false)] := by
                refine symFunc_sound hmix tree_dens_seen (by kernel_rfl) rfl ?_
                unfold ir_dens_seen
                simp only [HH, gW, gD]
                refine call_step hf414 rfl ?_
                simp only [HH, gW, gD]
                refine primS (.bool false) rfl ?_
                refine itF rfl ?_
                refine cs1 (n_vec_Dot_0w h9 h10 h11 h9 h10 h11 (by decide) e415) ?_
                refine cs1 (n_rat_Of (1) (1) (by decide) (by decide) (by decide) (by decide) (Y1.trans (by decide +kernel))) ?_
                refine cs0 (n_rat_Same_t (m416.mono (by decide)) (m417.mono (by decide)) c418) ?_
                simp only [HH, gW, gD]
                refine primS (.bool false) rfl ?_
                refine itF rfl ?_
                refine call_step hc429 rfl ?_
                simp only [HH, gW, gD]
                refine cs3 (n_vec_Sub_0w m430 m431 m432 h0 h1 h2 (by decide) e433 e434 e435) ?_
                refine cs1 (n_vec_Dot_0w m436 m437 m438 h3 h4 h5 (by decide) e439) ?_
                refine cs3 (n_affine_Area_0w h12 h13 h14 h15 h16 h17 h18 h19 h20 h21 h22 h23 h9 h10 h11 (by decide) e440 e441 e442) ?_
                simp only [HH, gW, gD]
                refine cs1 (n_vec_Dot_0w m443 m444 m445 m436 m437 m438 (by decide) e446) ?_
                refine cs1 (n_rat_Abs_f Y0 (m447.mono (by decide)) c448) ?_
                refine cs0 (n_rat_Sign (m539.mono (by decide))) ?_
                simp only [HH, gW, gD]
                refine primS (.bool true) (cs_gtr_t ((sg_gt Y0).2 c540)) ?_
                refine itT rfl ?_
                refine cs0 (n_rat_Sign (m447.mono (by decide))) ?_
                refine cs1 (n_affine_Det_0w h12 h13 h14 h15 h16 h17 h18 h19 h20 h21 h22 h23 (by decide) u389) ?_
                refine cs0 (n_rat_Sign (m541.mono (by decide))) ?_
                simp only [HH, gW, gD]
                refine primS (.int .i64 (0)) (ii_mul0 (sgn_z Y0 c542)) ?_
                refine primS (.bool false) rfl ?_
                exact ret_step rfl
              have hc544 : PureCalls prog F.dens_Transfer [.agg (gW [r0,r1,r2,r3,r4,r5]),.agg (gW [r6,r7,r8,r9,r10,r11]),.agg (gD [x12,x13,x14,x15,x16,x17,x18,x19,x20,x21,x22,x23])] [.agg (gD [Z0])] := by
                refine symFunc_sound hmix tree_dens_Transfer (by kernel_rfl) rfl ?_
                unfold ir_dens_Transfer
                simp only [HH, gW, gD]
                refine call_step hc543 rfl ?_
                simp only [HH, gW, gD]
                refine primS (.bool true) rfl ?_
                refine itT rfl ?_
                refine cs1 (n_rat_Of (0) (1) (by decide) (by decide) (by decide) (by decide) (Y0.trans (by decide +kernel))) ?_
                exact ret_step rfl
              refine call_step hc544 rfl ?_
              simp only [HH, gW, gD]
              obtain ⟨f545_0,f545_1,f545_2,f545_3,f545_4,f545_5,f545_6,f545_7,f545_8,hf545⟩ := frame_any (h9.mono (by decide)) (h10.mono (by decide)) (h11.mono (by decide)) ((e415.symm.trans c418).trans Y1)
              have m546 : Num 6291458 (cr q412) q412 := Num.eqn e412 (Sm.add (Sm.add (Sm.mul h3.sm h3.sm) (Sm.mul h4.sm h4.sm)) (Sm.mul h5.sm h5.sm))
              have m547 : Num 2334000621 (cr q409) q409 := Num.eqn e409 (Sm.mul m541.sm (Sm.add (Sm.add (Sm.mul h12.sm h21.sm) (Sm.mul h15.sm h22.sm)) (Sm.mul h18.sm h23.sm)))
              have m548 : Num 2334000621 (cr q410) q410 := Num.eqn e410 (Sm.mul m541.sm (Sm.add (Sm.add (Sm.mul h13.sm h21.sm) (Sm.mul h16.sm h22.sm)) (Sm.mul h19.sm h23.sm)))
              have m549 : Num 2334000621 (cr q411) q411 := Num.eqn e411 (Sm.mul m541.sm (Sm.add (Sm.add (Sm.mul h14.sm h21.sm) (Sm.mul h17.sm h22.sm)) (Sm.mul h20.sm h23.sm)))
              obtain ⟨q550,e550⟩ := ex_eq (((x12*x0)+(x15*x1))+(x18*x2))
              obtain ⟨q551,e551⟩ := ex_eq (((x13*x0)+(x16*x1))+(x19*x2))
              obtain ⟨q552,e552⟩ := ex_eq (((x14*x0)+(x17*x1))+(x20*x2))
              have m554 : Num 843145973 (cr q550) q550 := Num.eqn e550 (Sm.add (Sm.add (Sm.mul h12.sm h0.sm) (Sm.mul h15.sm h1.sm)) (Sm.mul h18.sm h2.sm))
              have m555 : Num 843145973 (cr q551) q551 := Num.eqn e551 (Sm.add (Sm.add (Sm.mul h13.sm h0.sm) (Sm.mul h16.sm h1.sm)) (Sm.mul h19.sm h2.sm))
              have m556 : Num 843145973 (cr q552) q552 := Num.eqn e552 (Sm.add (Sm.add (Sm.mul h14.sm h0.sm) (Sm.mul h17.sm h1.sm)) (Sm.mul h20.sm h2.sm))
              obtain ⟨q557,e557⟩ := ex_eq (q550+q409)
              obtain ⟨q558,e558⟩ := ex_eq (q551+q410)
              obtain ⟨q559,e559⟩ := ex_eq (q552+q411)
              have hc560 : PureCalls prog F.affine_Apply [.agg (gD [x12,x15,x18,x13,x16,x19,x14,x17,x20,q409,q410,q411]),.agg (gW [r0,r1,r2])] [.agg (gD [q557,q558,q559])] := by
                refine symFunc_sound hmix tree_affine_Apply (by kernel_rfl) rfl ?_
                unfold ir_affine_Apply
                simp only [HH, gW, gD]
                refine cs3 (n_affine_Turn_0w h12 h15 h18 h13 h16 h19 h14 h17 h20 m547 m548 m549 h0 h1 h2 (by decide) e550 e551 e552) ?_
                refine primS (rl3 [((cr q550),(cr q551),(cr q552)),((cr q409),(cr q410),(cr q411))]) rfl ?_
                refine cs3 (n_vec_Sum_2 (o0 := q557) (o1 := q558) (o2 := q559) (m554.mono (by decide)) (m555.mono (by decide)) (m556.mono (by decide)) (m547.mono (by decide)) (m548.mono (by decide)) (m549.mono (by decide)) e557 e558 e559) ?_
                exact ret_step rfl
              have m561 : Num 3177146595 (cr q557) q557 := Num.eqn e557 (Sm.add m554.sm m547.sm)
              have m562 : Num 3177146595 (cr q558) q558 := Num.eqn e558 (Sm.add m555.sm m548.sm)
              have m563 : Num 3177146595 (cr q559) q559 := Num.eqn e559 (Sm.add m556.sm m549.sm)
              obtain ⟨q564,e564⟩ := ex_eq (q557-x6)
              obtain ⟨q565,e565⟩ := ex_eq (q558-x7)
              obtain ⟨q566,e566⟩ := ex_eq (q559-x8)
              have m567 : Num 3178195172 (cr q564) q564 := Num.eqn e564 (Sm.sub m561.sm h6.sm)
              have m568 : Num 3178195172 (cr q565) q565 := Num.eqn e565 (Sm.sub m562.sm h7.sm)
              have m569 : Num 3178195172 (cr q566) q566 := Num.eqn e566 (Sm.sub m563.sm h8.sm)
              have u570 : Z0=(((q564*x9)+(q565*x10))+(q566*x11)) := (al571 Ym1 Y0 Y1 e550 e409 e557 e564 e551 e410 e558 e565 e552 e411 e559 e566 e412 e415 e440 e419 e426 e433 e441 e420 e427 e434 e442 e421 e428 e435 e446 e439 hp c413 c418 c448 c540 c542)
              obtain ⟨q572,e572⟩ := ex_eq (((((x16*x20)-(x19*x17))*x3)+(((x19*x14)-(x13*x20))*x4))+(((x13*x17)-(x16*x14))*x5))
              obtain ⟨q573,e573⟩ := ex_eq (((((x17*x18)-(x20*x15))*x3)+(((x20*x12)-(x14*x18))*x4))+(((x14*x15)-(x17*x12))*x5))
              obtain ⟨q574,e574⟩ := ex_eq (((((x15*x19)-(x18*x16))*x3)+(((x18*x13)-(x12*x19))*x4))+(((x12*x16)-(x15*x13))*x5))
              have m575 : Num 3363146705 (cr q572) q572 := Num.eqn e572 (Sm.add (Sm.add (Sm.mul (Sm.sub (Sm.mul h16.sm h20.sm) (Sm.mul h19.sm h17.sm)) h3.sm) (Sm.mul (Sm.sub (Sm.mul h19.sm h14.sm) (Sm.mul h13.sm h20.sm)) h4.sm)) (Sm.mul (Sm.sub (Sm.mul h13.sm h17.sm) (Sm.mul h16.sm h14.sm)) h5.sm))
              have m576 : Num 3363146705 (cr q573) q573 := Num.eqn e573 (Sm.add (Sm.add (Sm.mul (Sm.sub (Sm.mul h17.sm h18.sm) (Sm.mul h20.sm h15.sm)) h3.sm) (Sm.mul (Sm.sub (Sm.mul h20.sm h12.sm) (Sm.mul h14.sm h18.sm)) h4.sm)) (Sm.mul (Sm.sub (Sm.mul h14.sm h15.sm) (Sm.mul h17.sm h12.sm)) h5.sm))
              have m577 : Num 3363146705 (cr q574) q574 := Num.eqn e574 (Sm.add (Sm.add (Sm.mul (Sm.sub (Sm.mul h15.sm h19.sm) (Sm.mul h18.sm h16.sm)) h3.sm) (Sm.mul (Sm.sub (Sm.mul h18.sm h13.sm) (Sm.mul h12.sm h19.sm)) h4.sm)) (Sm.mul (Sm.sub (Sm.mul h12.sm h16.sm) (Sm.mul h15.sm h13.sm)) h5.sm))
              have u578 : q439=(((q572*q564)+(q573*q565))+(q574*q566)) := (al579 Ym1 Y0 Y1 e419 e426 e433 e420 e427 e434 e421 e428 e435 e439 e572 e550 e409 e557 e564 e573 e551 e410 e558 e565 e574 e552 e411 e559 e566 e412 e415 e440 e441 e442 e446 hp c413 c418 c448 c540 c542)
              have m580 : Num 1 (cr Z0) Z0 := Num.c Y0 (by decide +kernel) (by decide +kernel)
              have hc581 : PureCalls prog F.dens_seen [.agg (gW [r6,r7,r8,r9,r10,r11]),.agg (gW [r0,r1,r2,r3,r4,r5]),.agg (gD [x12,x15,x18,x13,x16,x19,x14,x17,x20,q409,q410,q411])] [.agg (gD [f545_0,f545_1,f545_2,f545_3,f545_4,f545_5,f545_6,f545_7,f545_8,q564,q565,q566,Z0,q439]),.one (.bool false)] := by
                refine symFunc_sound hmix tree_dens_seen (by kernel_rfl) rfl ?_
                unfold ir_dens_seen
                simp only [HH, gW, gD]
                refine call_step hf545 rfl ?_
                simp only [HH, gW, gD]
                refine primS (.bool false) rfl ?_
                refine itF rfl ?_
                refine cs1 (n_vec_Dot_0w h3 h4 h5 h3 h4 h5 (by decide) e412) ?_
                refine cs1 (n_rat_Of (1) (1) (by decide) (by decide) (by decide) (by decide) (Y1.trans (by decide +kernel))) ?_
                refine cs0 (n_rat_Same_t (m546.mono (by decide)) (m417.mono (by decide)) c413) ?_
                simp only [HH, gW, gD]
                refine primS (.bool false) rfl ?_
                refine itF rfl ?_
                refine call_step hc560 rfl ?_
                simp only [HH, gW, gD]
                refine cs3 (n_vec_Sub_0w m561 m562 m563 h6 h7 h8 (by decide) e564 e565 e566) ?_
                refine cs1 (n_vec_Dot_0w m567 m568 m569 h9 h10 h11 (by decide) u570) ?_
                refine cs3 (n_affine_Area_0w h12 h15 h18 h13 h16 h19 h14 h17 h20 m547 m548 m549 h3 h4 h5 (by decide) e572 e573 e574) ?_
                simp only [HH, gW, gD]
                refine cs1 (n_vec_Dot_0w m575 m576 m577 m567 m568 m569 (by decide) u578) ?_
                refine cs1 (n_rat_Abs_f Y0 (m539.mono (by decide)) (t_asym c540)) ?_
                refine cs0 (n_rat_Sign (m580.mono (by decide))) ?_
                simp only [HH, gW, gD]
                refine primS (.bool false) (cs_gtr_f (fun z => (Rat.lt_irrefl) ((sg_gt Y0).1 z))) ?_
                refine itF rfl ?_
                exact ret_step rfl
              have hc582 : PureCalls prog F.dens_Transfer [.agg (gW [r6,r7,r8,r9,r10,r11]),.agg (gW [r0,r1,r2,r3,r4,r5]),.agg (gD [x12,x15,x18,x13,x16,x19,x14,x17,x20,q409,q410,q411])] [.agg (gD [Z0])] := by
                refine symFunc_sound hmix tree_dens_Transfer (by kernel_rfl) rfl ?_
                unfold ir_dens_Transfer
                simp only [HH, gW, gD]
                refine call_step hc581 rfl ?_
                simp only [HH, gW, gD]
                refine primS (.bool true) rfl ?_
                refine itT rfl ?_
                refine cs1 (n_rat_Of (0) (1) (by decide) (by decide) (by decide) (by decide) (Y0.trans (by decide +kernel))) ?_
                exact ret_step rfl
              refine call_step hc582 rfl ?_
              simp only [HH, gW, gD]
              refine cs0 (n_penumbraref03_Is_t (m580.mono (by decide)) (m580.mono (by decide)) rfl) ?_
              exact ret_step rfl
            · skip
              have hc583 : PureCalls prog F.dens_seen [.agg (gW [r0,r1,r2,r3,r4,r5]),.agg (gW [r6,r7,r8,r9,r10,r11]),.agg (gD [x12,x13,x14,x15,x16,x17,x18,x19,x20,x21,x22,x23])] [.agg (gD [f414_0,f414_1,f414_2,f414_3,f414_4,f414_5,f414_6,f414_7,f414_8,q433,q434,q435,q439,q446]),.one (.bool true)] := by
                refine symFunc_sound hmix tree_dens_seen (by kernel_rfl) rfl ?_
                unfold ir_dens_seen
                simp only [HH, gW, gD]
                refine call_step hf414 rfl ?_
                simp only [HH, gW, gD]
                refine primS (.bool false) rfl ?_
                refine itF rfl ?_
                refine cs1 (n_vec_Dot_0w h9 h10 h11 h9 h10 h11 (by decide) e415) ?_
                refine cs1 (n_rat_Of (1) (1) (by decide) (by decide) (by decide) (by decide) (Y1.trans (by decide +kernel))) ?_
                refine cs0 (n_rat_Same_t (m416.mono (by decide)) (m417.mono (by decide)) c418) ?_
                simp only [HH, gW, gD]
                refine primS (.bool false) rfl ?_
                refine itF rfl ?_
                refine call_step hc429 rfl ?_
                simp only [HH, gW, gD]
                refine cs3 (n_vec_Sub_0w m430 m431 m432 h0 h1 h2 (by decide) e433 e434 e435) ?_
                refine cs1 (n_vec_Dot_0w m436 m437 m438 h3 h4 h5 (by decide) e439) ?_
                refine cs3 (n_affine_Area_0w h12 h13 h14 h15 h16 h17 h18 h19 h20 h21 h22 h23 h9 h10 h11 (by decide) e440 e441 e442) ?_
                simp only [HH, gW, gD]
                refine cs1 (n_vec_Dot_0w m443 m444 m445 m436 m437 m438 (by decide) e446) ?_
                refine cs1 (n_rat_Abs_f Y0 (m447.mono (by decide)) c448) ?_
                refine cs0 (n_rat_Sign (m539.mono (by decide))) ?_
                simp only [HH, gW, gD]
                refine primS (.bool true) (cs_gtr_t ((sg_gt Y0).2 c540)) ?_
                refine itT rfl ?_
                refine cs0 (n_rat_Sign (m447.mono (by decide))) ?_
                refine cs1 (n_affine_Det_0w h12 h13 h14 h15 h16 h17 h18 h19 h20 h21 h22 h23 (by decide) u389) ?_
                refine cs0 (n_rat_Sign (m541.mono (by decide))) ?_
                simp only [HH, gW, gD]
                refine primS (.int .i64 (-1)) (ii_mul (sgn_p Y0 c448 c542) (sgn_m Y0 (show (Zm1<Z0) by rw [Ym1,Y0] <;> decide +kernel)) rfl) ?_
                refine primS (.bool true) rfl ?_
                exact ret_step rfl
              obtain ⟨q584,e584⟩ := ex_eq (((q433*q433)+(q434*q434))+(q435*q435))
              obtain ⟨q586,e586⟩ := ex_eq (q439*q446)
              have m588 : Num 8053168058 (cr q584) q584 := Num.eqn e584 (Sm.add (Sm.add (Sm.mul m436.sm m436.sm) (Sm.mul m437.sm m437.sm)) (Sm.mul m438.sm m438.sm))
              obtain ⟨q589,e589⟩ := ex_eq (q584*q584)
              have m590 : Num 18145753903 (cr q586) q586 := Num.eqn e586 (Sm.mul m539.sm m447.sm)
              have m591 : Num 16106336116 (cr q589) q589 := Num.eqn e589 (Sm.mul m588.sm m588.sm)
              have c592 : (Z0<q584) := (al593 Y0 Y1 e419 e426 e433 e420 e427 e434 e421 e428 e435 e584 e412 e415 e440 e441 e442 e446 e439 hp c413 c418 c448 c540 c542)
              have c594 : ¬(q589=Z0) := (fun z => Rat.ne_of_lt (s_mul_pp Y0 e589 c592 c592) z.symm)
              obtain ⟨q595,e595⟩ := ex_eq (q586 / q589)
              have d595 := div_mul Y0 e595 c594
              have hc596 : PureCalls prog F.dens_Transfer [.agg (gW [r0,r1,r2,r3,r4,r5]),.agg (gW [r6,r7,r8,r9,r10,r11]),.agg (gD [x12,x13,x14,x15,x16,x17,x18,x19,x20,x21,x22,x23])] [.agg (gD [q595])] := by
                refine symFunc_sound hmix tree_dens_Transfer (by kernel_rfl) rfl ?_
                unfold ir_dens_Transfer
                simp only [HH, gW, gD]
                refine call_step hc583 rfl ?_
                simp only [HH, gW, gD]
                refine primS (.bool false) rfl ?_
                refine itF rfl ?_
                refine cs1 (n_vec_Dot_0w m436 m437 m438 m436 m437 m438 (by decide) e584) ?_
                refine primS (rl [(cr q439),(cr q446)]) rfl ?_
                refine cs1 (n_rat_Product_2 (k0 := q586) (m539.mono (by decide)) (m447.mono (by decide)) e586) ?_
                refine primS (rl [(cr q584),(cr q584)]) rfl ?_
                refine cs1 (n_rat_Product_2 (k0 := q589) (m588.mono (by decide)) (m588.mono (by decide)) e589) ?_
                simp only [HH, gW, gD]
                refine cs1 (n_dens_over_1 Y0 (m590.mono (by decide)) (m591.mono (by decide)) e595 c594) ?_
                exact ret_step rfl
              refine call_step hc596 rfl ?_
              simp only [HH, gW, gD]
              obtain ⟨f597_0,f597_1,f597_2,f597_3,f597_4,f597_5,f597_6,f597_7,f597_8,hf597⟩ := frame_any (h9.mono (by decide)) (h10.mono (by decide)) (h11.mono (by decide)) ((e415.symm.trans c418).trans Y1)
              have m598 : Num 6291458 (cr q412) q412 := Num.eqn e412 (Sm.add (Sm.add (Sm.mul h3.sm h3.sm) (Sm.mul h4.sm h4.sm)) (Sm.mul h5.sm h5.sm))
              have m599 : Num 2334000621 (cr q409) q409 := Num.eqn e409 (Sm.mul m541.sm (Sm.add (Sm.add (Sm.mul h12.sm h21.sm) (Sm.mul h15.sm h22.sm)) (Sm.mul h18.sm h23.sm)))
              have m600 : Num 2334000621 (cr q410) q410 := Num.eqn e410 (Sm.mul m541.sm (Sm.add (Sm.add (Sm.mul h13.sm h21.sm) (Sm.mul h16.sm h22.sm)) (Sm.mul h19.sm h23.sm)))
              have m601 : Num 2334000621 (cr q411) q411 := Num.eqn e411 (Sm.mul m541.sm (Sm.add (Sm.add (Sm.mul h14.sm h21.sm) (Sm.mul h17.sm h22.sm)) (Sm.mul h20.sm h23.sm)))
              obtain ⟨q602,e602⟩ := ex_eq (((x12*x0)+(x15*x1))+(x18*x2))
              obtain ⟨q603,e603⟩ := ex_eq (((x13*x0)+(x16*x1))+(x19*x2))
              obtain ⟨q604,e604⟩ := ex_eq (((x14*x0)+(x17*x1))+(x20*x2))
              have m606 : Num 843145973 (cr q602) q602 := Num.eqn e602 (Sm.add (Sm.add (Sm.mul h12.sm h0.sm) (Sm.mul h15.sm h1.sm)) (Sm.mul h18.sm h2.sm))
              have m607 : Num 843145973 (cr q603) q603 := Num.eqn e603 (Sm.add (Sm.add (Sm.mul h13.sm h0.sm) (Sm.mul h16.sm h1.sm)) (Sm.mul h19.sm h2.sm))
              have m608 : Num 843145973 (cr q604) q604 := Num.eqn e604 (Sm.add (Sm.add (Sm.mul h14.sm h0.sm) (Sm.mul h17.sm h1.sm)) (Sm.mul h20.sm h2.sm))
              obtain ⟨q609,e609⟩ := ex_eq (q602+q409)
              obtain ⟨q610,e610⟩ := ex_eq (q603+q410)
              obtain ⟨q611,e611⟩ := ex_eq (q604+q411)
              have hc612 : PureCalls prog F.affine_Apply [.agg (gD [x12,x15,x18,x13,x16,x19,x14,x17,x20,q409,q410,q411]),.agg (gW [r0,r1,r2])] [.agg (gD [q609,q610,q611])] := by
                refine symFunc_sound hmix tree_affine_Apply (by kernel_rfl) rfl ?_
                unfold ir_affine_Apply
                simp only [HH, gW, gD]
                refine cs3 (n_affine_Turn_0w h12 h15 h18 h13 h16 h19 h14 h17 h20 m599 m600 m601 h0 h1 h2 (by decide) e602 e603 e604) ?_
                refine primS (rl3 [((cr q602),(cr q603),(cr q604)),((cr q409),(cr q410),(cr q411))]) rfl ?_
                refine cs3 (n_vec_Sum_2 (o0 := q609) (o1 := q610) (o2 := q611) (m606.mono (by decide)) (m607.mono (by decide)) (m608.mono (by decide)) (m599.mono (by decide)) (m600.mono (by decide)) (m601.mono (by decide)) e609 e610 e611) ?_
                exact ret_step rfl
              have m613 : Num 3177146595 (cr q609) q609 := Num.eqn e609 (Sm.add m606.sm m599.sm)
              have m614 : Num 3177146595 (cr q610) q610 := Num.eqn e610 (Sm.add m607.sm m600.sm)
              have m615 : Num 3177146595 (cr q611) q611 := Num.eqn e611 (Sm.add m608.sm m601.sm)
              obtain ⟨q616,e616⟩ := ex_eq (q609-x6)
              obtain ⟨q617,e617⟩ := ex_eq (q610-x7)
              obtain ⟨q618,e618⟩ := ex_eq (q611-x8)
              have m619 : Num 3178195172 (cr q616) q616 := Num.eqn e616 (Sm.sub m613.sm h6.sm)
              have m620 : Num 3178195172 (cr q617) q617 := Num.eqn e617 (Sm.sub m614.sm h7.sm)
              have m621 : Num 3178195172 (cr q618) q618 := Num.eqn e618 (Sm.sub m615.sm h8.sm)
              have u622 : q446=(((q616*x9)+(q617*x10))+(q618*x11)) := (al623 Ym1 Y0 Y1 e440 e419 e426 e433 e441 e420 e427 e434 e442 e421 e428 e435 e446 e602 e409 e609 e616 e603 e410 e610 e617 e604 e411 e611 e618 e412 e415 e439 e584 e589 hp c413 c418 c448 c540 c542 c592 c594)
              obtain ⟨q624,e624⟩ := ex_eq (((((x16*x20)-(x19*x17))*x3)+(((x19*x14)-(x13*x20))*x4))+(((x13*x17)-(x16*x14))*x5))
              obtain ⟨q625,e625⟩ := ex_eq (((((x17*x18)-(x20*x15))*x3)+(((x20*x12)-(x14*x18))*x4))+(((x14*x15)-(x17*x12))*x5))
              obtain ⟨q626,e626⟩ := ex_eq (((((x15*x19)-(x18*x16))*x3)+(((x18*x13)-(x12*x19))*x4))+(((x12*x16)-(x15*x13))*x5))
              have m627 : Num 3363146705 (cr q624) q624 := Num.eqn e624 (Sm.add (Sm.add (Sm.mul (Sm.sub (Sm.mul h16.sm h20.sm) (Sm.mul h19.sm h17.sm)) h3.sm) (Sm.mul (Sm.sub (Sm.mul h19.sm h14.sm) (Sm.mul h13.sm h20.sm)) h4.sm)) (Sm.mul (Sm.sub (Sm.mul h13.sm h17.sm) (Sm.mul h16.sm h14.sm)) h5.sm))
              have m628 : Num 3363146705 (cr q625) q625 := Num.eqn e625 (Sm.add (Sm.add (Sm.mul (Sm.sub (Sm.mul h17.sm h18.sm) (Sm.mul h20.sm h15.sm)) h3.sm) (Sm.mul (Sm.sub (Sm.mul h20.sm h12.sm) (Sm.mul h14.sm h18.sm)) h4.sm)) (Sm.mul (Sm.sub (Sm.mul h14.sm h15.sm) (Sm.mul h17.sm h12.sm)) h5.sm))
              have m629 : Num 3363146705 (cr q626) q626 := Num.eqn e626 (Sm.add (Sm.add (Sm.mul (Sm.sub (Sm.mul h15.sm h19.sm) (Sm.mul h18.sm h16.sm)) h3.sm) (Sm.mul (Sm.sub (Sm.mul h18.sm h13.sm) (Sm.mul h12.sm h19.sm)) h4.sm)) (Sm.mul (Sm.sub (Sm.mul h12.sm h16.sm) (Sm.mul h15.sm h13.sm)) h5.sm))
              have u630 : q439=(((q624*q616)+(q625*q617))+(q626*q618)) := (al631 Ym1 Y0 Y1 e419 e426 e433 e420 e427 e434 e421 e428 e435 e439 e624 e602 e409 e609 e616 e625 e603 e410 e610 e617 e626 e604 e411 e611 e618 e412 e415 e440 e441 e442 e446 e584 e589 hp c413 c418 c448 c540 c542 c592 c594)
              have u632 : Zm1=(((x12*((x16*x20)-(x19*x17)))+(x15*((x19*x14)-(x13*x20))))+(x18*((x13*x17)-(x16*x14)))) := (al633 Ym1 Y0 Y1 e412 e415 e440 e419 e426 e433 e441 e420 e427 e434 e442 e421 e428 e435 e446 e439 e584 e589 hp c413 c418 c448 c540 c542 c592 c594)
              have hc634 : PureCalls prog F.dens_seen [.agg (gW [r6,r7,r8,r9,r10,r11]),.agg (gW [r0,r1,r2,r3,r4,r5]),.agg (gD [x12,x15,x18,x13,x16,x19,x14,x17,x20,q409,q410,q411])] [.agg (gD [f597_0,f597_1,f597_2,f597_3,f597_4,f597_5,f597_6,f597_7,f597_8,q616,q617,q618,q446,q439]),.one (.bool true)] := by
                refine symFunc_sound hmix tree_dens_seen (by kernel_rfl) rfl ?_
                unfold ir_dens_seen
                simp only [HH, gW, gD]
                refine call_step hf597 rfl ?_
                simp only [HH, gW, gD]
                refine primS (.bool false) rfl ?_
                refine itF rfl ?_
                refine cs1 (n_vec_Dot_0w h3 h4 h5 h3 h4 h5 (by decide) e412) ?_
                refine cs1 (n_rat_Of (1) (1) (by decide) (by decide) (by decide) (by decide) (Y1.trans (by decide +kernel))) ?_
                refine cs0 (n_rat_Same_t (m598.mono (by decide)) (m417.mono (by decide)) c413) ?_
                simp only [HH, gW, gD]
                refine primS (.bool false) rfl ?_
                refine itF rfl ?_
                refine call_step hc612 rfl ?_
                simp only [HH, gW, gD]
                refine cs3 (n_vec_Sub_0w m613 m614 m615 h6 h7 h8 (by decide) e616 e617 e618) ?_
                refine cs1 (n_vec_Dot_0w m619 m620 m621 h9 h10 h11 (by decide) u622) ?_
                refine cs3 (n_affine_Area_0w h12 h15 h18 h13 h16 h19 h14 h17 h20 m599 m600 m601 h3 h4 h5 (by decide) e624 e625 e626) ?_
                simp only [HH, gW, gD]
                refine cs1 (n_vec_Dot_0w m627 m628 m629 m619 m620 m621 (by decide) u630) ?_
                refine cs1 (n_rat_Abs_f Y0 (m539.mono (by decide)) (t_asym c540)) ?_
                refine cs0 (n_rat_Sign (m447.mono (by decide))) ?_
                simp only [HH, gW, gD]
                refine primS (.bool true) (cs_gtr_t ((sg_gt Y0).2 (t_lt c448 (fun z => c542 z.symm)))) ?_
                refine itT rfl ?_
                refine cs0 (n_rat_Sign (m539.mono (by decide))) ?_
                refine cs1 (n_affine_Det_0w h12 h15 h18 h13 h16 h19 h14 h17 h20 m599 m600 m601 (by decide) u632) ?_
                refine cs0 (n_rat_Sign (m541.mono (by decide))) ?_
                simp only [HH, gW, gD]
                refine primS (.int .i64 (-1)) (ii_mul (sgn_p Y0 (t_asym c540) (fun z => Rat.ne_of_lt c540 z.symm)) (sgn_m Y0 (show (Zm1<Z0) by rw [Ym1,Y0] <;> decide +kernel)) rfl) ?_
                refine primS (.bool true) rfl ?_
                exact ret_step rfl
              have u635 : q584=(((q616*q616)+(q617*q617))+(q618*q618)) := (al636 Ym1 Y0 Y1 e419 e426 e433 e420 e427 e434 e421 e428 e435 e584 e602 e409 e609 e616 e603 e410 e610 e617 e604 e411 e611 e618 e412 e415 e440 e441 e442 e446 e439 e589 hp c413 c418 c448 c540 c542 c592 c594)
              have u638 : q586=(q446*q439) := (al639 Y0 Y1 e419 e426 e433 e420 e427 e434 e421 e428 e435 e439 e440 e441 e442 e446 e586 e412 e415 e584 e589 hp c413 c418 c448 c540 c542 c592 c594)
              have hc641 : PureCalls prog F.dens_Transfer [.agg (gW [r6,r7,r8,r9,r10,r11]),.agg (gW [r0,r1,r2,r3,r4,r5]),.agg (gD [x12,x15,x18,x13,x16,x19,x14,x17,x20,q409,q410,q411])] [.agg (gD [q595])] := by
                refine symFunc_sound hmix tree_dens_Transfer (by kernel_rfl) rfl ?_
                unfold ir_dens_Transfer
                simp only [HH, gW, gD]
                refine call_step hc634 rfl ?_
                simp only [HH, gW, gD]
                refine primS (.bool false) rfl ?_
                refine itF rfl ?_
                refine cs1 (n_vec_Dot_0w m619 m620 m621 m619 m620 m621 (by decide) u635) ?_
                refine primS (rl [(cr q446),(cr q439)]) rfl ?_
                refine cs1 (n_rat_Product_2 (k0 := q586) (m447.mono (by decide)) (m539.mono (by decide)) u638) ?_
                refine primS (rl [(cr q584),(cr q584)]) rfl ?_
                refine cs1 (n_rat_Product_2 (k0 := q589) (m588.mono (by decide)) (m588.mono (by decide)) e589) ?_
                simp only [HH, gW, gD]
                refine cs1 (n_dens_over_1 Y0 (m590.mono (by decide)) (m591.mono (by decide)) e595 c594) ?_
                exact ret_step rfl
              refine call_step hc641 rfl ?_
              simp only [HH, gW, gD]
              have m642 : Num 34252090019 (cr q595) q595 := Num.eqn e595 (Sm.div m590.sm m591.sm)
              refine cs0 (n_penumbraref03_Is_t (m642.mono (by decide)) (m642.mono (by decide)) rfl) ?_
              exact ret_step rfl
          · skip
            have hc643 : PureCalls prog F.dens_seen [.agg (gW [r0,r1,r2,r3,r4,r5]),.agg (gW [r6,r7,r8,r9,r10,r11]),.agg (gD [x12,x13,x14,x15,x16,x17,x18,x19,x20,x21,x22,x23])] [.agg (gD [f414_0,f414_1,f414_2,f414_3,f414_4,f414_5,f414_6,f414_7,f414_8,q433,q434,q435,q439,q446]),.one (.bool false)] := by
              refine symFunc_sound hmix tree_dens_seen (by kernel_rfl) rfl ?_
              unfold ir_dens_seen
              simp only [HH, gW, gD]
              refine call_step hf414 rfl ?_
              simp only [HH, gW, gD]
              refine primS (.bool false) rfl ?_
              refine itF rfl ?_
              refine cs1 (n_vec_Dot_0w h9 h10 h11 h9 h10 h11 (by decide) e415) ?_
              refine cs1 (n_rat_Of (1) (1) (by decide) (by decide) (by decide) (by decide) (Y1.trans (by decide +kernel))) ?_
              refine cs0 (n_rat_Same_t (m416.mono (by decide)) (m417.mono (by decide)) c418) ?_
              simp only [HH, gW, gD]
              refine primS (.bool false) rfl ?_
              refine itF rfl ?_
              refine call_step hc429 rfl ?_
              simp only [HH, gW, gD]
              refine cs3 (n_vec_Sub_0w m430 m431 m432 h0 h1 h2 (by decide) e433 e434 e435) ?_
              refine cs1 (n_vec_Dot_0w m436 m437 m438 h3 h4 h5 (by decide) e439) ?_
              refine cs3 (n_affine_Area_0w h12 h13 h14 h15 h16 h17 h18 h19 h20 h21 h22 h23 h9 h10 h11 (by decide) e440 e441 e442) ?_
              simp only [HH, gW, gD]
              refine cs1 (n_vec_Dot_0w m443 m444 m445 m436 m437 m438 (by decide) e446) ?_
              refine cs1 (n_rat_Abs_f Y0 (m447.mono (by decide)) c448) ?_
              refine cs0 (n_rat_Sign (m539.mono (by decide))) ?_
              simp only [HH, gW, gD]
              refine primS (.bool false) (cs_gtr_f (fun z => c540 ((sg_gt Y0).1 z))) ?_
              refine itF rfl ?_
              exact ret_step rfl
            have hc644 : PureCalls prog F.dens_Transfer [.agg (gW [r0,r1,r2,r3,r4,r5]),.agg (gW [r6,r7,r8,r9,r10,r11]),.agg (gD [x12,x13,x14,x15,x16,x17,x18,x19,x20,x21,x22,x23])] [.agg (gD [Z0])] := by
              refine symFunc_sound hmix tree_dens_Transfer (by kernel_rfl) rfl ?_
              unfold ir_dens_Transfer
              simp only [HH, gW, gD]
              refine call_step hc643 rfl ?_
              simp only [HH, gW, gD]
              refine primS (.bool true) rfl ?_
              refine itT rfl ?_
              refine cs1 (n_rat_Of (0) (1) (by decide) (by decide) (by decide) (by decide) (Y0.trans (by decide +kernel))) ?_
              exact ret_step rfl
            refine call_step hc644 rfl ?_
            simp only [HH, gW, gD]
            obtain ⟨f645_0,f645_1,f645_2,f645_3,f645_4,f645_5,f645_6,f645_7,f645_8,hf645⟩ := frame_any (h9.mono (by decide)) (h10.mono (by decide)) (h11.mono (by decide)) ((e415.symm.trans c418).trans Y1)
            have m646 : Num 6291458 (cr q412) q412 := Num.eqn e412 (Sm.add (Sm.add (Sm.mul h3.sm h3.sm) (Sm.mul h4.sm h4.sm)) (Sm.mul h5.sm h5.sm))
            have m648 : Num 1 (cr Zm1) Zm1 := Num.c Ym1 (by decide +kernel) (by decide +kernel)
            have m647 : Num 2334000621 (cr q409) q409 := Num.eqn e409 (Sm.mul m648.sm (Sm.add (Sm.add (Sm.mul h12.sm h21.sm) (Sm.mul h15.sm h22.sm)) (Sm.mul h18.sm h23.sm)))
            have m649 : Num 2334000621 (cr q410) q410 := Num.eqn e410 (Sm.mul m648.sm (Sm.add (Sm.add (Sm.mul h13.sm h21.sm) (Sm.mul h16.sm h22.sm)) (Sm.mul h19.sm h23.sm)))
            have m650 : Num 2334000621 (cr q411) q411 := Num.eqn e411 (Sm.mul m648.sm (Sm.add (Sm.add (Sm.mul h14.sm h21.sm) (Sm.mul h17.sm h22.sm)) (Sm.mul h20.sm h23.sm)))
            obtain ⟨q651,e651⟩ := ex_eq (((x12*x0)+(x15*x1))+(x18*x2))
            obtain ⟨q652,e652⟩ := ex_eq (((x13*x0)+(x16*x1))+(x19*x2))
            obtain ⟨q653,e653⟩ := ex_eq (((x14*x0)+(x17*x1))+(x20*x2))
            have m655 : Num 843145973 (cr q651) q651 := Num.eqn e651 (Sm.add (Sm.add (Sm.mul h12.sm h0.sm) (Sm.mul h15.sm h1.sm)) (Sm.mul h18.sm h2.sm))
            have m656 : Num 843145973 (cr q652) q652 := Num.eqn e652 (Sm.add (Sm.add (Sm.mul h13.sm h0.sm) (Sm.mul h16.sm h1.sm)) (Sm.mul h19.sm h2.sm))
            have m657 : Num 843145973 (cr q653) q653 := Num.eqn e653 (Sm.add (Sm.add (Sm.mul h14.sm h0.sm) (Sm.mul h17.sm h1.sm)) (Sm.mul h20.sm h2.sm))
            obtain ⟨q658,e658⟩ := ex_eq (q651+q409)
            obtain ⟨q659,e659⟩ := ex_eq (q652+q410)
            obtain ⟨q660,e660⟩ := ex_eq (q653+q411)
            have hc661 : PureCalls prog F.affine_Apply [.agg (gD [x12,x15,x18,x13,x16,x19,x14,x17,x20,q409,q410,q411]),.agg (gW [r0,r1,r2])] [.agg (gD [q658,q659,q660])] := by
              refine symFunc_sound hmix tree_affine_Apply (by kernel_rfl) rfl ?_
              unfold ir_affine_Apply
              simp only [HH, gW, gD]
              refine cs3 (n_affine_Turn_0w h12 h15 h18 h13 h16 h19 h14 h17 h20 m647 m649 m650 h0 h1 h2 (by decide) e651 e652 e653) ?_
              refine primS (rl3 [((cr q651),(cr q652),(cr q653)),((cr q409),(cr q410),(cr q411))]) rfl ?_
              refine cs3 (n_vec_Sum_2 (o0 := q658) (o1 := q659) (o2 := q660) (m655.mono (by decide)) (m656.mono (by decide)) (m657.mono (by decide)) (m647.mono (by decide)) (m649.mono (by decide)) (m650.mono (by decide)) e658 e659 e660) ?_
              exact ret_step rfl
            have m662 : Num 3177146595 (cr q658) q658 := Num.eqn e658 (Sm.add m655.sm m647.sm)
            have m663 : Num 3177146595 (cr q659) q659 := Num.eqn e659 (Sm.add m656.sm m649.sm)
            have m664 : Num 3177146595 (cr q660) q660 := Num.eqn e660 (Sm.add m657.sm m650.sm)
            obtain ⟨q665,e665⟩ := ex_eq (q658-x6)
            obtain ⟨q666,e666⟩ := ex_eq (q659-x7)
            obtain ⟨q667,e667⟩ := ex_eq (q660-x8)
            have m668 : Num 3178195172 (cr q665) q665 := Num.eqn e665 (Sm.sub m662.sm h6.sm)
            have m669 : Num 3178195172 (cr q666) q666 := Num.eqn e666 (Sm.sub m663.sm h7.sm)
            have m670 : Num 3178195172 (cr q667) q667 := Num.eqn e667 (Sm.sub m664.sm h8.sm)
            have u671 : q446=(((q665*x9)+(q666*x10))+(q667*x11)) := (al672 Ym1 Y0 Y1 e440 e419 e426 e433 e441 e420 e427 e434 e442 e421 e428 e435 e446 e651 e409 e658 e665 e652 e410 e659 e666 e653 e411 e660 e667 e412 e415 e439 hp c413 c418 c448 c540)
            obtain ⟨q673,e673⟩ := ex_eq (((((x16*x20)-(x19*x17))*x3)+(((x19*x14)-(x13*x20))*x4))+(((x13*x17)-(x16*x14))*x5))
            obtain ⟨q674,e674⟩ := ex_eq (((((x17*x18)-(x20*x15))*x3)+(((x20*x12)-(x14*x18))*x4))+(((x14*x15)-(x17*x12))*x5))
            obtain ⟨q675,e675⟩ := ex_eq (((((x15*x19)-(x18*x16))*x3)+(((x18*x13)-(x12*x19))*x4))+(((x12*x16)-(x15*x13))*x5))
            have m676 : Num 3363146705 (cr q673) q673 := Num.eqn e673 (Sm.add (Sm.add (Sm.mul (Sm.sub (Sm.mul h16.sm h20.sm) (Sm.mul h19.sm h17.sm)) h3.sm) (Sm.mul (Sm.sub (Sm.mul h19.sm h14.sm) (Sm.mul h13.sm h20.sm)) h4.sm)) (Sm.mul (Sm.sub (Sm.mul h13.sm h17.sm) (Sm.mul h16.sm h14.sm)) h5.sm))
            have m677 : Num 3363146705 (cr q674) q674 := Num.eqn e674 (Sm.add (Sm.add (Sm.mul (Sm.sub (Sm.mul h17.sm h18.sm) (Sm.mul h20.sm h15.sm)) h3.sm) (Sm.mul (Sm.sub (Sm.mul h20.sm h12.sm) (Sm.mul h14.sm h18.sm)) h4.sm)) (Sm.mul (Sm.sub (Sm.mul h14.sm h15.sm) (Sm.mul h17.sm h12.sm)) h5.sm))
            have m678 : Num 3363146705 (cr q675) q675 := Num.eqn e675 (Sm.add (Sm.add (Sm.mul (Sm.sub (Sm.mul h15.sm h19.sm) (Sm.mul h18.sm h16.sm)) h3.sm) (Sm.mul (Sm.sub (Sm.mul h18.sm h13.sm) (Sm.mul h12.sm h19.sm)) h4.sm)) (Sm.mul (Sm.sub (Sm.mul h12.sm h16.sm) (Sm.mul h15.sm h13.sm)) h5.sm))
            have u679 : q439=(((q673*q665)+(q674*q666))+(q675*q667)) := (al680 Ym1 Y0 Y1 e419 e426 e433 e420 e427 e434 e421 e428 e435 e439 e673 e651 e409 e658 e665 e674 e652 e410 e659 e666 e675 e653 e411 e660 e667 e412 e415 e440 e441 e442 e446 hp c413 c418 c448 c540)
            by_cases c681 : q439<Z0
            · skip
              obtain ⟨q682,e682⟩ := ex_eq (-q439)
              by_cases c683 : Z0<q446
              · skip
                have u684 : Zm1=(((x12*((x16*x20)-(x19*x17)))+(x15*((x19*x14)-(x13*x20))))+(x18*((x13*x17)-(x16*x14)))) := (al685 Ym1 Y0 Y1 e412 e415 e440 e419 e426 e433 e441 e420 e427 e434 e442 e421 e428 e435 e446 e439 hp c413 c418 c448 c540 c681 c683)
                have hc686 : PureCalls prog F.dens_seen [.agg (gW [r6,r7,r8,r9,r10,r11]),.agg (gW [r0,r1,r2,r3,r4,r5]),.agg (gD [x12,x15,x18,x13,x16,x19,x14,x17,x20,q409,q410,q411])] [.agg (gD [f645_0,f645_1,f645_2,f645_3,f645_4,f645_5,f645_6,f645_7,f645_8,q665,q666,q667,q446,q682]),.one (.bool false)] := by
                  refine symFunc_sound hmix tree_dens_seen (by kernel_rfl) rfl ?_
                  unfold ir_dens_seen
                  simp only [HH, gW, gD]
                  refine call_step hf645 rfl ?_
                  simp only [HH, gW, gD]
                  refine primS (.bool false) rfl ?_
                  refine itF rfl ?_
                  refine cs1 (n_vec_Dot_0w h3 h4 h5 h3 h4 h5 (by decide) e412) ?_
                  refine cs1 (n_rat_Of (1) (1) (by decide) (by decide) (by decide) (by decide) (Y1.trans (by decide +kernel))) ?_
                  refine cs0 (n_rat_Same_t (m646.mono (by decide)) (m417.mono (by decide)) c413) ?_
                  simp only [HH, gW, gD]
                  refine primS (.bool false) rfl ?_
                  refine itF rfl ?_
                  refine call_step hc661 rfl ?_
                  simp only [HH, gW, gD]
                  refine cs3 (n_vec_Sub_0w m662 m663 m664 h6 h7 h8 (by decide) e665 e666 e667) ?_
                  refine cs1 (n_vec_Dot_0w m668 m669 m670 h9 h10 h11 (by decide) u671) ?_
                  refine cs3 (n_affine_Area_0w h12 h15 h18 h13 h16 h19 h14 h17 h20 m647 m649 m650 h3 h4 h5 (by decide) e673 e674 e675) ?_
                  simp only [HH, gW, gD]
                  refine cs1 (n_vec_Dot_0w m676 m677 m678 m668 m669 m670 (by decide) u679) ?_
                  refine cs1 (n_rat_Abs_t Y0 (m539.mono (by decide)) e682 c681) ?_
                  refine cs0 (n_rat_Sign (m447.mono (by decide))) ?_
                  simp only [HH, gW, gD]
                  refine primS (.bool true) (cs_gtr_t ((sg_gt Y0).2 c683)) ?_
                  refine itT rfl ?_
                  refine cs0 (n_rat_Sign (m539.mono (by decide))) ?_
                  refine cs1 (n_affine_Det_0w h12 h15 h18 h13 h16 h19 h14 h17 h20 m647 m649 m650 (by decide) u684) ?_
                  refine cs0 (n_rat_Sign (m648.mono (by decide))) ?_
                  simp only [HH, gW, gD]
                  refine primS (.int .i64 (1)) (ii_mul (sgn_m Y0 c681) (sgn_m Y0 (show (Zm1<Z0) by rw [Ym1,Y0] <;> decide +kernel)) rfl) ?_
                  refine primS (.bool false) rfl ?_
                  exact ret_step rfl
                have hc687 : PureCalls prog F.dens_Transfer [.agg (gW [r6,r7,r8,r9,r10,r11]),.agg (gW [r0,r1,r2,r3,r4,r5]),.agg (gD [x12,x15,x18,x13,x16,x19,x14,x17,x20,q409,q410,q411])] [.agg (gD [Z0])] := by
                  refine symFunc_sound hmix tree_dens_Transfer (by kernel_rfl) rfl ?_
                  unfold ir_dens_Transfer
                  simp only [HH, gW, gD]
                  refine call_step hc686 rfl ?_
                  simp only [HH, gW, gD]
                  refine primS (.bool true) rfl ?_
                  refine itT rfl ?_
                  refine cs1 (n_rat_Of (0) (1) (by decide) (by decide) (by decide) (by decide) (Y0.trans (by decide +kernel))) ?_
                  exact ret_step rfl
                refine call_step hc687 rfl ?_
                simp only [HH, gW, gD]
                have m688 : Num 1 (cr Z0) Z0 := Num.c Y0 (by decide +kernel) (by decide +kernel)
                refine cs0 (n_penumbraref03_Is_t (m688.mono (by decide)) (m688.mono (by decide)) rfl) ?_
                exact ret_step rfl
              · skip
                have hc689 : PureCalls prog F.dens_seen [.agg (gW [r6,r7,r8,r9,r10,r11]),.agg (gW [r0,r1,r2,r3,r4,r5]),.agg (gD [x12,x15,x18,x13,x16,x19,x14,x17,x20,q409,q410,q411])] [.agg (gD [f645_0,f645_1,f645_2,f645_3,f645_4,f645_5,f645_6,f645_7,f645_8,q665,q666,q667,q446,q682]),.one (.bool false)] := by
                  refine symFunc_sound hmix tree_dens_seen (by kernel_rfl) rfl ?_
                  unfold ir_dens_seen
                  simp only [HH, gW, gD]
                  refine call_step hf645 rfl ?_
                  simp only [HH, gW, gD]
                  refine primS (.bool false) rfl ?_
                  refine itF rfl ?_
                  refine cs1 (n_vec_Dot_0w h3 h4 h5 h3 h4 h5 (by decide) e412) ?_
                  refine cs1 (n_rat_Of (1) (1) (by decide) (by decide) (by decide) (by decide) (Y1.trans (by decide +kernel))) ?_
                  refine cs0 (n_rat_Same_t (m646.mono (by decide)) (m417.mono (by decide)) c413) ?_
                  simp only [HH, gW, gD]
                  refine primS (.bool false) rfl ?_
                  refine itF rfl ?_
                  refine call_step hc661 rfl ?_
                  simp only [HH, gW, gD]
                  refine cs3 (n_vec_Sub_0w m662 m663 m664 h6 h7 h8 (by decide) e665 e666 e667) ?_
                  refine cs1 (n_vec_Dot_0w m668 m669 m670 h9 h10 h11 (by decide) u671) ?_
                  refine cs3 (n_affine_Area_0w h12 h15 h18 h13 h16 h19 h14 h17 h20 m647 m649 m650 h3 h4 h5 (by decide) e673 e674 e675) ?_
                  simp only [HH, gW, gD]
                  refine cs1 (n_vec_Dot_0w m676 m677 m678 m668 m669 m670 (by decide) u679) ?_
                  refine cs1 (n_rat_Abs_t Y0 (m539.mono (by decide)) e682 c681) ?_
                  refine cs0 (n_rat_Sign (m447.mono (by decide))) ?_
                  simp only [HH, gW, gD]
                  refine primS (.bool false) (cs_gtr_f (fun z => c683 ((sg_gt Y0).1 z))) ?_
                  refine itF rfl ?_
                  exact ret_step rfl
                have hc690 : PureCalls prog F.dens_Transfer [.agg (gW [r6,r7,r8,r9,r10,r11]),.agg (gW [r0,r1,r2,r3,r4,r5]),.agg (gD [x12,x15,x18,x13,x16,x19,x14,x17,x20,q409,q410,q411])] [.agg (gD [Z0])] := by
                  refine symFunc_sound hmix tree_dens_Transfer (by kernel_rfl) rfl ?_
                  unfold ir_dens_Transfer
                  simp only [HH, gW, gD]
                  refine call_step hc689 rfl ?_
                  simp only [HH, gW, gD]
                  refine primS (.bool true) rfl ?_
                  refine itT rfl ?_
                  refine cs1 (n_rat_Of (0) (1) (by decide) (by decide) (by decide) (by decide) (Y0.trans (by decide +kernel))) ?_
                  exact ret_step rfl
                refine call_step hc690 rfl ?_
                simp only [HH, gW, gD]
                have m691 : Num 1 (cr Z0) Z0 := Num.c Y0 (by decide +kernel) (by decide +kernel)
                refine cs0 (n_penumbraref03_Is_t (m691.mono (by decide)) (m691.mono (by decide)) rfl) ?_
                exact ret_step rfl
            · skip
              by_cases c692 : Z0<q446
              · skip
                have u693 : Zm1=(((x12*((x16*x20)-(x19*x17)))+(x15*((x19*x14)-(x13*x20))))+(x18*((x13*x17)-(x16*x14)))) := (al694 Ym1 Y0 Y1 e412 e415 e440 e419 e426 e433 e441 e420 e427 e434 e442 e421 e428 e435 e446 e439 hp c413 c418 c448 c540 c681 c692)
                have hc695 : PureCalls prog F.dens_seen [.agg (gW [r6,r7,r8,r9,r10,r11]),.agg (gW [r0,r1,r2,r3,r4,r5]),.agg (gD [x12,x15,x18,x13,x16,x19,x14,x17,x20,q409,q410,q411])] [.agg (gD [f645_0,f645_1,f645_2,f645_3,f645_4,f645_5,f645_6,f645_7,f645_8,q665,q666,q667,q446,q439]),.one (.bool false)] := by
                  refine symFunc_sound hmix tree_dens_seen (by kernel_rfl) rfl ?_
                  unfold ir_dens_seen
                  simp only [HH, gW, gD]
                  refine call_step hf645 rfl ?_
                  simp only [HH, gW, gD]
                  refine primS (.bool false) rfl ?_
                  refine itF rfl ?_
                  refine cs1 (n_vec_Dot_0w h3 h4 h5 h3 h4 h5 (by decide) e412) ?_
                  refine cs1 (n_rat_Of (1) (1) (by decide) (by decide) (by decide) (by decide) (Y1.trans (by decide +kernel))) ?_
                  refine cs0 (n_rat_Same_t (m646.mono (by decide)) (m417.mono (by decide)) c413) ?_
                  simp only [HH, gW, gD]
                  refine primS (.bool false) rfl ?_
                  refine itF rfl ?_
                  refine call_step hc661 rfl ?_
                  simp only [HH, gW, gD]
                  refine cs3 (n_vec_Sub_0w m662 m663 m664 h6 h7 h8 (by decide) e665 e666 e667) ?_
                  refine cs1 (n_vec_Dot_0w m668 m669 m670 h9 h10 h11 (by decide) u671) ?_
                  refine cs3 (n_affine_Area_0w h12 h15 h18 h13 h16 h19 h14 h17 h20 m647 m649 m650 h3 h4 h5 (by decide) e673 e674 e675) ?_
                  simp only [HH, gW, gD]
                  refine cs1 (n_vec_Dot_0w m676 m677 m678 m668 m669 m670 (by decide) u679) ?_
                  refine cs1 (n_rat_Abs_f Y0 (m539.mono (by decide)) c681) ?_
                  refine cs0 (n_rat_Sign (m447.mono (by decide))) ?_
                  simp only [HH, gW, gD]
                  refine primS (.bool true) (cs_gtr_t ((sg_gt Y0).2 c692)) ?_
                  refine itT rfl ?_
                  refine cs0 (n_rat_Sign (m539.mono (by decide))) ?_
                  refine cs1 (n_affine_Det_0w h12 h15 h18 h13 h16 h19 h14 h17 h20 m647 m649 m650 (by decide) u693) ?_
                  refine cs0 (n_rat_Sign (m648.mono (by decide))) ?_
                  simp only [HH, gW, gD]
                  refine primS (.int .i64 (0)) (ii_mul0 (sgn_z Y0 (t_eq c681 c540))) ?_
                  refine primS (.bool false) rfl ?_
                  exact ret_step rfl
                have hc696 : PureCalls prog F.dens_Transfer [.agg (gW [r6,r7,r8,r9,r10,r11]),.agg (gW [r0,r1,r2,r3,r4,r5]),.agg (gD [x12,x15,x18,x13,x16,x19,x14,x17,x20,q409,q410,q411])] [.agg (gD [Z0])] := by
                  refine symFunc_sound hmix tree_dens_Transfer (by kernel_rfl) rfl ?_
                  unfold ir_dens_Transfer
                  simp only [HH, gW, gD]
                  refine call_step hc695 rfl ?_
                  simp only [HH, gW, gD]
                  refine primS (.bool true) rfl ?_
                  refine itT rfl ?_
                  refine cs1 (n_rat_Of (0) (1) (by decide) (by decide) (by decide) (by decide) (Y0.trans (by decide +kernel))) ?_
                  exact ret_step rfl
                refine call_step hc696 rfl ?_
                simp only [HH, gW, gD]
                have m697 : Num 1 (cr Z0) Z0 := Num.c Y0 (by decide +kernel) (by decide +kernel)
                refine cs0 (n_penumbraref03_Is_t (m697.mono (by decide)) (m697.mono (by decide)) rfl) ?_
                exact ret_step rfl
              · skip
                have hc698 : PureCalls prog F.dens_seen [.agg (gW [r6,r7,r8,r9,r10,r11]),.agg (gW [r0,r1,r2,r3,r4,r5]),.agg (gD [x12,x15,x18,x13,x16,x19,x14,x17,x20,q409,q410,q411])] [.agg (gD [f645_0,f645_1,f645_2,f645_3,f645_4,f645_5,f645_6,f645_7,f645_8,q665,q666,q667,q446,q439]),.one (.bool false)] := by
                  refine symFunc_sound hmix tree_dens_seen (by kernel_rfl) rfl ?_
                  unfold ir_dens_seen
                  simp only [HH, gW, gD]
                  refine call_step hf645 rfl ?_
                  simp only [HH, gW, gD]
                  refine primS (.bool false) rfl ?_
                  refine itF rfl ?_
                  refine cs1 (n_vec_Dot_0w h3 h4 h5 h3 h4 h5 (by decide) e412) ?_
                  refine cs1 (n_rat_Of (1) (1) (by decide) (by decide) (by decide) (by decide) (Y1.trans (by decide +kernel))) ?_
                  refine cs0 (n_rat_Same_t (m646.mono (by decide)) (m417.mono (by decide)) c413) ?_
                  simp only [HH, gW, gD]
                  refine primS (.bool false) rfl ?_
                  refine itF rfl ?_
                  refine call_step hc661 rfl ?_
                  simp only [HH, gW, gD]
                  refine cs3 (n_vec_Sub_0w m662 m663 m664 h6 h7 h8 (by decide) e665 e666 e667) ?_
                  refine cs1 (n_vec_Dot_0w m668 m669 m670 h9 h10 h11 (by decide) u671) ?_
                  refine cs3 (n_affine_Area_0w h12 h15 h18 h13 h16 h19 h14 h17 h20 m647 m649 m650 h3 h4 h5 (by decide) e673 e674 e675) ?_
                  simp only [HH, gW, gD]
                  refine cs1 (n_vec_Dot_0w m676 m677 m678 m668 m669 m670 (by decide) u679) ?_
                  refine cs1 (n_rat_Abs_f Y0 (m539.mono (by decide)) c681) ?_
                  refine cs0 (n_rat_Sign (m447.mono (by decide))) ?_
                  simp only [HH, gW, gD]
                  refine primS (.bool false) (cs_gtr_f (fun z => c692 ((sg_gt Y0).1 z))) ?_
                  refine itF rfl ?_
                  exact ret_step rfl
                have hc699 : PureCalls prog F.dens_Transfer [.agg (gW [r6,r7,r8,r9,r10,r11]),.agg (gW [r0,r1,r2,r3,r4,r5]),.agg (gD [x12,x15,x18,x13,x16,x19,x14,x17,x20,q409,q410,q411])] [.agg (gD [Z0])] := by
                  refine symFunc_sound hmix tree_dens_Transfer (by kernel_rfl) rfl ?_
                  unfold ir_dens_Transfer
                  simp only [HH, gW, gD]
                  refine call_step hc698 rfl ?_
                  simp only [HH, gW, gD]
                  refine primS (.bool true) rfl ?_
                  refine itT rfl ?_
                  refine cs1 (n_rat_Of (0) (1) (by decide) (by decide) (by decide) (by decide) (Y0.trans (by decide +kernel))) ?_
                  exact ret_step rfl
                refine call_step hc699 rfl ?_
                simp only [HH, gW, gD]
                have m700 : Num 1 (cr Z0) Z0 := Num.c Y0 (by decide +kernel) (by decide +kernel)
                refine cs0 (n_penumbraref03_Is_t (m700.mono (by decide)) (m700.mono (by decide)) rfl) ?_
                exact ret_step rfl
      · skip
        have hc701 : PureCalls prog F.dens_seen [.agg (gW [r0,r1,r2,r3,r4,r5]),.agg (gW [r6,r7,r8,r9,r10,r11]),.agg (gD [x12,x13,x14,x15,x16,x17,x18,x19,x20,x21,x22,x23])] [.agg (gW [rz,rz,rz,rz,rz,rz,rz,rz,rz,rz,rz,rz,rz,rz]),.one (.bool false)] := by
          refine symFunc_sound hmix tree_dens_seen (by kernel_rfl) rfl ?_
          unfold ir_dens_seen
          simp only [HH, gW, gD]
          refine call_step hf414 rfl ?_
          simp only [HH, gW, gD]
          refine primS (.bool false) rfl ?_
          refine itF rfl ?_
          refine cs1 (n_vec_Dot_0w h9 h10 h11 h9 h10 h11 (by decide) e415) ?_
          refine cs1 (n_rat_Of (1) (1) (by decide) (by decide) (by decide) (by decide) (Y1.trans (by decide +kernel))) ?_
          refine cs0 (n_rat_Same_f (m416.mono (by decide)) (m417.mono (by decide)) c418) ?_
          simp only [HH, gW, gD]
          refine primS (.bool true) rfl ?_
          refine itT rfl ?_
          exact ret_step rfl
        have hc702 : PureCalls prog F.dens_Transfer [.agg (gW [r0,r1,r2,r3,r4,r5]),.agg (gW [r6,r7,r8,r9,r10,r11]),.agg (gD [x12,x13,x14,x15,x16,x17,x18,x19,x20,x21,x22,x23])] [.agg (gD [Z0])] := by
          refine symFunc_sound hmix tree_dens_Transfer (by kernel_rfl) rfl ?_
          unfold ir_dens_Transfer
          simp only [HH, gW, gD]
          refine call_step hc701 rfl ?_
          simp only [HH, gW, gD]
          refine primS (.bool true) rfl ?_
          refine itT rfl ?_
          refine cs1 (n_rat_Of (0) (1) (by decide) (by decide) (by decide) (by decide) (Y0.trans (by decide +kernel))) ?_
          exact ret_step rfl
        refine call_step hc702 rfl ?_
        simp only [HH, gW, gD]
        have hc703 : PureCalls prog F.dens_seen [.agg (gW [r6,r7,r8,r9,r10,r11]),.agg (gW [r0,r1,r2,r3,r4,r5]),.agg (gD [x12,x15,x18,x13,x16,x19,x14,x17,x20,q409,q410,q411])] [.agg (gW [rz,rz,rz,rz,rz,rz,rz,rz,rz,rz,rz,rz,rz,rz]),.one (.bool false)] := by
          refine symFunc_sound hmix tree_dens_seen (by kernel_rfl) rfl ?_
          unfold ir_dens_seen
          simp only [HH, gW, gD]
          refine call_step (n_frame_Of_2 Y0 Y1 (h9.mono (by decide)) (h10.mono (by decide)) (h11.mono (by decide)) rfl (fun z => c418 (e415.trans z))) rfl ?_
          simp only [HH, gW, gD]
          refine primS (.bool true) rfl ?_
          refine itT rfl ?_
          exact ret_step rfl
        have hc704 : PureCalls prog F.dens_Transfer [.agg (gW [r6,r7,r8,r9,r10,r11]),.agg (gW [r0,r1,r2,r3,r4,r5]),.agg (gD [x12,x15,x18,x13,x16,x19,x14,x17,x20,q409,q410,q411])] [.agg (gD [Z0])] := by
          refine symFunc_sound hmix tree_dens_Transfer (by kernel_rfl) rfl ?_
          unfold ir_dens_Transfer
          simp only [HH, gW, gD]
          refine call_step hc703 rfl ?_
          simp only [HH, gW, gD]
          refine primS (.bool true) rfl ?_
          refine itT rfl ?_
          refine cs1 (n_rat_Of (0) (1) (by decide) (by decide) (by decide) (by decide) (Y0.trans (by decide +kernel))) ?_
          exact ret_step rfl
        refine call_step hc704 rfl ?_
        simp only [HH, gW, gD]
        have m705 : Num 1 (cr Z0) Z0 := Num.c Y0 (by decide +kernel) (by decide +kernel)
        refine cs0 (n_penumbraref03_Is_t (m705.mono (by decide)) (m705.mono (by decide)) rfl) ?_
        exact ret_step rfl
    · skip
      have hc706 : PureCalls prog F.dens_seen [.agg (gW [r0,r1,r2,r3,r4,r5]),.agg (gW [r6,r7,r8,r9,r10,r11]),.agg (gD [x12,x13,x14,x15,x16,x17,x18,x19,x20,x21,x22,x23])] [.agg (gW [rz,rz,rz,rz,rz,rz,rz,rz,rz,rz,rz,rz,rz,rz]),.one (.bool false)] := by
        refine symFunc_sound hmix tree_dens_seen (by kernel_rfl) rfl ?_
        unfold ir_dens_seen
        simp only [HH, gW, gD]
        refine call_step (n_frame_Of_2 Y0 Y1 (h3.mono (by decide)) (h4.mono (by decide)) (h5.mono (by decide)) rfl (fun z => c413 (e412.trans z))) rfl ?_
        simp only [HH, gW, gD]
        refine primS (.bool true) rfl ?_
        refine itT rfl ?_
        exact ret_step rfl
      have hc707 : PureCalls prog F.dens_Transfer [.agg (gW [r0,r1,r2,r3,r4,r5]),.agg (gW [r6,r7,r8,r9,r10,r11]),.agg (gD [x12,x13,x14,x15,x16,x17,x18,x19,x20,x21,x22,x23])] [.agg (gD [Z0])] := by
        refine symFunc_sound hmix tree_dens_Transfer (by kernel_rfl) rfl ?_
        unfold ir_dens_Transfer
        simp only [HH, gW, gD]
        refine call_step hc706 rfl ?_
        simp only [HH, gW, gD]
        refine primS (.bool true) rfl ?_
        refine itT rfl ?_
        refine cs1 (n_rat_Of (0) (1) (by decide) (by decide) (by decide) (by decide) (Y0.trans (by decide +kernel))) ?_
        exact ret_step rfl
      refine call_step hc707 rfl ?_
      simp only [HH, gW, gD]
      obtain ⟨q708,e708⟩ := ex_eq (((x9*x9)+(x10*x10))+(x11*x11))
      by_cases c709 : q708=Z1
      · skip
        obtain ⟨f710_0,f710_1,f710_2,f710_3,f710_4,f710_5,f710_6,f710_7,f710_8,hf710⟩ := frame_any (h9.mono (by decide)) (h10.mono (by decide)) (h11.mono (by decide)) ((e708.symm.trans c709).trans Y1)
        have m711 : Num 6291458 (cr q412) q412 := Num.eqn e412 (Sm.add (Sm.add (Sm.mul h3.sm h3.sm) (Sm.mul h4.sm h4.sm)) (Sm.mul h5.sm h5.sm))
        have m712 : Num 1 (cr Z1) Z1 := Num.c Y1 (by decide +kernel) (by decide +kernel)
        have hc713 : PureCalls prog F.dens_seen [.agg (gW [r6,r7,r8,r9,r10,r11]),.agg (gW [r0,r1,r2,r3,r4,r5]),.agg (gD [x12,x15,x18,x13,x16,x19,x14,x17,x20,q409,q410,q411])] [.agg (gW [rz,rz,rz,rz,rz,rz,rz,rz,rz,rz,rz,rz,rz,rz]),.one (.bool false)] := by
          refine symFunc_sound hmix tree_dens_seen (by kernel_rfl) rfl ?_
          unfold ir_dens_seen
          simp only [HH, gW, gD]
          refine call_step hf710 rfl ?_
          simp only [HH, gW, gD]
          refine primS (.bool false) rfl ?_
          refine itF rfl ?_
          refine cs1 (n_vec_Dot_0w h3 h4 h5 h3 h4 h5 (by decide) e412) ?_
          refine cs1 (n_rat_Of (1) (1) (by decide) (by decide) (by decide) (by decide) (Y1.trans (by decide +kernel))) ?_
          refine cs0 (n_rat_Same_f (m711.mono (by decide)) (m712.mono (by decide)) c413) ?_
          simp only [HH, gW, gD]
          refine primS (.bool true) rfl ?_
          refine itT rfl ?_
          exact ret_step rfl
        have hc714 : PureCalls prog F.dens_Transfer [.agg (gW [r6,r7,r8,r9,r10,r11]),.agg (gW [r0,r1,r2,r3,r4,r5]),.agg (gD [x12,x15,x18,x13,x16,x19,x14,x17,x20,q409,q410,q411])] [.agg (gD [Z0])] := by
          refine symFunc_sound hmix tree_dens_Transfer (by kernel_rfl) rfl ?_
          unfold ir_dens_Transfer
          simp only [HH, gW, gD]
          refine call_step hc713 rfl ?_
          simp only [HH, gW, gD]
          refine primS (.bool true) rfl ?_
          refine itT rfl ?_
          refine cs1 (n_rat_Of (0) (1) (by decide) (by decide) (by decide) (by decide) (Y0.trans (by decide +kernel))) ?_
          exact ret_step rfl
        refine call_step hc714 rfl ?_
        simp only [HH, gW, gD]
        have m715 : Num 1 (cr Z0) Z0 := Num.c Y0 (by decide +kernel) (by decide +kernel)
        refine cs0 (n_penumbraref03_Is_t (m715.mono (by decide)) (m715.mono (by decide)) rfl) ?_
        exact ret_step rfl
      · skip
        have hc716 : PureCalls prog F.dens_seen [.agg (gW [r6,r7,r8,r9,r10,r11]),.agg (gW [r0,r1,r2,r3,r4,r5]),.agg (gD [x12,x15,x18,x13,x16,x19,x14,x17,x20,q409,q410,q411])] [.agg (gW [rz,rz,rz,rz,rz,rz,rz,rz,rz,rz,rz,rz,rz,rz]),.one (.bool false)] := by
          refine symFunc_sound hmix tree_dens_seen (by kernel_rfl) rfl ?_
          unfold ir_dens_seen
          simp only [HH, gW, gD]
          refine call_step (n_frame_Of_2 Y0 Y1 (h9.mono (by decide)) (h10.mono (by decide)) (h11.mono (by decide)) rfl (fun z => c709 (e708.trans z))) rfl ?_
          simp only [HH, gW, gD]
          refine primS (.bool true) rfl ?_
          refine itT rfl ?_
          exact ret_step rfl
        have hc717 : PureCalls prog F.dens_Transfer [.agg (gW [r6,r7,r8,r9,r10,r11]),.agg (gW [r0,r1,r2,r3,r4,r5]),.agg (gD [x12,x15,x18,x13,x16,x19,x14,x17,x20,q409,q410,q411])] [.agg (gD [Z0])] := by
          refine symFunc_sound hmix tree_dens_Transfer (by kernel_rfl) rfl ?_
          unfold ir_dens_Transfer
          simp only [HH, gW, gD]
          refine call_step hc716 rfl ?_
          simp only [HH, gW, gD]
          refine primS (.bool true) rfl ?_
          refine itT rfl ?_
          refine cs1 (n_rat_Of (0) (1) (by decide) (by decide) (by decide) (by decide) (Y0.trans (by decide +kernel))) ?_
          exact ret_step rfl
        refine call_step hc717 rfl ?_
        simp only [HH, gW, gD]
        have m718 : Num 1 (cr Z0) Z0 := Num.c Y0 (by decide +kernel) (by decide +kernel)
        refine cs0 (n_penumbraref03_Is_t (m718.mono (by decide)) (m718.mono (by decide)) rfl) ?_
        exact ret_step rfl

end Go.Px.Na
