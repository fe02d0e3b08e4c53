/- Kw: which trees fit: the document's way. -/
import Derived.Test.YtdkifeiejkikdaaGreatKv
import Derived.Test.YtdkifeiejkikdaaGreatKn
set_option maxRecDepth 40000
set_option maxHeartbeats 40000000
set_option linter.unusedVariables false
set_option linter.unusedSimpArgs false
namespace Go.Px.Na
open Go.RowKit
open Go.Proofs.Tryz (prog)
theorem kn_get {ns : List KN} {k : IntKind} {a : Int} {n : KN} (h0 : 0 ≤ a) (hn : ns[a.toNat]? = some n) (off : Nat) (d : DV) (hd : n.l[off]? = some d) (ho : off < 4) : Prim.den (.get 4 off) [kl ns, .int k a] = some d := by
  have := (List.getElem?_eq_some_iff.1 hn).1
  simp only [kl, Prim.den]
  rw [if_pos ⟨h0, by omega⟩, fm_get kn_len off hn ho, hd]
theorem izl_get {l : List Nat} {k : IntKind} {j : Nat} {x : Nat} (h : l[j]? = some x) : Prim.den (.get 1 0) [il (iz l), .int k (j : Int)] = some (.int .i64 (x : Int)) := by
  have hj := (List.getElem?_eq_some_iff.1 h).1
  rw [il_get (by omega) (by rw [iz_len]; omega), Int.toNat_natCast, List.getD_eq_getElem?_getD, iz_get, h]
  rfl
theorem f_below {ns : List KN} {m : Nat} (hm : ns.length = m) (hb : m ≤ 1000) (hS : Shp ns m) : ∀ (f : Nat) (a : Int), Wi m f a → PureCalls prog F.penumbraref23_below [.agg [kl ns], .one (.int .i64 a)] [.one (il (iz (sub ns f a)))]
  | f, a, hw => by
    refine symFunc_sound hmix tree_penumbraref23_below (by kernel_rfl) rfl ?_
    unfold ir_penumbraref23_below
    try simp only [HH, gW, gD, V3.l, M4.l, Fr.l, Sp.l, RV.l, RM.l, RF.l, RS.l]
    refine primS (.bool (decide (a = -1))) d_eql ?_
    refine itD rfl (fun c => ?_) (fun c => ?_)
    · exact ret_step (by rw [sub_neg (by omega)]; rfl)
    · obtain ⟨h0, h1, h2⟩ := hw.resolve_left c
      obtain ⟨f, rfl⟩ : ∃ q, f = q + 1 := ⟨f - 1, by omega⟩
      obtain ⟨n, hn⟩ : ∃ n, ns[a.toNat]? = some n := ⟨_, List.getElem?_eq_getElem (by omega)⟩
      have ho := hS.1 _ n hn
      have hwn : Wi m (f + 1) ((a.toNat : Nat) : Int) := by rw [Int.toNat_of_nonneg h0]; exact .inr ⟨h0, h1, h2⟩
      have l1 := sub_len ⟨hm, hS⟩ f n.lf
      have l2 := sub_len ⟨hm, hS⟩ f n.rt
      refine primS (il [a]) rfl ?_
      refine primS (.bool true) (kl_inb h0 (by omega)) ?_
      refine primS (.int .i64 n.lf) (kn_get h0 hn 2 _ rfl (by omega)) ?_
      try simp only [List.cons_append, List.nil_append]
      try simp only [List.cons_append, List.nil_append]
      refine call_step (f_below hm hb hS f n.lf (Wi.lf ho hwn)) rfl ?_
      simp only [HH, gW, gD, V3.l, M4.l, Fr.l, Sp.l, RV.l, RM.l, RF.l, RS.l]
      refine primS (il ([a] ++ iz (sub ns f n.lf))) (il_app (by rw [iz_len]; simp; omega)) ?_
      refine primS (.bool true) (kl_inb h0 (by omega)) ?_
      refine primS (.int .i64 n.rt) (kn_get h0 hn 3 _ rfl (by omega)) ?_
      try simp only [List.cons_append, List.nil_append]
      try simp only [List.cons_append, List.nil_append]
      refine call_step (f_below hm hb hS f n.rt (Wi.rt ho hwn)) rfl ?_
      simp only [HH, gW, gD, V3.l, M4.l, Fr.l, Sp.l, RV.l, RM.l, RF.l, RS.l]
      refine primS (il (a :: (iz (sub ns f n.lf) ++ iz (sub ns f n.rt)))) (il_app (a := a :: iz (sub ns f n.lf)) (by rw [iz_len, List.length_cons, iz_len]; omega)) ?_
      refine ret_step ?_
      rw [sub_succ h0 hn, show iz (a.toNat :: (sub ns f n.lf ++ sub ns f n.rt)) = a :: (iz (sub ns f n.lf) ++ iz (sub ns f n.rt)) by
        simp only [iz, List.map_cons, List.map_append, Int.toNat_of_nonneg h0]]
      rfl
/-- The children that are there. -/
def ck (a : List KN) (m : Nat) : List Int := cts (kids a) m
theorem kids_len : ∀ a : List KN, (kids a).length = a.length * 2
  | [] => rfl
  | n :: r => by
    have := kids_len r
    unfold kids at this ⊢
    simp only [List.flatMap_cons, List.length_append, List.length_cons, List.length_nil, this]; omega
theorem nodup_of_counts {l : List Int} {m : Nat} (hr : ∀ x ∈ l, 0 ≤ x ∧ x < m) (h : ∀ c : Nat, c < m → l.count (c : Int) = 1) : l.Nodup := by
  rw [List.nodup_iff_count]
  intro x
  by_cases hx : x ∈ l
  · have := hr x hx
    have := h x.toNat (by omega)
    rw [Int.toNat_of_nonneg (by omega)] at this
    omega
  · rw [List.count_eq_zero_of_not_mem hx]; omega
theorem counts_of_nodup {l : List Int} {m : Nat} (hl : l.length = m) (hr : ∀ x ∈ l, 0 ≤ x ∧ x < m) (h : l.Nodup) (c : Nat) (hc : c < m) : l.count (c : Int) = 1 := by
  have hm : (c : Int) ∈ l := by
    have h1 : (l.map Int.toNat).Nodup := by
      rw [List.nodup_iff_pairwise_ne, List.pairwise_map]
      refine List.Pairwise.imp_of_mem (fun {a b} ha hb hne => ?_) h
      have := hr a ha; have := hr b hb
      omega
    have h2 := nd_all m (l.map Int.toNat) h1 (fun x hx => by
      obtain ⟨y, hy, rfl⟩ := List.mem_map.1 hx
      have := hr y hy; omega) (by simpa using hl) c hc
    obtain ⟨y, hy, e⟩ := List.mem_map.1 h2
    have := hr y hy
    rw [show (c : Int) = y by omega]; exact hy
  have h1 := List.count_pos_iff.2 hm
  have h2 := List.nodup_iff_count.1 h (c : Int)
  omega
theorem f_RCheck {L : Nat} {rs : List RV} {ps : List V3} {ns : List KN} (H : NVs L rs ps) (hl : L ≤ LL) : PureCalls prog F.penumbraref23_Check [.agg [kl ns], .one (vl rs)] [.one (.bool (tb (Fit ns ps)))] := by
  refine symFunc_sound hmix tree_penumbraref23_Check (by kernel_rfl) rfl ?_
  unfold ir_penumbraref23_Check
  try simp only [HH, gW, gD, V3.l, M4.l, Fr.l, Sp.l, RV.l, RM.l, RF.l, RS.l]
  have hlen := H.len
  refine primS (.int .i64 (rs.length : Int)) rfl ?_
  refine primS (.bool (decide ((1000 : Int) < (rs.length : Int)))) d_gtr ?_
  refine itD rfl (fun c => ?_) (fun c => ?_)
  · exact ret_step (by rw [tbF (p := Fit ns ps) fun h => by have := h.1; omega]; rfl)
  refine primS (.int .i64 (ns.length : Int)) rfl ?_
  refine primS (.bool (decide ((ns.length : Int) ≠ (rs.length : Int)))) d_neq ?_
  refine itD rfl (fun c2 => ?_) (fun c2 => ?_)
  · exact ret_step (by rw [tbF (p := Fit ns ps) fun h => by have := h.2.1; omega]; rfl)
  obtain ⟨m, hm⟩ : ∃ m, m = rs.length := ⟨_, rfl⟩
  have hnm : ns.length = m := by omega
  have hpm : ps.length = m := by omega
  rw [← hm]
  refine primS (il (cts [] m)) (by rw [cts_nil]; exact il_make m (by omega)) ?_
  refine primS (il (cts [] m)) (by rw [cts_nil]; exact il_make m (by omega)) ?_
  try simp only [List.cons_append, List.nil_append]
  refine loop_st (fun i : Nat => [vl rs, .int .i64 (m : Int), .int .i64 (i : Int), kl ns, il (cts ((ns.take i).map KN.pt) m), il (ck (ns.take i) m)])
    (fun i => i ≤ m ∧ ∀ j n, j < i → ns[j]? = some n → KOwn n j m) (fun i => m - i) 0 ⟨Nat.zero_le _, fun j n hj => absurd hj (Nat.not_lt_zero _)⟩ rfl (fun _ => rfl) fun i hi X hX => ?_
  obtain ⟨hi, hown⟩ := hi
  by_cases hlt : i < m
  · refine primS (.bool true) (d_lss.trans (by rw [decide_eq_true (by omega)])) ?_
    refine itT rfl ?_
    obtain ⟨n, hn⟩ : ∃ n, ns[i]? = some n := ⟨_, List.getElem?_eq_getElem (by omega)⟩
    try simp only [List.cons_append, List.nil_append]
    refine call_step (f_R23_own (m := m) hn) rfl ?_
    simp only [HH, gW, gD, V3.l, M4.l, Fr.l, Sp.l, RV.l, RM.l, RF.l, RS.l]
    refine primS (.bool (!decide (KOwn n i m))) rfl ?_
    refine itN rfl (fun e => ?_) (fun e => ?_)
    · exact ret_step (by rw [tbF (p := Fit ns ps) fun h => e (hpm ▸ h.2.2.1.1 i n hn)]; rfl)
    refine primS (.bool true) (kl_inb (by omega) (by omega)) ?_
    try simp only [List.cons_append, List.nil_append]
    refine get_kn hn (fun _ => rfl) (fun _ => rfl) ?_
    simp only [KN.l, List.cons_append, List.nil_append]
    have hj : X [vl rs, .int .i64 (m : Int), .int .i64 ((i + 1 : Nat) : Int), kl ns, il (cts ((ns.take i).map KN.pt ++ [n.pt]) m), il (cts (kids (ns.take i) ++ [n.lf] ++ [n.rt]) m)] := by
      have := hX (i + 1) ⟨by omega, fun j n' hj hn' => by
        rcases Nat.lt_or_ge j i with h1 | h1
        · exact hown j n' h1 hn'
        · obtain rfl : j = i := by omega
          rw [hn] at hn'; cases hn'; exact e⟩ (by omega)
      unfold ck at this
      rw [tk1 hn, List.map_append, kids_app] at this
      exact this
    have eo : ∀ {l : List Int} {k : Int}, k = -1 → cts (l ++ [k]) m = cts l m := fun h => cts_out (by omega)
    have bnd : ∀ (l : List Int) (k : Int), 0 ≤ k → k < m → l.length ≤ 4000 → Prim.den (.bin .add) [.int .i64 ((cts l m).getD k.toNat 0), .int .i64 1] = some (.int .i64 ((cts l m).getD k.toNat 0 + 1)) := fun l k h0 h1 hl => by
      have h2 : l.count ((k.toNat : Nat) : Int) ≤ l.length := List.count_le_length
      exact d_add64 (by rw [cts_get (by omega)]; omega) (by rw [cts_get (by omega)]; omega)
    have hkl : (kids (ns.take i)).length ≤ 2000 := by rw [kids_len, List.length_take]; omega
    have hpl : ((ns.take i).map KN.pt).length ≤ 2000 := by rw [List.length_map, List.length_take]; omega
    obtain ⟨o1, o2, o3, o4⟩ := e
    unfold ck
    generalize hK : kids (ns.take i) = K at hj hkl ⊢
    generalize hPt : (ns.take i).map KN.pt = Pt at hj hpl ⊢
    refine primS (.bool true) (il_inb (by omega) (by rw [cts_len]; omega)) ?_
    refine primS (.int .i64 ((cts Pt m).getD n.pt.toNat 0)) (il_get (by omega) (by rw [cts_len]; omega)) ?_
    refine primS (.int .i64 ((cts Pt m).getD n.pt.toNat 0 + 1)) (bnd Pt n.pt (by omega) (by omega) (by omega)) ?_
    try simp only [List.cons_append, List.nil_append]
    refine primS (.bool true) (il_inb (by omega) (by rw [cts_len]; omega)) ?_
    refine primS (il (cts (Pt ++ [n.pt]) m)) ((il_set (by omega) (by rw [cts_len]; omega)).trans (by rw [cts_add (by omega) (by omega)])) ?_
    refine primS (.bool (decide (n.lf ≠ -1))) d_neq ?_
    try simp only [List.cons_append, List.nil_append]
    refine itD rfl (fun e1 => ?_) (fun e1 => ?_)
    · refine primS (.bool true) (il_inb (by omega) (by rw [cts_len]; omega)) ?_
      refine primS (.int .i64 ((cts K m).getD n.lf.toNat 0)) (il_get (by omega) (by rw [cts_len]; omega)) ?_
      refine primS (.int .i64 ((cts K m).getD n.lf.toNat 0 + 1)) (bnd K n.lf (by omega) (by omega) (by omega)) ?_
      try simp only [List.cons_append, List.nil_append]
      refine primS (.bool true) (il_inb (by omega) (by rw [cts_len]; omega)) ?_
      refine primS (il (cts (K ++ [n.lf]) m)) ((il_set (by omega) (by rw [cts_len]; omega)).trans (by rw [cts_add (by omega) (by omega)])) ?_
      refine primS (.bool (decide (n.rt ≠ -1))) d_neq ?_
      try simp only [List.cons_append, List.nil_append]
      refine itD rfl (fun e2 => ?_) (fun e2 => ?_)
      · refine primS (.bool true) (il_inb (by omega) (by rw [cts_len]; omega)) ?_
        refine primS (.int .i64 ((cts (K ++ [n.lf]) m).getD n.rt.toNat 0)) (il_get (by omega) (by rw [cts_len]; omega)) ?_
        refine primS (.int .i64 ((cts (K ++ [n.lf]) m).getD n.rt.toNat 0 + 1)) (bnd (K ++ [n.lf]) n.rt (by omega) (by omega) (by simp; omega)) ?_
        try simp only [List.cons_append, List.nil_append]
        refine primS (.bool true) (il_inb (by omega) (by rw [cts_len]; omega)) ?_
        refine primS (il (cts (K ++ [n.lf] ++ [n.rt]) m)) ((il_set (by omega) (by rw [cts_len]; omega)).trans (by rw [cts_add (by omega) (by omega)])) ?_
        refine primS (.int .i64 ((i + 1 : Nat) : Int)) ((d_add64 (by omega) (by omega)).trans (by simp)) ?_
        try simp only [List.cons_append, List.nil_append]
        exact jump_step rfl hj
      · rw [eo (l := K ++ [n.lf]) (k := n.rt) (by omega)] at hj
        refine primS (.int .i64 ((i + 1 : Nat) : Int)) ((d_add64 (by omega) (by omega)).trans (by simp)) ?_
        exact jump_step rfl hj
    · have e1' : n.lf = -1 := by omega
      refine primS (.bool (decide (n.rt ≠ -1))) d_neq ?_
      refine itD rfl (fun e2 => ?_) (fun e2 => ?_)
      · rw [show cts (K ++ [n.lf] ++ [n.rt]) m = cts (K ++ [n.rt]) m by rw [← cts_add (l := K ++ [n.lf]) (by omega) (by omega), eo e1', cts_add (by omega) (by omega)]] at hj
        refine primS (.bool true) (il_inb (by omega) (by rw [cts_len]; omega)) ?_
        refine primS (.int .i64 ((cts K m).getD n.rt.toNat 0)) (il_get (by omega) (by rw [cts_len]; omega)) ?_
        refine primS (.int .i64 ((cts K m).getD n.rt.toNat 0 + 1)) (bnd K n.rt (by omega) (by omega) (by omega)) ?_
        try simp only [List.cons_append, List.nil_append]
        refine primS (.bool true) (il_inb (by omega) (by rw [cts_len]; omega)) ?_
        refine primS (il (cts (K ++ [n.rt]) m)) ((il_set (by omega) (by rw [cts_len]; omega)).trans (by rw [cts_add (by omega) (by omega)])) ?_
        refine primS (.int .i64 ((i + 1 : Nat) : Int)) ((d_add64 (by omega) (by omega)).trans (by simp)) ?_
        try simp only [List.cons_append, List.nil_append]
        exact jump_step rfl hj
      · rw [eo (l := K ++ [n.lf]) (k := n.rt) (by omega), eo (l := K) (k := n.lf) e1'] at hj
        refine primS (.int .i64 ((i + 1 : Nat) : Int)) ((d_add64 (by omega) (by omega)).trans (by simp)) ?_
        exact jump_step rfl hj
  · obtain rfl : i = m := by omega
    refine primS (.bool false) (d_lss.trans (by rw [decide_eq_false (by omega)])) ?_
    refine itF rfl ?_
    have htk : ns.take i = ns := List.take_of_length_le (by omega)
    rw [htk]
    unfold ck
    have hown' : ∀ j n, ns[j]? = some n → KOwn n j i := fun j n hn => hown j n (by have := (List.getElem?_eq_some_iff.1 hn).1; omega) hn
    have hrng : ∀ x ∈ ns.map KN.pt, 0 ≤ x ∧ x < (i : Int) := fun x hx => by
      obtain ⟨n, hn, rfl⟩ := List.mem_map.1 hx
      obtain ⟨j, hj⟩ := List.mem_iff_getElem?.1 hn
      exact (hown' j n hj).1
    have hcnt : Shp ns i → ∀ c : Nat, c < i → (ns.map KN.pt).count (c : Int) = 1 := fun h c hc => counts_of_nodup (by rw [List.length_map]; omega) hrng h.2.1 c hc
    try simp only [List.cons_append, List.nil_append]
    refine loop_st (fun c : Nat => [vl rs, .int .i64 (i : Int), .int .i64 (c : Int), kl ns, il (cts (ns.map KN.pt) i), il (cts (kids ns) i)])
      (fun c => c ≤ i ∧ ∀ d : Nat, d < c → (ns.map KN.pt).count (d : Int) = 1 ∧ (0 < d → (kids ns).count (d : Int) = 1)) (fun c => i - c) 0 ⟨Nat.zero_le _, fun d h => absurd h (Nat.not_lt_zero _)⟩ rfl (fun _ => rfl) fun c hc Y hY => ?_
    by_cases hcl : c < i
    · refine primS (.bool true) (d_lss.trans (by rw [decide_eq_true (by omega)])) ?_
      refine itT rfl ?_
      refine primS (.bool true) (il_inb (by omega) (by rw [cts_len]; omega)) ?_
      refine primS (.int .i64 (((ns.map KN.pt).count (c : Int) : Nat) : Int)) ((il_get (by omega) (by rw [cts_len]; omega)).trans (by rw [Int.toNat_natCast, cts_get hcl])) ?_
      refine primS (.bool (decide _)) d_neq ?_
      try simp only [List.cons_append, List.nil_append]
      refine itD rfl (fun e1 => ?_) (fun e1 => ?_)
      · exact ret_step (by rw [tbF (p := Fit ns ps) fun h => e1 (by rw [hcnt (hpm ▸ h.2.2.1) c hcl]; rfl)]; rfl)
      refine primS (.bool (decide ((0 : Int) < (c : Int)))) d_gtr ?_
      refine itD rfl (fun e2 => ?_) (fun e2 => ?_)
      · refine primS (.bool true) (il_inb (by omega) (by rw [cts_len]; omega)) ?_
        refine primS (.int .i64 (((kids ns).count (c : Int) : Nat) : Int)) ((il_get (by omega) (by rw [cts_len]; omega)).trans (by rw [Int.toNat_natCast, cts_get hcl])) ?_
        refine primS (.bool (decide _)) d_neq ?_
        try simp only [List.cons_append, List.nil_append]
        refine itD rfl (fun e3 => ?_) (fun e3 => ?_)
        · exact ret_step (by rw [tbF (p := Fit ns ps) fun h => e3 (by rw [h.2.2.1.2.2 c (by omega) (by omega)]; rfl)]; rfl)
        refine primS (.int .i64 ((c + 1 : Nat) : Int)) ((d_add64 (by omega) (by omega)).trans (by simp)) ?_
        refine jump_step rfl (hY (c + 1) ⟨hcl, fun d h1 => ?_⟩ (by omega))
        rcases Nat.lt_or_ge d c with h3 | h3
        · exact hc.2 d h3
        · obtain rfl : d = c := by omega
          exact ⟨by omega, fun _ => by omega⟩
      · refine primS (.int .i64 ((c + 1 : Nat) : Int)) ((d_add64 (by omega) (by omega)).trans (by simp)) ?_
        refine jump_step rfl (hY (c + 1) ⟨hcl, fun d h1 => ?_⟩ (by omega))
        rcases Nat.lt_or_ge d c with h3 | h3
        · exact hc.2 d h3
        · obtain rfl : d = c := by omega
          exact ⟨by omega, fun h => absurd h (by omega)⟩
    refine primS (.bool false) (d_lss.trans (by rw [decide_eq_false (by omega)])) ?_
    refine itF rfl ?_
    have hS : Shp ns i := ⟨hown', nodup_of_counts hrng fun c' h => (hc.2 c' (by omega)).1, fun c' h0 h1 => (hc.2 c' (by omega)).2 h0⟩
    clear hcnt hY hX
    try simp only [List.cons_append, List.nil_append]
    refine loop_st (fun a : Nat => [vl rs, .int .i64 (i : Int), .int .i64 (a : Int), kl ns]) (fun a => a ≤ i ∧ ∀ (j : Nat) (n : KN), j < a → ns[j]? = some n → Sides ns ps i n) (fun a => i - a) 0 ⟨Nat.zero_le _, fun j n hj => absurd hj (Nat.not_lt_zero _)⟩ rfl (fun _ => rfl) fun a ha Z hZ => ?_
    by_cases hal : a < i
    · refine primS (.bool true) (d_lss.trans (by rw [decide_eq_true (by omega)])) ?_
      refine itT rfl ?_
      obtain ⟨n, hn⟩ : ∃ n, ns[a]? = some n := ⟨_, List.getElem?_eq_getElem (by omega)⟩
      have ho := hS.1 a n hn
      have hpl : n.pt.toNat < rs.length := by have := ho.1; omega
      have nP := num_ax (nvs_at H hpl) n.ax
      have hw1 : Wi i i n.lf := by unfold Wi; have := ho.2.2.1; omega
      have hw2 : Wi i i n.rt := by unfold Wi; have := ho.2.2.2; omega
      have l1 := sub_len ⟨hnm, hS⟩ i n.lf
      have l2 := sub_len ⟨hnm, hS⟩ i n.rt
      have v1 : ∀ x ∈ sub ns i n.lf, x < ns.length := fun x hx => (sub_ge hS.1 i n.lf x hx).2.2
      have v2 : ∀ x ∈ sub ns i n.rt, x < ns.length := fun x hx => (sub_ge hS.1 i n.rt x hx).2.2
      have hno : ∀ (b : Int), ((∃ k ∈ sub ns i n.lf, ¬side ns ps n.ax (-1) (pax ps n) k) ∨ ∃ k ∈ sub ns i n.rt, ¬side ns ps n.ax 1 (pax ps n) k) → tb (Fit ns ps) = false := fun _ hh => tbF fun h => by
        have h2 := h.2.2.2 a n hn
        rw [hpm] at h2
        rcases hh with ⟨k, hk, g⟩ | ⟨k, hk, g⟩
        · exact g (h2.1 k hk)
        · exact g (h2.2 k hk)
      have hyes : (∀ k ∈ sub ns i n.lf, side ns ps n.ax (-1) (pax ps n) k) → (∀ k ∈ sub ns i n.rt, side ns ps n.ax 1 (pax ps n) k) → Z [vl rs, .int .i64 (i : Int), .int .i64 ((a + 1 : Nat) : Int), kl ns] := fun g1 g2 => hZ (a + 1) ⟨hal, fun j n' hj hn' => by
        rcases Nat.lt_or_ge j a with h1 | h1
        · exact ha.2 j n' h1 hn'
        · obtain rfl : j = a := by omega
          rw [hn] at hn'; cases hn'
          exact ⟨g1, g2⟩⟩ (by omega)
      refine primS (.bool true) (kl_inb (by omega) (by omega)) ?_
      try simp only [List.cons_append, List.nil_append]
      refine get_kn hn (fun _ => rfl) (fun _ => rfl) ?_
      simp only [KN.l, List.cons_append, List.nil_append]
      refine primS (.bool true) (vl_inb ho.1.1 (by have := ho.1; omega)) ?_
      try simp only [List.cons_append, List.nil_append]
      refine get_ptZ ho.1.1 (List.getElem?_eq_getElem hpl) (fun _ => rfl) (fun _ => rfl) ?_
      simp only [HH, gW, gD, V3.l, M4.l, Fr.l, Sp.l, RV.l, RM.l, RF.l, RS.l]
      refine call_step (f_R23_Axis rs[n.pt.toNat] n.ax ho.2.1.1 ho.2.1.2) rfl ?_
      simp only [HH, gW, gD, V3.l, M4.l, Fr.l, Sp.l, RV.l, RM.l, RF.l, RS.l]
      refine call_step (f_below hnm (by omega) hS i n.lf hw1) rfl ?_
      simp only [HH, gW, gD, V3.l, M4.l, Fr.l, Sp.l, RV.l, RM.l, RF.l, RS.l]
      have hx : axQ (ps.getD n.pt.toNat o3) n.ax = pax ps n := rfl
      rw [hx] at nP
      generalize axR rs[n.pt.toNat] n.ax = rx at nP ⊢
      generalize pax ps n = x at nP hno hyes ⊢
      refine loop_st (fun t : Nat => [vl rs, .int .i64 (i : Int), .int .i64 (a : Int), il (iz (sub ns i n.lf)), .int .i64 (t : Int), kl ns, .int .i64 n.pt, .int .i64 n.ax, .int .i64 n.lf, .int .i64 n.rt, .bool rx.neg, nl rx.num, nl rx.den])
        (fun t => t ≤ (sub ns i n.lf).length ∧ ∀ u k, u < t → (sub ns i n.lf)[u]? = some k → side ns ps n.ax (-1) x k) (fun t => (sub ns i n.lf).length - t) 0 ⟨Nat.zero_le _, fun u k h => absurd h (Nat.not_lt_zero _)⟩ rfl (fun _ => rfl) fun t ht U hU => ?_
      refine primS (.int .i64 ((sub ns i n.lf).length : Int)) (by show some (DV.int .i64 (((iz (sub ns i n.lf)).length : Nat) : Int)) = _; rw [iz_len]) ?_
      by_cases htl : t < (sub ns i n.lf).length
      · refine primS (.bool true) (d_lss.trans (by rw [decide_eq_true (by omega)])) ?_
        refine itT rfl ?_
        obtain ⟨k, hk⟩ : ∃ k, (sub ns i n.lf)[t]? = some k := ⟨_, List.getElem?_eq_getElem htl⟩
        have hkl := v1 k (List.mem_of_getElem? hk)
        obtain ⟨nk, hnk⟩ : ∃ n, ns[((k : Int)).toNat]? = some n := ⟨_, List.getElem?_eq_getElem (by rw [Int.toNat_natCast]; exact hkl)⟩
        have hok := hS.1 _ nk hnk
        have hpk : nk.pt.toNat < rs.length := by have := hok.1; omega
        refine primS (.bool true) (il_inb (by omega) (by rw [iz_len]; omega)) ?_
        refine primS (.int .i64 (k : Int)) (izl_get hk) ?_
        refine primS (.bool true) (kl_inb (by omega) (by omega)) ?_
        try simp only [List.cons_append, List.nil_append]
        refine primS (.int .i64 nk.pt) (kn_get (by omega) hnk 0 _ rfl (by omega)) ?_
        refine primS (.bool true) (vl_inb hok.1.1 (by have := hok.1; omega)) ?_
        try simp only [List.cons_append, List.nil_append]
        refine get_ptZ hok.1.1 (List.getElem?_eq_getElem hpk) (fun _ => rfl) (fun _ => rfl) ?_
        simp only [HH, gW, gD, V3.l, M4.l, Fr.l, Sp.l, RV.l, RM.l, RF.l, RS.l]
        refine call_step (f_R23_Axis rs[nk.pt.toNat] n.ax ho.2.1.1 ho.2.1.2) rfl ?_
        simp only [HH, gW, gD, V3.l, M4.l, Fr.l, Sp.l, RV.l, RM.l, RF.l, RS.l]
        refine call_step (n_penumbraref03_Cmp ((num_ax (nvs_at H hpk) n.ax).mono hl) (nP.mono hl)) rfl ?_
        simp only [HH, gW, gD, V3.l, M4.l, Fr.l, Sp.l, RV.l, RM.l, RF.l, RS.l]
        have hsd : side ns ps n.ax (-1) x k ↔ ¬0 < cmpQ (axQ (ps.getD nk.pt.toNat o3) n.ax) x := by
          have e : ns.getD k default = nk := by rw [Int.toNat_natCast] at hnk; simp [List.getD_eq_getElem?_getD, hnk]
          unfold side; rw [e]; omega
        refine primS (.bool (decide (0 < cmpQ (axQ (ps.getD nk.pt.toNat o3) n.ax) x))) d_gtr ?_
        refine itD rfl (fun e1 => ?_) (fun e1 => ?_)
        · exact ret_step (by rw [hno 0 (.inl ⟨k, List.mem_of_getElem? hk, fun h => hsd.1 h e1⟩)]; rfl)
        refine primS (.int .i64 ((t + 1 : Nat) : Int)) ((d_add64 (by omega) (by omega)).trans (by simp)) ?_
        refine jump_step rfl (hU (t + 1) ⟨htl, fun u k' h1 h2 => ?_⟩ (by omega))
        rcases Nat.lt_or_ge u t with h3 | h3
        · exact ht.2 u k' h3 h2
        · obtain rfl : u = t := by omega
          rw [hk] at h2; cases h2; exact hsd.2 e1
      refine primS (.bool false) (d_lss.trans (by rw [decide_eq_false (by omega)])) ?_
      refine itF rfl ?_
      have g1 : ∀ k ∈ sub ns i n.lf, side ns ps n.ax (-1) x k := fun k hk => by
        obtain ⟨u, hu⟩ := List.mem_iff_getElem?.1 hk
        exact ht.2 u k (by have := (List.getElem?_eq_some_iff.1 hu).1; omega) hu
      clear hU ht
      try simp only [List.cons_append, List.nil_append]
      refine call_step (f_below hnm (by omega) hS i n.rt hw2) rfl ?_
      simp only [HH, gW, gD, V3.l, M4.l, Fr.l, Sp.l, RV.l, RM.l, RF.l, RS.l]
      refine loop_st (fun t : Nat => [vl rs, .int .i64 (i : Int), .int .i64 (a : Int), il (iz (sub ns i n.rt)), .int .i64 (t : Int), kl ns, .int .i64 n.pt, .int .i64 n.ax, .int .i64 n.lf, .int .i64 n.rt, .bool rx.neg, nl rx.num, nl rx.den])
        (fun t => t ≤ (sub ns i n.rt).length ∧ ∀ u k, u < t → (sub ns i n.rt)[u]? = some k → side ns ps n.ax 1 x k) (fun t => (sub ns i n.rt).length - t) 0 ⟨Nat.zero_le _, fun u k h => absurd h (Nat.not_lt_zero _)⟩ rfl (fun _ => rfl) fun t ht U hU => ?_
      refine primS (.int .i64 ((sub ns i n.rt).length : Int)) (by show some (DV.int .i64 (((iz (sub ns i n.rt)).length : Nat) : Int)) = _; rw [iz_len]) ?_
      by_cases htl : t < (sub ns i n.rt).length
      · refine primS (.bool true) (d_lss.trans (by rw [decide_eq_true (by omega)])) ?_
        refine itT rfl ?_
        obtain ⟨k, hk⟩ : ∃ k, (sub ns i n.rt)[t]? = some k := ⟨_, List.getElem?_eq_getElem htl⟩
        have hkl := v2 k (List.mem_of_getElem? hk)
        obtain ⟨nk, hnk⟩ : ∃ n, ns[((k : Int)).toNat]? = some n := ⟨_, List.getElem?_eq_getElem (by rw [Int.toNat_natCast]; exact hkl)⟩
        have hok := hS.1 _ nk hnk
        have hpk : nk.pt.toNat < rs.length := by have := hok.1; omega
        refine primS (.bool true) (il_inb (by omega) (by rw [iz_len]; omega)) ?_
        refine primS (.int .i64 (k : Int)) (izl_get hk) ?_
        refine primS (.bool true) (kl_inb (by omega) (by omega)) ?_
        try simp only [List.cons_append, List.nil_append]
        refine primS (.int .i64 nk.pt) (kn_get (by omega) hnk 0 _ rfl (by omega)) ?_
        refine primS (.bool true) (vl_inb hok.1.1 (by have := hok.1; omega)) ?_
        try simp only [List.cons_append, List.nil_append]
        refine get_ptZ hok.1.1 (List.getElem?_eq_getElem hpk) (fun _ => rfl) (fun _ => rfl) ?_
        simp only [HH, gW, gD, V3.l, M4.l, Fr.l, Sp.l, RV.l, RM.l, RF.l, RS.l]
        refine call_step (f_R23_Axis rs[nk.pt.toNat] n.ax ho.2.1.1 ho.2.1.2) rfl ?_
        simp only [HH, gW, gD, V3.l, M4.l, Fr.l, Sp.l, RV.l, RM.l, RF.l, RS.l]
        refine call_step (n_penumbraref03_Cmp ((num_ax (nvs_at H hpk) n.ax).mono hl) (nP.mono hl)) rfl ?_
        simp only [HH, gW, gD, V3.l, M4.l, Fr.l, Sp.l, RV.l, RM.l, RF.l, RS.l]
        have hsd : side ns ps n.ax 1 x k ↔ ¬cmpQ (axQ (ps.getD nk.pt.toNat o3) n.ax) x < 0 := by
          have e : ns.getD k default = nk := by rw [Int.toNat_natCast] at hnk; simp [List.getD_eq_getElem?_getD, hnk]
          unfold side; rw [e]; omega
        refine primS (.bool (decide (cmpQ (axQ (ps.getD nk.pt.toNat o3) n.ax) x < 0))) d_lss ?_
        refine itD rfl (fun e1 => ?_) (fun e1 => ?_)
        · exact ret_step (by rw [hno 0 (.inr ⟨k, List.mem_of_getElem? hk, fun h => hsd.1 h e1⟩)]; rfl)
        refine primS (.int .i64 ((t + 1 : Nat) : Int)) ((d_add64 (by omega) (by omega)).trans (by simp)) ?_
        refine jump_step rfl (hU (t + 1) ⟨htl, fun u k' h1 h2 => ?_⟩ (by omega))
        rcases Nat.lt_or_ge u t with h3 | h3
        · exact ht.2 u k' h3 h2
        · obtain rfl : u = t := by omega
          rw [hk] at h2; cases h2; exact hsd.2 e1
      refine primS (.bool false) (d_lss.trans (by rw [decide_eq_false (by omega)])) ?_
      refine itF rfl ?_
      have g2 : ∀ k ∈ sub ns i n.rt, side ns ps n.ax 1 x k := fun k hk => by
        obtain ⟨u, hu⟩ := List.mem_iff_getElem?.1 hk
        exact ht.2 u k (by have := (List.getElem?_eq_some_iff.1 hu).1; omega) hu
      refine primS (.int .i64 ((a + 1 : Nat) : Int)) ((d_add64 (by omega) (by omega)).trans (by simp)) ?_
      exact jump_step rfl (hyes g1 g2)
    · refine primS (.bool false) (d_lss.trans (by rw [decide_eq_false (by omega)])) ?_
      refine itF rfl ?_
      refine ret_step ?_
      rw [tbT (p := Fit ns ps) ⟨by omega, by omega, hpm ▸ hS, fun j n hn => hpm ▸ ha.2 j n (by have := (List.getElem?_eq_some_iff.1 hn).1; omega) hn⟩]
      rfl
end Go.Px.Na
