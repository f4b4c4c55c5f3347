/- What functions of the program come to: parts of the walk (Rfc). -/
import Derived.Test.YtkjbjgkjplmkhaaDoorRfb
import Derived.Test.YtkjbjgkjplmkhaaDoorFg
set_option linter.unusedSimpArgs false
set_option linter.unusedVariables false
/- The document's numbers, as elements of the field. -/
namespace Go.Proofs.YtkjbjgkjplmkhaaDoor.W
open Go.Proofs.YtkjbjgkjplmkhaaDoor.Vm
/-- The sixteen digits of an element of the field; each of them sealed. -/
theorem fw_ex (x : Fp) (i : Nat) : ∃ y : Int, y = (d16 (x.val : Int)).getD i 0 := ⟨_, rfl⟩
noncomputable def fw (x : Fp) (i : Nat) : Int := Classical.choose (fw_ex x i)
theorem fw_eq (x : Fp) (i : Nat) : fw x i = (d16 (x.val : Int)).getD i 0 := Classical.choose_spec (fw_ex x i)
noncomputable def fd (x : Fp) : List Int := [fw x 0, fw x 1, fw x 2, fw x 3, fw x 4, fw x 5, fw x 6, fw x 7, fw x 8, fw x 9, fw x 10, fw x 11, fw x 12, fw x 13, fw x 14, fw x 15]
theorem fd_eq (x : Fp) : fd x = d16 (x.val : Int) := by
  unfold fd
  simp only [fw_eq]
  rfl
theorem vl_ex (x : Fp) : ∃ y : Int, y = (x.val : Int) := ⟨_, rfl⟩
/-- An element's number; sealed. -/
noncomputable def vl (x : Fp) : Int := Classical.choose (vl_ex x)
theorem vl_eq (x : Fp) : vl x = (x.val : Int) := Classical.choose_spec (vl_ex x)
theorem d16_len (n : Int) : (d16 n).length = 16 := rfl
theorem digK_dg : ∀ (k : Nat) (n : Int), dg 65536 (digK k n)
  | 0, n => fun j => by simp [digK]
  | k + 1, n => fun j => by
    cases j with
    | zero => show 0 ≤ n % 65536 ∧ n % 65536 < 65536; omega
    | succ j => exact digK_dg k (n / 65536) j
theorem d16_dg (n : Int) : dg 65536 (d16 n) := by rw [d16_eq]; exact digK_dg 16 n
theorem digK_val : ∀ (k : Nat) (n : Int), numD (digK k n) = n % 65536 ^ k
  | 0, n => by simp [digK, numD, Int.emod_one]
  | k + 1, n => by
    have hd : (0 : Int) < 65536 ^ k := Int.pow_pos (by decide)
    rw [digK, numD, digK_val k, Int.pow_succ]
    generalize (65536 : Int) ^ k = d at *
    have e1 := Int.emod_add_mul_ediv (n / 65536) d
    have b1 := Int.emod_nonneg (n / 65536) (show d ≠ 0 by omega)
    have b2 := Int.emod_lt_of_pos (n / 65536) hd
    generalize (n / 65536) % d = r at *
    generalize hq : n / 65536 / d = q at *
    have e : n = n % 65536 + 65536 * r + d * 65536 * q := by
      have : d * 65536 * q = 65536 * (d * q) := by grind
      omega
    have b3 : 0 ≤ n % 65536 ∧ n % 65536 < 65536 := by omega
    generalize n % 65536 = m at *
    rw [e, Int.add_mul_emod_self_left, Int.emod_eq_of_lt (by omega) (by omega)]
theorem d16_num {n : Int} (h : 0 ≤ n ∧ n < 115792089237316195423570985008687907853269984665640564039457584007913129639936) : numD (d16 n) = n := by
  rw [d16_eq, digK_val]
  exact Int.emod_eq_of_lt h.1 h.2
theorem fp_b (x : Fp) : 0 ≤ (x.val : Int) ∧ (x.val : Int) < pn := ⟨Int.natCast_nonneg _, Int.ofNat_lt.mpr x.isLt⟩
theorem fd_len (x : Fp) : (fd x).length = 16 := by rw [fd_eq]; rfl
theorem fd_dg (x : Fp) : dg 65536 (fd x) := by rw [fd_eq]; exact d16_dg _
theorem fd_num (x : Fp) : numD (fd x) = (x.val : Int) := by
  rw [fd_eq]
  have h := fp_b x
  refine d16_num ⟨h.1, Int.lt_trans h.2 (by decide)⟩
theorem fd_of {n : Int} {x : Fp} (h : n % pn = (x.val : Int)) : d16 (n % pn) = fd x := by rw [h, fd_eq]
theorem toF_fd (n : Int) : d16 (n % pn) = fd (toF n) := fd_of (toF_val n).symm
theorem fd_sub (x : Fp) (j : Nat) : (fd x).getD j 0 ≤ 2 * pr.getD j 0 := by
  have hd := fd_dg x j
  by_cases h : j < 15
  · have : ∀ j, j < 15 → (65535 : Int) ≤ 2 * pr.getD j 0 := by decide
    have := this j h
    omega
  · by_cases h2 : j = 15
    · subst h2
      rw [fd_eq]
      have := fp_b x
      show (x.val : Int) / 1766847064778384329583297500742918515827483896875618958121606201292619776 % 65536 ≤ 2 * 32767
      unfold pn at this
      omega
    · rw [List.getD_eq_getElem?_getD, List.getElem?_eq_none (by rw [fd_len]; omega), List.getD_eq_getElem?_getD, List.getElem?_eq_none (by rw [pr_len]; omega)]
      decide
end Go.Proofs.YtkjbjgkjplmkhaaDoor.W
namespace Go.Proofs.YtkjbjgkjplmkhaaDoor.Vm
open Go Go.Proofs Go.Proofs.YtkjbjgkjplmkhaaDoor
theorem val_toF (x : Fp) : toF (x.val : Int) = x := by
  apply toF_ext
  rw [toF_val]
  exact Int.emod_eq_of_lt (W.fp_b x).1 (W.fp_b x).2
theorem radd (x y : Fp) : Contract0 Tryd.prog 18 [(.aggi .u64 (W.fd x)), (.aggi .u64 (W.fd y))] [(0, (.one ⟨false, false, (.ints .u64 (W.pr))⟩))] 2 (.aggi .u64 (W.fd (x + y))) [] [] := by
  have lx := W.fd_len x
  have ly := W.fd_len y
  have r := addr (W.fd x) (W.fd y) lx ly (W.fd_dg x) (W.fd_dg y) (by rw [W.sq_len, lx]) (W.add_dg lx (W.fd_dg x) (W.fd_dg y))
  rw [W.add_num lx ly, W.fd_num, W.fd_num, W.toF_fd, toF_add, val_toF, val_toF] at r
  exact r
theorem rsub (x y : Fp) : Contract0 Tryd.prog 20 [(.aggi .u64 (W.fd x)), (.aggi .u64 (W.fd y))] [(0, (.one ⟨false, false, (.ints .u64 (W.pr))⟩))] 2 (.aggi .u64 (W.fd (x - y))) [] [] := by
  have lx := W.fd_len x
  have ly := W.fd_len y
  have r := subr (W.fd x) (W.fd y) lx ly (W.fd_dg x) (W.fd_dg y) (W.fd_sub y) (by rw [W.sl_eq, W.sq_len]; rfl) (by rw [W.sl_eq]; exact W.sub_dg (W.fd_dg x) (W.fd_dg y) (W.fd_sub y))
  rw [W.sl_eq, W.sub_num lx ly, W.fd_num, W.fd_num, show (x.val : Int) - (y.val : Int) + 2 * W.pn = (x.val : Int) - (y.val : Int) + W.pn * 2 by omega, Int.add_mul_emod_self_left, W.toF_fd, toF_sub, val_toF, val_toF] at r
  exact r
theorem rmul_l (l m : List Int) (hl : l.length = 16) (hm : m.length = 16) (hd : W.dg 65536 l) (he : W.dg 65536 m) :
    Contract0 Tryd.prog 14 [(.aggi .u64 l), (.aggi .u64 m)] [(0, (.one ⟨false, false, (.ints .u64 (W.pr))⟩))] 2 (.aggi .u64 (W.fd (toF (W.numD l) * toF (W.numD m)))) [] [] := by
  obtain ⟨c, hc⟩ := W.mul_num hl hm hd he
  have r := mulr l m hl hm hd he (by rw [W.sl_eq]; exact (mo_b hl hm hd he).1) (by rw [W.sl_eq, W.sl_eq]; exact (W.mul_bound hl hm hd he).1) (by rw [W.sl_eq, W.sq_len]; rfl) (by simp only [W.sl_eq]; exact W.mul_dg hl hm hd he)
  simp only [W.sl_eq] at r
  have e : W.numD (W.sq (W.foG (W.ca (W.mo l m 16) 31)) W.z16 16) = W.numD l * W.numD m + W.pn * c := hc
  rw [e, Int.add_mul_emod_self_left, W.toF_fd, toF_mul] at r
  exact r
theorem rmul (x y : Fp) : Contract0 Tryd.prog 14 [(.aggi .u64 (W.fd x)), (.aggi .u64 (W.fd y))] [(0, (.one ⟨false, false, (.ints .u64 (W.pr))⟩))] 2 (.aggi .u64 (W.fd (x * y))) [] [] := by
  have r := rmul_l (W.fd x) (W.fd y) (W.fd_len x) (W.fd_len y) (W.fd_dg x) (W.fd_dg y)
  rw [W.fd_num, W.fd_num, val_toF, val_toF] at r
  exact r
/-- A number's bytes, two of them to a digit. -/
theorem frG_bts (n : Int) : W.sq (W.frG (W.bts n)) W.z16 16 = W.d16 n := by
  refine W.ext16 (by rw [W.sq_len]; rfl) fun j hj => ?_
  rw [W.sq_len] at hj
  have hj' : j < 16 := hj
  rw [W.sq_get (by decide), if_pos hj']
  match j, hj' with
  | 0, _ =>
    show (n) % 256 + (n / 256) % 256 * 256 = (n) % 65536
    omega
  | 1, _ =>
    show (n / 65536) % 256 + (n / 16777216) % 256 * 256 = (n / 65536) % 65536
    omega
  | 2, _ =>
    show (n / 4294967296) % 256 + (n / 1099511627776) % 256 * 256 = (n / 4294967296) % 65536
    omega
  | 3, _ =>
    show (n / 281474976710656) % 256 + (n / 72057594037927936) % 256 * 256 = (n / 281474976710656) % 65536
    omega
  | 4, _ =>
    show (n / 18446744073709551616) % 256 + (n / 4722366482869645213696) % 256 * 256 = (n / 18446744073709551616) % 65536
    omega
  | 5, _ =>
    show (n / 1208925819614629174706176) % 256 + (n / 309485009821345068724781056) % 256 * 256 = (n / 1208925819614629174706176) % 65536
    omega
  | 6, _ =>
    show (n / 79228162514264337593543950336) % 256 + (n / 20282409603651670423947251286016) % 256 * 256 = (n / 79228162514264337593543950336) % 65536
    omega
  | 7, _ =>
    show (n / 5192296858534827628530496329220096) % 256 + (n / 1329227995784915872903807060280344576) % 256 * 256 = (n / 5192296858534827628530496329220096) % 65536
    omega
  | 8, _ =>
    show (n / 340282366920938463463374607431768211456) % 256 + (n / 87112285931760246646623899502532662132736) % 256 * 256 = (n / 340282366920938463463374607431768211456) % 65536
    omega
  | 9, _ =>
    show (n / 22300745198530623141535718272648361505980416) % 256 + (n / 5708990770823839524233143877797980545530986496) % 256 * 256 = (n / 22300745198530623141535718272648361505980416) % 65536
    omega
  | 10, _ =>
    show (n / 1461501637330902918203684832716283019655932542976) % 256 + (n / 374144419156711147060143317175368453031918731001856) % 256 * 256 = (n / 1461501637330902918203684832716283019655932542976) % 65536
    omega
  | 11, _ =>
    show (n / 95780971304118053647396689196894323976171195136475136) % 256 + (n / 24519928653854221733733552434404946937899825954937634816) % 256 * 256 = (n / 95780971304118053647396689196894323976171195136475136) % 65536
    omega
  | 12, _ =>
    show (n / 6277101735386680763835789423207666416102355444464034512896) % 256 + (n / 1606938044258990275541962092341162602522202993782792835301376) % 256 * 256 = (n / 6277101735386680763835789423207666416102355444464034512896) % 65536
    omega
  | 13, _ =>
    show (n / 411376139330301510538742295639337626245683966408394965837152256) % 256 + (n / 105312291668557186697918027683670432318895095400549111254310977536) % 256 * 256 = (n / 411376139330301510538742295639337626245683966408394965837152256) % 65536
    omega
  | 14, _ =>
    show (n / 26959946667150639794667015087019630673637144422540572481103610249216) % 256 + (n / 6901746346790563787434755862277025452451108972170386555162524223799296) % 256 * 256 = (n / 26959946667150639794667015087019630673637144422540572481103610249216) % 65536
    omega
  | 15, _ =>
    show (n / 1766847064778384329583297500742918515827483896875618958121606201292619776) % 256 + (n / 452312848583266388373324160190187140051835877600158453279131187530910662656) % 256 * 256 = (n / 1766847064778384329583297500742918515827483896875618958121606201292619776) % 65536
    omega
  | j + 16, h => exact absurd h (by omega)
theorem bts_dg (n : Int) : W.dg 256 (W.bts n) := by
  intro j
  by_cases h : j < 32
  · have : ∀ x ∈ W.bts n, 0 ≤ x ∧ x < 256 := by
      intro x hx
      simp only [W.bts, List.mem_cons, List.not_mem_nil, or_false] at hx
      omega
    rw [List.getD_eq_getElem?_getD, List.getElem?_eq_getElem (show j < (W.bts n).length from h)]
    exact this _ (List.getElem_mem _)
  · rw [List.getD_eq_getElem?_getD, List.getElem?_eq_none (show 32 ≤ j by omega)]; decide
theorem rfrom (n : Int) : Contract0 Tryd.prog 9 [(.aggi .u8 (W.bts n))] [(0, (.one ⟨false, false, (.ints .u64 (W.pr))⟩))] 2 (.aggi .u64 (W.fd (toF (n % 57896044618658097711785492504343953926634992332820282019728792003956564819968)))) [] [] := by
  have hx : 0 ≤ (W.d16 n).getD 15 0 ∧ (W.d16 n).getD 15 0 < 65536 := W.d16_dg n 15
  have hm : Int.tmod ((W.d16 n).getD 15 0) 32768 = (W.d16 n).getD 15 0 % 32768 := Int.tmod_eq_emod_of_nonneg hx.1
  have hd : W.dg 1099511627776 ((W.d16 n).set 15 ((W.d16 n).getD 15 0 % 32768)) := by
    intro j
    rw [W.getD_set]
    split
    · omega
    · have := W.d16_dg n j; omega
  have hs : W.sl (W.sq (W.frG (W.bts n)) W.z16 16) = W.d16 n := by rw [W.sl_eq, frG_bts]
  have r := fromr (W.bts n) rfl (bts_dg n)
  rw [hs, hm] at r
  have r := r rfl hx hd
  have e : W.numD ((W.d16 n).set 15 ((W.d16 n).getD 15 0 % 32768)) = n % 57896044618658097711785492504343953926634992332820282019728792003956564819968 := by
    rw [W.numD_set _ _ _ (by rw [W.d16_len]; decide), W.d16_eq, W.digK_val, ← W.d16_eq]
    show n % 65536 ^ 16 + (n / 1766847064778384329583297500742918515827483896875618958121606201292619776 % 65536 % 32768 - n / 1766847064778384329583297500742918515827483896875618958121606201292619776 % 65536) * 65536 ^ 15 = _
    rw [show (65536 : Int) ^ 16 = 115792089237316195423570985008687907853269984665640564039457584007913129639936 by decide, show (65536 : Int) ^ 15 = 1766847064778384329583297500742918515827483896875618958121606201292619776 by decide]
    omega
  rw [e, W.toF_fd] at r
  exact r
theorem rbytes (x : Fp) : PureF Tryd.prog 13 [(.aggi .u64 (W.fd x))] (.aggi .u8 (W.bts (W.vl x))) := by
  rw [W.vl_eq]
  have r := byt (W.fd x) (W.fd_len x)
  rw [W.fd_eq] at r ⊢
  generalize (x.val : Int) = n at *
  have e : W.bts n = [((W.d16 n).getD 0 0 % 256), ((W.d16 n).getD 0 0 / 256 % 256), ((W.d16 n).getD 1 0 % 256), ((W.d16 n).getD 1 0 / 256 % 256), ((W.d16 n).getD 2 0 % 256), ((W.d16 n).getD 2 0 / 256 % 256), ((W.d16 n).getD 3 0 % 256), ((W.d16 n).getD 3 0 / 256 % 256), ((W.d16 n).getD 4 0 % 256), ((W.d16 n).getD 4 0 / 256 % 256), ((W.d16 n).getD 5 0 % 256), ((W.d16 n).getD 5 0 / 256 % 256), ((W.d16 n).getD 6 0 % 256), ((W.d16 n).getD 6 0 / 256 % 256), ((W.d16 n).getD 7 0 % 256), ((W.d16 n).getD 7 0 / 256 % 256), ((W.d16 n).getD 8 0 % 256), ((W.d16 n).getD 8 0 / 256 % 256), ((W.d16 n).getD 9 0 % 256), ((W.d16 n).getD 9 0 / 256 % 256), ((W.d16 n).getD 10 0 % 256), ((W.d16 n).getD 10 0 / 256 % 256), ((W.d16 n).getD 11 0 % 256), ((W.d16 n).getD 11 0 / 256 % 256), ((W.d16 n).getD 12 0 % 256), ((W.d16 n).getD 12 0 / 256 % 256), ((W.d16 n).getD 13 0 % 256), ((W.d16 n).getD 13 0 / 256 % 256), ((W.d16 n).getD 14 0 % 256), ((W.d16 n).getD 14 0 / 256 % 256), ((W.d16 n).getD 15 0 % 256), ((W.d16 n).getD 15 0 / 256 % 256)] := by
    unfold W.bts
    simp only [List.cons.injEq, and_true]
    refine ⟨?_, ?_, ?_, ?_, ?_, ?_, ?_, ?_, ?_, ?_, ?_, ?_, ?_, ?_, ?_, ?_, ?_, ?_, ?_, ?_, ?_, ?_, ?_, ?_, ?_, ?_, ?_, ?_, ?_, ?_, ?_, ?_⟩ <;> (show _ = _ ; simp only [W.d16, List.getD_cons_zero, List.getD_cons_succ]; omega)
  rw [e]
  exact r
theorem fd_one : ([1, 0, 0, 0, 0, 0, 0, 0, 0, 0, 0, 0, 0, 0, 0, 0] : List Int) = W.fd 1 := by rw [W.fd_eq]; rfl
theorem fd_zero : ([0, 0, 0, 0, 0, 0, 0, 0, 0, 0, 0, 0, 0, 0, 0, 0] : List Int) = W.fd 0 := by rw [W.fd_eq]; rfl
theorem rmulc (y : Fp) : Contract0 Tryd.prog 14 [(.aggi .u64 [56129, 1, 0, 0, 0, 0, 0, 0, 0, 0, 0, 0, 0, 0, 0, 0]), (.aggi .u64 (W.fd y))] [(0, (.one ⟨false, false, (.ints .u64 (W.pr))⟩))] 2 (.aggi .u64 (W.fd (y * toF 121665))) [] [] := by
  have e : ([56129, 1, 0, 0, 0, 0, 0, 0, 0, 0, 0, 0, 0, 0, 0, 0] : List Int) = W.d16 121665 := rfl
  have r := rmul_l (W.d16 121665) (W.fd y) rfl (W.fd_len y) (W.d16_dg _) (W.fd_dg y)
  rw [W.fd_num, W.d16_num (by decide), val_toF, show toF 121665 * y = y * toF 121665 by grind] at r
  rw [e]
  exact r
end Go.Proofs.YtkjbjgkjplmkhaaDoor.Vm
