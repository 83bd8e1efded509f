/- The walk of the law RefsFreed. -/
import Derived.Test.YtaaibgbblehngaaRefI
import Derived.BigQuiet
import Derived.Deep.QuietTactic
namespace Go.Proofs.Ytaaibgbblehngaa
open Go.RowKit

theorem wo_same (M : List Snp) (id : Int) (h : M.any (fun x => x.id == id) = false) : wo M id = M := by
  unfold wo
  rw [List.filter_eq_self]
  intro x hx
  rw [List.any_eq_false] at h
  have := h x hx
  simpa using this
theorem any_take (M : List Snp) (p : Snp → Bool) (k : Nat) {x : Snp} (h : M[k]? = some x) : (M.take (k + 1)).any p = ((M.take k).any p || p x) := by
  obtain ⟨hk, rfl⟩ := List.getElem?_eq_some_iff.1 h
  rw [List.take_succ_eq_append_getElem hk, List.any_append]
  simp
theorem frd_same (M : List Snp) (id : Int) (h : M.any (fun x => x.id == id) = false) : frd M id = [] := by
  unfold frd
  rw [wo_same M id h, whr_congr (q := fun _ => false) 65 fun c _ _ => ?_]
  · unfold whr; simp
  · rw [Bool.eq_false_iff]
    intro hh
    simp at hh
    omega
theorem frd_dst (M : List Snp) (id : Int) : dst M = dst (wo M id) + (frd M id).length := by
  unfold dst usd frd
  rw [← whr_or]
  · congr 1
    refine whr_congr 65 fun c _ _ => ?_
    have := cnt_wo_le M id c
    rw [Bool.eq_iff_iff]
    simp
    omega
  · rintro c ⟨h1, h2⟩
    simp at h1 h2
    omega
theorem frd_at (M : List Snp) (id : Int) (t : Nat) (ht : t < (frd M id).length) : ∃ c : Nat, (frd M id).getD t 0 = (c : Int) ∧ 1 ≤ c ∧ c ≤ 64 ∧ 0 < cnt M c ∧ cnt (wo M id) c = 0 := by
  have hm : (frd M id)[t] ∈ whr (fun c => decide (0 < cnt M c) && cnt (wo M id) c == 0) 65 := List.getElem_mem ht
  obtain ⟨c, hc, h1, h2, hp⟩ := mem_whr.1 hm
  simp at hp
  exact ⟨c, by rw [List.getD_eq_getElem?_getD, List.getElem?_eq_getElem ht]; exact hc, h1, by omega, hp.1, hp.2⟩
/-- Has a snapshot of that ID this chunk? -/
def hasC (id : Int) (c : Nat) (x : Snp) : Bool := x.id == id && x.chunks.contains (c : Int)
theorem had_all (M : List Snp) (id : Int) (c : Nat) (h1 : 1 ≤ c) (h : 0 < cnt M c) (h0 : cnt (wo M id) c = 0) : M.any (hasC id c) = true := by
  induction M with
  | nil => simp [cnt] at h
  | cons a M ih =>
    have e : cnt (a :: M) c = occ a.chunks c + cnt M c := by simp [cnt]
    rw [List.any_cons]
    by_cases hid : a.id = id
    · have e2 : wo (a :: M) id = wo M id := by unfold wo; rw [List.filter_cons, if_neg (by simp [hid])]
      rw [e2] at h0
      by_cases hc : 0 < occ a.chunks c
      · have := occ_contains a.chunks c h1
        rw [decide_eq_true hc] at this
        rw [Bool.or_eq_true]
        left
        unfold hasC
        rw [← this]
        simp [hid]
      · rw [ih (by omega) h0, Bool.or_true]
    · have e2 : wo (a :: M) id = a :: wo M id := by unfold wo; rw [List.filter_cons, if_pos (by simp [hid])]
      have e3 : cnt (a :: wo M id) c = occ a.chunks c + cnt (wo M id) c := by simp [cnt]
      rw [e2] at h0
      rw [ih (by omega) (by omega), Bool.or_true]

theorem contains_next (l : List Int) (k : Nat) (a : Int) (h : k < l.length) : (l.take (k + 1)).contains a = ((l.take k).contains a || (l.getD k 0 == a)) := by
  rw [List.take_succ_eq_append_getElem h, List.getD_eq_getElem?_getD, List.getElem?_eq_getElem h, Option.getD_some, Bool.eq_iff_iff, Bool.or_eq_true, List.contains_iff_mem, List.contains_iff_mem, List.mem_append, List.mem_singleton, beq_iff_eq]
  exact or_congr Iff.rfl eq_comm

set_option maxRecDepth 100000 in
set_option maxHeartbeats 3200000 in
theorem refsFreed_walk (w : World) (A : Option Addr) (l : List Snp) (n cap : Nat) (hn : l.length = n) (hcap : n ≤ cap) (hm : cap ≤ maxLen) (hA : Sn w w.heap.size A l) (id : Int) (_ : -9223372036854775808 ≤ id ∧ id ≤ 9223372036854775807) :
    Calls Try.prog 9 #[.slice A n cap, .int .i64 id] w fun e w' => e = .returned (.bool true) ∧ Below w.heap.size w w' := by
  unfold maxLen at hm
  have HN := Lib.hid hn
  clear hn
  obtain ⟨hfew, hlen20, _⟩ := fw_few l
  go_enter Try.func9, Try.ntmps9
  go_wp2_with fail
  refine (shown06_any _).mono ?_
  rintro e w1 ⟨rfl, b1⟩
  have a1 := hA.step b1
  clear hA
  go_wp2_with fail
  refine (few_any A l n cap _ HN.out (by omega) a1).mono ?_
  rintro e w2 ⟨O, m, oc, rfl, o2, f2⟩
  have b2 := chain b1 f2
  have s2 := o2.sn
  generalize fw l = M at *
  have HF := Lib.hid hfew
  have HM := Lib.hid o2.1
  have hm20 : m ≤ 20 := by have := HM.out; omega
  have hocap := o2.cap
  unfold maxLen at hocap
  obtain ⟨hoc1, hoc2⟩ := hocap
  clear a1 f2 hfew hlen20 o2 b1
  go_wp2_with fail
  refine (without_any O M m oc id _ HM.out HF s2).mono ?_
  rintro e w3 ⟨R, q, rc, rfl, o3, f3⟩
  have b3 := chain b2 f3
  have s3 := s2.step f3
  have r3 := o3.sn
  have HQ := Lib.hid o3.1
  have hqm : q ≤ m := by have := HQ.out; have := HM.out; have := wo_le M id; omega
  clear s2 o3 f3 b2
  go_wp2_with fail
  refine (freed_any O M m oc id _ HM.out HF s3).mono ?_
  rintro e w4 ⟨FA, fn, fc, rfl, o4, f4⟩
  have b4 := chain b3 f4
  have s4 := s3.step f4
  have r4 := r3.step f4
  have i4 : Is w4 w4.heap.size FA (frd M id) := o4.rd
  have HFN := Lib.hid (IsRow.len o4)
  have hfc := o4.cap
  unfold maxLen at hfc
  obtain ⟨hfc1, hfc2⟩ := hfc
  have hfnb : fn ≤ 65 := by have := HFN.out; have := frd_le M id; omega
  clear s3 r3 o4 f4 b3
  go_wp2_with fail
  refine (counts_any R (wo M id) q rc _ HQ.out (Lib.hid (HF.out.wo id)) r4).mono ?_
  rintro e w5 ⟨CA, cn, cc, rfl, hcl, hcc, hcm, i5, f5⟩
  have b5 := chain b4 f5
  have s5 := s4.step f5
  have r5 := r4.step f5
  have j5 := i4.step f5
  rw [cnts_length] at hcl
  subst hcl
  unfold maxLen at hcm
  clear s4 r4 i4 f5 b4
  go_wp2_with fail
  go_loop [9, 10] (fun h i => ∃ k : Nat, i = .int .i64 k ∧ k ≤ m ∧ h = .bool ((M.take k).any (fun x => x.id == id))) (fun _ i => m - (intOf i).toNat)
  case atStart => exact ⟨0, rfl, by omega, rfl⟩
  case round =>
    obtain ⟨k, rfl, hk, rfl⟩ := hrel
    by_cases hlt : k < m
    · have hx : M[k]? = some (M[k]'(by rw [HM.out]; exact hlt)) := List.getElem?_eq_getElem _
      obtain ⟨b, off, Ac, cc', rfl, hbB, c0, _⟩ := s5.at_ hx
      have HT := Lib.hid (any_take M (fun x => x.id == id) k hx)
      clear hx
      generalize M[k]'(by rw [HM.out]; exact hlt) = x at *
      cases hany : (M.take k).any (fun x => x.id == id)
      · have HA := Lib.hid (show (M.take (k + 1)).any (fun x => x.id == id) = (x.id == id) by rw [HT.out, hany]; rfl)
        clear hany
        go_wp2_with fail
        go_round
        case rel => exact ⟨k + 1, by go_num, by omega, by rw [HA.out]⟩
        case measure => simp [intOf]; omega
      · have HA := Lib.hid (show (M.take (k + 1)).any (fun x => x.id == id) = true by rw [HT.out, hany]; rfl)
        clear hany
        go_wp2_with fail
        go_round
        case rel => exact ⟨k + 1, by go_num, by omega, by rw [HA.out]⟩
        case measure => simp [intOf]; omega
    · obtain rfl : k = m := by omega
      have hall : M.take k = M := List.take_of_length_le (by rw [HM.out]; omega)
      rw [hall]
      clear hall hlt
      have hsame := wo_same M id
      have hfs := frd_same M id
      have hdst := frd_dst M id
      rw [HFN.out] at hdst
      have hd1 := dst_64 M
      have hd2 := dst_64 (wo M id)
      have hdec : ((dst (wo M id) : Nat) : Int) = ((dst M : Nat) : Int) - (fn : Int) := by omega
      have HD := Lib.hid hdec
      clear hdst hdec
      have hth : Hid (M.any (fun x => x.id == id) = false → fn = 0 ∧ q = k) := Lib.hid fun h => by
        have h1 := hfs h
        have h2 := hsame h
        have h3 := HFN.out
        have h4 := HQ.out
        rw [h1] at h3
        rw [h2, HM.out] at h4
        exact ⟨h3.symm, h4.symm⟩
      clear hsame hfs
      generalize M.any (fun x => x.id == id) = th at *
      go_wp2_with fail
      refine (distinct_any R (wo M id) q rc _ HQ.out (Lib.hid (HF.out.wo id)) r5).mono ?_
      rintro e w6 ⟨rfl, f6⟩
      have b6 := chain b5 f6
      have s6 := s5.step f6
      have j6 := j5.step f6
      have i6 := i5.step f6
      clear s5 r5 j5 i5 f6 b5
      rw [HD.out]
      go_wp2_with fail
      refine (distinct_any O M k oc _ HM.out HF s6).mono ?_
      rintro e w7 ⟨rfl, f7⟩
      have b7 := chain b6 f7
      have s7 := s6.step f7
      have j7 := j6.step f7
      have i7 := i6.step f7
      clear s6 j6 i6 f7 b6
      cases th
      · obtain ⟨e1, e2⟩ := hth.out rfl
        subst e1 e2
        go_wp2_with fail
        go_loop [4, 11] (fun _ i => i = .int .i64 0) (fun _ _ => 0)
        case atStart => exact rfl
        case round =>
          subst hrel
          go_wp2_with fail
          go_ret
          exact ⟨rfl, b7⟩
      · clear hth
        go_wp2_with fail
        go_loopw [4, 11] (fun _ i wr => ∃ t : Nat, i = .int .i64 t ∧ t ≤ fn ∧ Below w7.heap.size w7 wr) (fun _ i _ => fn - (intOf i).toNat)
        case atStart => exact ⟨0, rfl, by omega, Below.refl _ _⟩
        case round =>
          obtain ⟨t, rfl, ht, hb⟩ := hrel
          by_cases hltf : t < fn
          · obtain ⟨c, hc, h1, h2, hp, hp0⟩ := frd_at M id t (by rw [HFN.out]; exact hltf)
            have hall := Lib.hid (had_all M id c h1 hp hp0)
            go_wp2_with fail
            go_loopw [12, 13] (fun h i wr => ∃ u : Nat, i = .int .i64 u ∧ u ≤ k ∧ h = .bool ((M.take u).any (hasC id c)) ∧ Below w7.heap.size w7 wr) (fun _ i _ => k - (intOf i).toNat)
            case atStart => exact ⟨0, rfl, by omega, rfl, hb⟩
            case round =>
              clear hb
              obtain ⟨u, rfl, hu, rfl, hb⟩ := hrel
              by_cases hltu : u < k
              · have hx : M[u]? = some (M[u]'(by rw [HM.out]; exact hltu)) := List.getElem?_eq_getElem _
                have hT := Lib.hid (any_take M (hasC id c) u hx)
                have hx2 := Lib.hid hx
                clear hx
                generalize M[u]'(by rw [HM.out]; exact hltu) = x at *
                generalize (M.take u).any (hasC id c) = h0 at *
                obtain ⟨b, off, Ac, cc', hO, hbB, d0, _, d2, _, _, hcc', hcm', hi⟩ := s7.at_ hx2.out
                subst hO
                unfold maxLen at hcm'
                have c2 := (hb.cell (p := ⟨b, off + u * 5 + 2, none⟩) hbB).trans d2
                obtain ⟨cl, hcl⟩ : ∃ cl, x.chunks = cl := ⟨_, rfl⟩
                have HCL := Lib.hid hcl
                rw [hcl] at c2 d2 hcc' hi
                clear hcl
                obtain ⟨cn, hcn⟩ : ∃ cn, cl.length = cn := ⟨_, rfl⟩
                have HCN := Lib.hid hcn
                rw [hcn] at c2 d2 hcc'
                clear hcn
                go_wp2_with fail
                go_loopw [12, 14] (fun h j wr => ∃ v : Nat, j = .int .i64 v ∧ v ≤ cn ∧ h = .bool (h0 || ((x.id == id) && (cl.take v).contains (c : Int))) ∧ Below w7.heap.size w7 wr) (fun _ j _ => cn - (intOf j).toNat)
                case atStart => exact ⟨0, rfl, by omega, by simp, hb⟩
                case round =>
                  clear hb c2
                  obtain ⟨v, rfl, hv, rfl, hb⟩ := hrel
                  have c0 := (hb.cell (p := ⟨b, off + u * 5, none⟩) hbB).trans d0
                  have c2 := (hb.cell (p := ⟨b, off + u * 5 + 2, none⟩) hbB).trans d2
                  by_cases hltv : v < cn
                  · by_cases hid : x.id = id
                    · obtain ⟨bi, oi, hAc, _, hci⟩ := (show Is wr w7.heap.size Ac cl from hi.below hb).at_ (k := v) (by rw [HCN.out]; exact hltv)
                      subst hAc
                      obtain ⟨gf, fo, hFA, _, hcf⟩ := (show Is wr w7.heap.size FA (frd M id) from j7.below hb).at_ (k := t) (by rw [HFN.out]; exact hltf)
                      subst hFA
                      rw [hc] at hcf
                      have hcn := contains_next cl v (c : Int) (by rw [HCN.out]; exact hltv)
                      generalize cl.getD v 0 = y at *
                      have hide : (x.id == id) = true := by rw [hid]; simp
                      rw [hide, Bool.true_and]
                      have HV := Lib.hid (show (h0 || (cl.take (v + 1)).contains (c : Int)) = ((h0 || (cl.take v).contains (c : Int)) || (y == (c : Int))) by rw [hcn, Bool.or_assoc])
                      clear hcn hid
                      generalize (h0 || (cl.take v).contains (c : Int)) = hB at *
                      have hidb : (x.id == id) = true := hide
                      cases hB
                      · go_wp2_with fail
                        go_quiet (fail)
                        go_wp2_with fail
                        go_roundw
                        case rel => exact ⟨v + 1, by go_num, by omega, congrArg Value.bool (by simpa using HV.out.symm), below_drewN hb nq⟩
                        case measure => simp [intOf]; omega
                      · go_wp2_with fail
                        go_quiet (fail)
                        go_wp2_with fail
                        go_roundw
                        case rel => exact ⟨v + 1, by go_num, by omega, congrArg Value.bool (by simpa using HV.out.symm), below_drewN hb nq⟩
                        case measure => simp [intOf]; omega
                    · have hide : (x.id == id) = false := by simp [hid]
                      have HT2 := Lib.hid (show (M.take (u + 1)).any (hasC id c) = h0 by rw [hT.out]; unfold hasC; rw [hide]; simp)
                      rw [hide, Bool.false_and, Bool.or_false]
                      clear hid
                      go_wp2_with fail
                      go_roundw
                      case rel => exact ⟨u + 1, by go_num, by omega, by rw [HT2.out], hb⟩
                      case measure => simp [intOf]; omega
                  · obtain rfl : v = cn := by omega
                    have hall2 : cl.take v = cl := List.take_of_length_le (by rw [HCN.out]; omega)
                    rw [hall2]
                    have HT2 := Lib.hid (show (M.take (u + 1)).any (hasC id c) = (h0 || ((x.id == id) && cl.contains (c : Int))) by rw [hT.out]; unfold hasC; rw [HCL.out])
                    clear hall2 hltv
                    go_wp2_with fail
                    go_roundw
                    case rel => exact ⟨u + 1, by go_num, by omega, by rw [HT2.out], hb⟩
                    case measure => simp [intOf]; omega
              · obtain rfl : u = k := by omega
                have htk : M.take u = M := List.take_of_length_le (by rw [HM.out]; omega)
                rw [htk, hall.out]
                clear htk hltu
                obtain ⟨gf, fo, hFA, _, hcf⟩ := (show Is wr w7.heap.size FA (frd M id) from j7.below hb).at_ (k := t) (by rw [HFN.out]; exact hltf)
                subst hFA
                rw [hc] at hcf
                obtain ⟨gc, co, hCA, _, hcc0⟩ := (show Is wr w7.heap.size CA (cnts (wo M id)) from i7.below hb).at_ (k := c) (by rw [cnts_length]; omega)
                subst hCA
                rw [cnts_at _ c (by omega), hp0] at hcc0
                have t1 : decide ((c : Int) < 1) = false := by simp; omega
                have t2 : decide (64 < (c : Int)) = false := by simp; omega
                have hcn0 : (0 : Int) ≤ (c : Int) := by omega
                have hc65 : (c : Int) < 65 := by omega
                by_cases ht0 : t = 0
                · have t3 : decide (0 < t) = false := by simp; omega
                  have t4 : decide ((0 : Int) < (t : Int)) = false := by simp; omega
                  clear ht0
                  go_wp2_with fail
                  go_quiet (fail)
                  go_wp2_with fail
                  go_roundw
                  case rel => exact ⟨t + 1, by go_num, by omega, below_drewN hb nq⟩
                  case measure => simp [intOf]; omega
                · have t3 : decide (0 < t) = true := by simp; omega
                  have t4 : decide ((0 : Int) < (t : Int)) = true := by simp; omega
                  obtain ⟨gf2, fo2, hFA2, _, hcf2⟩ := (show Is wr w7.heap.size (some ⟨gf, fo, none⟩) (frd M id) from j7.below hb).at_ (k := t - 1) (by rw [HFN.out]; omega)
                  injection hFA2 with hFA2
                  injection hFA2 with q1 q2
                  subst q1 q2
                  have hris := whr_rising (fun c => decide (0 < cnt M c) && cnt (wo M id) c == 0) 65 (t - 1) t (by omega) (by have := HFN.out; unfold frd at this; omega)
                  have hris2 : (frd M id).getD (t - 1) 0 < (c : Int) := by rw [← hc]; exact hris
                  clear hris
                  generalize (frd M id).getD (t - 1) 0 = y at *
                  have t5 : decide ((c : Int) ≤ y) = false := by simp; omega
                  have t6 : (((t : Int) - 1).toNat) = t - 1 := by omega
                  have t7 : 1 ≤ (t : Int) := by omega
                  have t8 : (t : Int) - 1 < (fn : Int) := by omega
                  have t9 : IntKind.i64.wrap ((t : Int) - 1) = (t : Int) - 1 := IntWalk.i64_in _ (by omega)
                  clear ht0 hris2
                  go_wp2_with fail
                  go_quiet (fail)
                  clear t9
                  go_wp2_with fail
                  go_roundw
                  case rel => exact ⟨t + 1, by go_num, by omega, below_drewN hb nq⟩
                  case measure => simp [intOf]; omega
          · obtain rfl : t = fn := by omega
            have b8 := chain b7 hb
            clear hltf
            go_wp2_with fail
            go_ret
            exact ⟨rfl, b8⟩
end Go.Proofs.Ytaaibgbblehngaa
