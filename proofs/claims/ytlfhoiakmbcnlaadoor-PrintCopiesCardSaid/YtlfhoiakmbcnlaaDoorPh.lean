/- An instruction's line by the document; an end's line; the chapter's example. No conditions but bounds. -/
import Derived.Test.YtlfhoiakmbcnlaaDoorPg
namespace Go.Proofs.YtlfhoiakmbcnlaaDoor
open Go.Proofs Go.Lib Go.Shelf Go.RowKit

set_option maxRecDepth 20000
variable {E : World}

def bname (f : PFunc) (v : Int) : ByteArray := (f.blocks[v.toNat]?.map (·.name)).getD ⟨#[]⟩
theorem hasB_get {f : PFunc} {v : Int} (h : hasB f v = true) : ∃ (h : v.toNat < f.blocks.length), f.blocks[v.toNat]? = some f.blocks[v.toNat] ∧ 0 ≤ v ∧ bname f v = f.blocks[v.toNat].name := by
  have h2 : 0 ≤ v ∧ v < f.blocks.length := by simpa [hasB] using h
  have h3 : v.toNat < f.blocks.length := by omega
  exact ⟨h3, List.getElem?_eq_getElem h3, h2.1, by unfold bname; rw [List.getElem?_eq_getElem h3]; rfl⟩
def spc : ByteArray := ⟨#[32]⟩
def refWord (f : PFunc) (x : PInst) : ByteArray := if (kRow x.op).2.2 = ⟨#[]⟩ then (kRow x.op).1 else (vname f x.dst ++ ⟨#[32, 61, 32]⟩) ++ (kRow x.op).1
def refArgs (f : PFunc) (x : PInst) (k : Nat) : ByteArray := (x.args.take k).foldl (fun s a => (s ++ spc) ++ vname f a) (refWord f x)
def refLine (f : PFunc) (x : PInst) : ByteArray := if wordB x then (refArgs f x x.args.length ++ spc) ++ strL (itoa x.num) else refArgs f x x.args.length
theorem refArgs_succ (f : PFunc) (x : PInst) {k : Nat} (h : k < x.args.length) : refArgs f x (k + 1) = (refArgs f x k ++ spc) ++ vname f x.args[k] := by
  unfold refArgs; rw [List.take_succ_eq_append_getElem h, List.foldl_append]; rfl
theorem app_size (a b : ByteArray) : (a ++ b).size = a.size + b.size := ByteArray.size_append
theorem refWord_size {f : PFunc} (hnm : ∀ v ∈ f.vars, v.name.size ≤ 1000) (x : PInst) : (refWord f x).size ≤ 1009 := by
  have := word_len x.op
  have h2 := vname_len hnm x.dst
  unfold refWord; split
  · omega
  · rw [app_size, app_size]; show _ + 3 + _ ≤ _; omega
theorem refArgs_size {f : PFunc} (hnm : ∀ v ∈ f.vars, v.name.size ≤ 1000) (x : PInst) : ∀ k, k ≤ x.args.length → (refArgs f x k).size ≤ 1009 + 1001 * k
  | 0, _ => by simpa [refArgs] using refWord_size hnm x
  | k + 1, h => by
    rw [refArgs_succ f x (by omega), app_size, app_size]
    have := refArgs_size hnm x k (by omega)
    have h2 := vname_len hnm x.args[k]
    show _ + 1 + _ ≤ _; omega

theorem refInst_spec (f : PFunc) (x : PInst) (hx : InstP f x) (hd : (kRow x.op).2.2 ≠ ⟨#[]⟩ → hasV f x.dst = true) (hl : x.args.length ≤ 1000) (hnm : ∀ v ∈ f.vars, v.name.size ≤ 1000) (hI : -9223372036854775808 ≤ x.num ∧ x.num ≤ 9223372036854775807) :
    AFun Tryd.prog E 11 [.agg (encF f), .agg (encInst x)] (.str (refLine f x)) := by
  obtain ⟨ho1, ho2, _, hall⟩ := hx
  have hrow : kindT[x.op.toNat]? = some (kRow x.op) := by unfold kRow; rw [if_pos ho1, List.getElem?_eq_getElem (show _ < 27 by omega)]; rfl
  have hws := word_len x.op
  refine ACall.intro Tryd.func11 rfl (by decide) rfl ?_
  refine AWP.seq ?_
  refine AWP.region rfl ?_
  refine AOps.boxF (cs := _) rfl rfl rfl ?_
  refine AOps.boxF (cs := _) rfl rfl rfl ?_
  refine AOps.val (Gv.assign (v := .str _) rfl) ?_
  refine AOps.nil ?_
  refine AWP.seq ?_
  refine AWP.cutS (γ := Nat) [2, 3] (fun i => [(5, .po i 0)]) (fun i => [(i, .cells 58 (encK (kRow x.op)))]) (fun i => True) ?_ (fun _ _ h => h) ?_
  · skip
    refine AWP.regionDraw (fun j => Nat.beq j 6) (by kernel_rfl) rfl (Part.perm (.rest _)) ?_
    refine AAny.take (i := 1) rfl (by kernel_rfl) (by kernel_rfl) (by kernel_rfl) (by kernel_rfl) (Gv.fieldF Tryd.underlying42 rfl Tryd.sizeOf40 (by decide) rfl rfl) ?_
    refine AAny.take (i := 2) rfl (by kernel_rfl) (by kernel_rfl) (by kernel_rfl) (by kernel_rfl) (Gv.load1F (c := .int _ _) Tryd.isAgg40 rfl) ?_
    refine AAny.two (i := 0) (j := 5) rfl rfl (by kernel_rfl) ?_ ?_
    · skip
      refine AOps.callP (rows_spec) rfl ?_
      refine AOps.nil ?_
      refine AAny.take (i := 3) rfl (by kernel_rfl) (by kernel_rfl) (by kernel_rfl) (by kernel_rfl) (Gv.idxM (j := (x.op.toNat)) Tryd.underlying59 Tryd.sizeOf58 rfl rfl (Int.toNat_of_nonneg ho1).symm hrow) ?_
      refine AAny.take (i := 4) rfl (by kernel_rfl) (by kernel_rfl) (by kernel_rfl) (by kernel_rfl) (Gv.loadWF Tryd.isAgg58 Tryd.sizeOf58 rfl rfl) ?_
      refine AAny.one (i := 5) rfl (by kernel_rfl) ?_
      refine AOps.alloc (cs := [.str ⟨#[]⟩, .str ⟨#[]⟩, .str ⟨#[]⟩]) Tryd.zeroValue58 rfl rfl ?_
      intro i5
      refine AOps.nil ?_
      refine AAny.writes ?_
      refine AAnyW.one (i := 6) rfl (by kernel_rfl) rfl ?_
      refine AOps.storeW Tryd.sizeOf58 rfl rfl rfl rfl rfl rfl .head rfl ?_
      refine AOps.nil ?_
      refine AAnyW.done (by kernel_rfl) ?_
      exact ⟨i5, ⟨rfl, rfl, trivial⟩, ⟨rfl, trivial⟩, ⟨_, (.refl _), rfl⟩, trivial⟩
    · skip
      refine AOps.alloc (cs := [.str ⟨#[]⟩, .str ⟨#[]⟩, .str ⟨#[]⟩]) Tryd.zeroValue58 rfl rfl ?_
      intro i5
      refine AOps.nil ?_
      refine AAny.one (i := 0) rfl (by kernel_rfl) ?_
      refine AOps.callP (rows_spec) rfl ?_
      refine AOps.nil ?_
      refine AAny.take (i := 3) rfl (by kernel_rfl) (by kernel_rfl) (by kernel_rfl) (by kernel_rfl) (Gv.idxM (j := (x.op.toNat)) Tryd.underlying59 Tryd.sizeOf58 rfl rfl (Int.toNat_of_nonneg ho1).symm hrow) ?_
      refine AAny.take (i := 4) rfl (by kernel_rfl) (by kernel_rfl) (by kernel_rfl) (by kernel_rfl) (Gv.loadWF Tryd.isAgg58 Tryd.sizeOf58 rfl rfl) ?_
      refine AAny.writes ?_
      refine AAnyW.one (i := 6) rfl (by kernel_rfl) rfl ?_
      refine AOps.storeW Tryd.sizeOf58 rfl rfl rfl rfl rfl rfl .head rfl ?_
      refine AOps.nil ?_
      refine AAnyW.done (by kernel_rfl) ?_
      exact ⟨i5, ⟨rfl, rfl, trivial⟩, ⟨rfl, trivial⟩, ⟨_, (.refl _), rfl⟩, trivial⟩
  · skip
    rintro i5 _
    refine AWP.seq ?_
    refine AWP.region rfl ?_
    refine AOps.val (Gv.fieldO Tryd.underlying58 rfl Tryd.sizeOf9 (by decide) rfl rfl) ?_
    refine AOps.val (Gv.load1C (c := .str _) Tryd.isAgg9 rfl ⟨_, .head⟩ rfl) ?_
    refine AOps.val (Gv.assign (v := .str _) rfl) ?_
    refine AOps.nil ?_
    refine AWP.seq ?_
    refine AWP.seq ?_
    refine AWP.region rfl ?_
    refine AOps.val (Gv.fieldO Tryd.underlying58 rfl Tryd.sizeOf9 (by decide) rfl rfl) ?_
    refine AOps.val (Gv.load1C (c := .str _) Tryd.isAgg9 rfl ⟨_, .head⟩ rfl) ?_
    refine AOps.val (Gv.neqT rfl rfl) ?_
    refine AOps.nil ?_
    refine AWP.cutS (γ := Unit) [2, 3, 5] (fun u => [(6, .str (refWord f x))]) (fun u => [(i5, .cells 58 (encK (kRow x.op)))]) (fun u => True) ?_ (fun _ _ h => h) ?_
    · skip
      refine AWP.cond rfl (fun cm => ?_) (fun cm => ?_)
      · skip
        have hm : (kRow x.op).2.2 ≠ ⟨#[]⟩ := by simpa using cm
        obtain ⟨hlt, hg, hnn, hvn⟩ := has_get (hd hm)
        have hv1 := hnm _ (List.getElem_mem hlt)
        refine AWP.regionDraw (fun j => false) (by kernel_rfl) rfl (Part.perm (.r (.rest _))) ?_
        refine AAny.take (i := 0) rfl (by kernel_rfl) (by kernel_rfl) (by kernel_rfl) (by kernel_rfl) (Gv.fieldF Tryd.underlying26 rfl Tryd.sizeOf22 (by decide) rfl rfl) ?_
        refine AAny.take (i := 1) rfl (by kernel_rfl) (by kernel_rfl) (by kernel_rfl) (by kernel_rfl) (Gv.load1F (c := .fro _ _) Tryd.isAgg22 rfl) ?_
        refine AAny.take (i := 2) rfl (by kernel_rfl) (by kernel_rfl) (by kernel_rfl) (by kernel_rfl) (Gv.fieldF Tryd.underlying42 rfl Tryd.sizeOf3 (by decide) rfl rfl) ?_
        refine AAny.take (i := 3) rfl (by kernel_rfl) (by kernel_rfl) (by kernel_rfl) (by kernel_rfl) (Gv.load1F (c := .int _ _) Tryd.isAgg3 rfl) ?_
        refine AAny.take (i := 4) rfl (by kernel_rfl) (by kernel_rfl) (by kernel_rfl) (by kernel_rfl) (Gv.idxM (j := x.dst.toNat) Tryd.underlying22 Tryd.sizeOf47 rfl rfl (Int.toNat_of_nonneg hnn).symm hg) ?_
        refine AAny.take (i := 5) rfl (by kernel_rfl) (by kernel_rfl) (by kernel_rfl) (by kernel_rfl) (Gv.fieldF Tryd.underlying47 rfl Tryd.sizeOf9 (by decide) rfl rfl) ?_
        refine AAny.take (i := 6) rfl (by kernel_rfl) (by kernel_rfl) (by kernel_rfl) (by kernel_rfl) (Gv.load1F (c := .str _) Tryd.isAgg9 rfl) ?_
        refine AAny.take (i := 7) rfl (by kernel_rfl) (by kernel_rfl) (by kernel_rfl) (by kernel_rfl) (Gv.addT rfl rfl (by (try simp only [app_size]); (have e1 : (⟨#[32, 61, 32]⟩ : ByteArray).size = 3 := rfl); omega)) ?_
        refine AAny.take (i := 8) rfl (by kernel_rfl) (by kernel_rfl) (by kernel_rfl) (by kernel_rfl) (Gv.fieldO Tryd.underlying58 rfl Tryd.sizeOf9 (by decide) rfl rfl) ?_
        refine AAny.take (i := 9) rfl (by kernel_rfl) (by kernel_rfl) (by kernel_rfl) (by kernel_rfl) (Gv.load1C (c := .str _) Tryd.isAgg9 rfl ⟨_, .head⟩ rfl) ?_
        refine AAny.take (i := 10) rfl (by kernel_rfl) (by kernel_rfl) (by kernel_rfl) (by kernel_rfl) (Gv.addT rfl rfl (by (try simp only [app_size]); (have e1 : (⟨#[32, 61, 32]⟩ : ByteArray).size = 3 := rfl); omega)) ?_
        refine AAny.take (i := 11) rfl (by kernel_rfl) (by kernel_rfl) (by kernel_rfl) (by kernel_rfl) (Gv.assign (v := .str _) rfl) ?_
        refine AAny.done (by kernel_rfl) ?_
        exact ⟨(), ⟨rfl, rfl, rfl, trivial⟩, ⟨congrArg AV.str (by unfold refWord; rw [if_neg hm, hvn]), trivial⟩, ⟨_, (.refl _), rfl⟩, trivial⟩
      · skip
        have hm : (kRow x.op).2.2 = ⟨#[]⟩ := by simpa using cm
        refine AWP.skip ?_
        exact ⟨(), ⟨rfl, rfl, rfl, trivial⟩, ⟨congrArg AV.str (by unfold refWord; rw [if_pos hm]), trivial⟩, ⟨_, (.refl _), rfl⟩, trivial⟩
    · skip
      rintro _ _
      refine AWP.seq ?_
      refine AWP.seq ?_
      refine AWP.region rfl ?_
      refine AOps.val (Gv.fieldF Tryd.underlying42 rfl Tryd.sizeOf23 (by decide) rfl rfl) ?_
      refine AOps.val (Gv.load1F (c := .fro _ _) Tryd.isAgg23 rfl) ?_
      refine AOps.val (Gv.lenM Tryd.underlying23 rfl) ?_
      refine AOps.val (Gv.move (v := .int _ _) rfl) ?_
      refine AOps.nil ?_
      refine AWP.block ?_
      refine AWP.loop (γ := Nat) [2, 3, 5, 31, 32] (fun k => [(33, .int .i64 k), (6, .str (refArgs f x k))]) (fun k => [(i5, .cells 58 (encK (kRow x.op)))]) (fun k => k ≤ x.args.length) (fun k => x.args.length - k) 0 ⟨rfl, rfl, trivial⟩ ⟨_, (.refl _), rfl⟩ (Nat.zero_le _) ?_
      rintro k hk
      have hs := refArgs_size hnm x k hk
      refine AWP.seq ?_
      refine AWP.region rfl ?_
      refine AOps.val (Gv.lss rfl rfl) ?_
      refine AOps.nil ?_
      refine AWP.seq ?_
      refine AWP.condP rfl (fun ck => ?_) (fun ck => ?_)
      · skip
        have hk2 : k < x.args.length := by omega
        obtain ⟨hlt, hg, hnn, hvn⟩ := has_get ((List.all_eq_true.1 hall) _ (List.getElem_mem hk2))
        have hv1 := hnm _ (List.getElem_mem hlt)
        refine AWP.skip ?_
        refine AWP.seq ?_
        refine AWP.block ?_
        refine AWP.seq ?_
        refine AWP.region rfl ?_
        refine AOps.val (Gv.idxM Tryd.underlying23 Tryd.sizeOf3 rfl rfl rfl (List.getElem?_eq_getElem (by omega))) ?_
        refine AOps.val (Gv.load1F (c := .int _ _) Tryd.isAgg3 rfl) ?_
        refine AOps.val (Gv.assign (v := .int _ _) rfl) ?_
        refine AOps.nil ?_
        refine AWP.region rfl ?_
        refine AOps.val (Gv.move (v := .str _) rfl) ?_
        refine AOps.val (Gv.addT rfl rfl (by (try rw [app_size]); first | (show _ + 1 ≤ _; omega) | (show _ + 1 + _ ≤ _; omega))) ?_
        refine AOps.val (Gv.fieldF Tryd.underlying26 rfl Tryd.sizeOf22 (by decide) rfl rfl) ?_
        refine AOps.val (Gv.load1F (c := .fro _ _) Tryd.isAgg22 rfl) ?_
        refine AOps.val (Gv.move (v := .int _ _) rfl) ?_
        refine AOps.val (Gv.idxM (j := (x.args[k]).toNat) Tryd.underlying22 Tryd.sizeOf47 rfl rfl (Int.toNat_of_nonneg hnn).symm hg) ?_
        refine AOps.val (Gv.fieldF Tryd.underlying47 rfl Tryd.sizeOf9 (by decide) rfl rfl) ?_
        refine AOps.val (Gv.load1F (c := .str _) Tryd.isAgg9 rfl) ?_
        refine AOps.val (Gv.addT rfl rfl (by (try rw [app_size]); first | (show _ + 1 ≤ _; omega) | (show _ + 1 + _ ≤ _; omega))) ?_
        refine AOps.val (Gv.assign (v := .str _) rfl) ?_
        refine AOps.nil ?_
        refine AWP.region rfl ?_
        refine AOps.val (Gv.add rfl rfl (by unfold I64; omega)) ?_
        refine AOps.val (Gv.move (v := .int _ _) rfl) ?_
        refine AOps.nil ?_
        exact ⟨k + 1, ⟨rfl, rfl, rfl, rfl, rfl, trivial⟩, ⟨rfl, congrArg AV.str (by rw [refArgs_succ f x hk2, hvn]; rfl), trivial⟩, ⟨_, (.refl _), rfl⟩, hk2, by omega⟩
      · skip
        obtain rfl : k = x.args.length := by omega
        refine AWP.exit ?_
        refine AWP.seq ?_
        refine AWP.seq ?_
        refine AWP.cutS (γ := Unit) [3, 6] (fun u => [(54, .bool (wordB x))]) (fun u => [(i5, .cells 58 (encK (kRow x.op)))]) (fun u => True) ?_ (fun _ _ h => h) ?_
        · skip
          refine AWP.region rfl ?_
          refine AOps.val (Gv.fieldO Tryd.underlying58 rfl Tryd.sizeOf9 (by decide) rfl rfl) ?_
          refine AOps.val (Gv.load1C (c := .str _) Tryd.isAgg9 rfl ⟨_, .head⟩ rfl) ?_
          refine AOps.val (Gv.eqlT rfl rfl) ?_
          refine AOps.val (Gv.move (v := .bool _) rfl) ?_
          refine AOps.case (s := 50) rfl (fun c1 => ?_) (fun c1 => ?_)
          · skip
            refine AOps.guardFd rfl rfl c1 ?_
            refine AOps.guardFd rfl rfl c1 ?_
            refine AOps.guardFd rfl rfl c1 ?_
            refine AOps.val (Gv.pickT (v := .bool _) rfl c1 rfl) ?_
            refine AOps.nil ?_
            exact ⟨(), ⟨rfl, rfl, trivial⟩, ⟨jb (by simp_all [wordB]), trivial⟩, ⟨_, (.refl _), rfl⟩, trivial⟩
          · skip
            refine AOps.guardT rfl rfl c1 ?_
            refine AOps.val (Gv.fieldO Tryd.underlying58 rfl Tryd.sizeOf9 (by decide) rfl rfl) ?_
            refine AOps.guardT rfl rfl c1 ?_
            refine AOps.val (Gv.load1C (c := .str _) Tryd.isAgg9 rfl ⟨_, .head⟩ rfl) ?_
            refine AOps.guardT rfl rfl c1 ?_
            refine AOps.val (Gv.eqlT rfl rfl) ?_
            refine AOps.val (Gv.pickF (v := .bool _) rfl c1 rfl) ?_
            refine AOps.nil ?_
            exact ⟨(), ⟨rfl, rfl, trivial⟩, ⟨jb (by simp_all [wordB]), trivial⟩, ⟨_, (.refl _), rfl⟩, trivial⟩
        · skip
          rintro _ _
          refine AWP.cond rfl (fun cw => ?_) (fun cw => ?_)
          · skip
            have hil := itoa_length_le x.num hI.1 hI.2
            refine AWP.region rfl ?_
            refine AOps.val (Gv.move (v := .str _) rfl) ?_
            refine AOps.val (Gv.addT rfl rfl (by (try rw [app_size]); first | (show _ + 1 ≤ _; omega) | (rw [strL_size]; show _ + 1 + _ ≤ _; omega))) ?_
            refine AOps.val (Gv.fieldF Tryd.underlying42 rfl Tryd.sizeOf2 (by decide) rfl rfl) ?_
            refine AOps.val (Gv.load1F (c := .int _ _) Tryd.isAgg2 rfl) ?_
            refine AOps.callP (digits_spec _ hI) rfl ?_
            refine AOps.val (Gv.addT rfl rfl (by (try rw [app_size]); first | (show _ + 1 ≤ _; omega) | (rw [strL_size]; show _ + 1 + _ ≤ _; omega))) ?_
            refine AOps.val (Gv.assign (v := .str _) rfl) ?_
            refine AOps.nil ?_
            refine AWP.seq ?_
            refine AWP.region rfl ?_
            refine AOps.val (Gv.move (v := .str _) rfl) ?_
            refine AOps.val (Gv.assign (v := .str _) rfl) ?_
            refine AOps.nil ?_
            refine AWP.ret ?_
            repeat (first | refine aseqQ_ret ?_ | refine ablockQ_ret ?_)
            refine afin.t1 (x := .str _) rfl ?_
            exact congrArg AV.str (by unfold refLine; rw [if_pos cw]; rfl)
          · skip
            refine AWP.skip ?_
            refine AWP.seq ?_
            refine AWP.region rfl ?_
            refine AOps.val (Gv.move (v := .str _) rfl) ?_
            refine AOps.val (Gv.assign (v := .str _) rfl) ?_
            refine AOps.nil ?_
            refine AWP.ret ?_
            repeat (first | refine aseqQ_ret ?_ | refine ablockQ_ret ?_)
            refine afin.t1 (x := .str _) rfl ?_
            exact congrArg AV.str (by unfold refLine; rw [if_neg (by simp [cw])])

def termLine (f : PFunc) (t : PTerm) : ByteArray := if termOK f t then (if t.kind = 0 then (⟨#[106, 117, 109, 112, 32]⟩ : ByteArray) ++ bname f t.to0 else if t.kind = 1 then ((((⟨#[105, 102, 32]⟩ : ByteArray) ++ vname f t.var) ++ spc) ++ bname f t.to0 ++ spc) ++ bname f t.to1 else (⟨#[114, 101, 116, 32]⟩ : ByteArray) ++ vname f t.var) else ⟨#[]⟩
theorem termOK_0 {f : PFunc} {t : PTerm} (h : termOK f t = true) (hk : t.kind = 0) : hasB f t.to0 = true := by unfold termOK at h; rw [if_pos hk] at h; simp at h; exact h.1.1
theorem termOK_1 {f : PFunc} {t : PTerm} (h : termOK f t = true) (hk : t.kind = 1) : hasV f t.var = true ∧ hasB f t.to0 = true ∧ hasB f t.to1 = true := by unfold termOK at h; rw [if_neg (by omega), if_pos hk] at h; simp at h; exact ⟨h.1.1, h.1.2, h.2⟩
theorem termOK_2 {f : PFunc} {t : PTerm} (h : termOK f t = true) (hk : ¬ t.kind = 0) (hk1 : ¬ t.kind = 1) : hasV f t.var = true := by unfold termOK at h; rw [if_neg hk, if_neg hk1] at h; split at h; simp at h; exact h.1; cases h
theorem Term_spec (f : PFunc) (t : PTerm) (hf : small f) : AFun Tryd.prog E 13 [.agg (encF f), .agg (encTerm t)] (.str (termLine f t)) := by
  obtain ⟨hf1, hf2, hf3, hf4, hf5⟩ := hf
  refine ACall.intro Tryd.func13 rfl (by decide) rfl ?_
  refine AWP.seq ?_
  refine AWP.region rfl ?_
  refine AOps.boxF (cs := _) rfl rfl rfl ?_
  refine AOps.boxF (cs := _) rfl rfl rfl ?_
  refine AOps.val (Gv.assign (v := .str _) rfl) ?_
  refine AOps.nil ?_
  refine AWP.seq ?_
  refine AWP.seq ?_
  refine AWP.region rfl ?_
  refine AOps.val (Gv.loadWF Tryd.isAgg26 Tryd.sizeOf26 rfl rfl) ?_
  refine AOps.val (Gv.loadWF Tryd.isAgg37 Tryd.sizeOf37 rfl rfl) ?_
  refine AOps.callP (term_spec _ _) rfl ?_
  refine AOps.val (Gv.not rfl) ?_
  refine AOps.nil ?_
  refine AWP.cond rfl (fun cok => ?_) (fun cok => ?_)
  · skip
    have hok : termOK f t = false := by simpa using cok
    refine AWP.seq ?_
    refine AWP.region rfl ?_
    refine AOps.val (Gv.assign (v := .str _) rfl) ?_
    refine AOps.nil ?_
    refine AWP.ret ?_
    repeat (first | refine aseqQ_ret ?_ | refine ablockQ_ret ?_)
    refine afin.t1 (x := .str _) rfl ?_
    unfold termLine; rw [hok]; rfl
  · skip
    have hok : termOK f t = true := by simpa using cok
    refine AWP.skip ?_
    refine AWP.seq ?_
    refine AWP.seq ?_
    refine AWP.region rfl ?_
    refine AOps.val (Gv.fieldF Tryd.underlying37 rfl Tryd.sizeOf34 (by decide) rfl rfl) ?_
    refine AOps.val (Gv.load1F (c := .int _ _) Tryd.isAgg34 rfl) ?_
    refine AOps.nil ?_
    refine AWP.block ?_
    refine AWP.seq ?_
    refine AWP.region rfl ?_
    refine AOps.val (Gv.eqlI rfl rfl) ?_
    refine AOps.val (Gv.assign (v := .bool _) rfl) ?_
    refine AOps.nil ?_
    refine AWP.condP rfl (fun c0 => ?_) (fun c0 => ?_)
    · skip
      obtain ⟨hlt, hg, hnn, hvn⟩ := hasB_get (termOK_0 hok c0)
      have hv1 := (hf5 _ (List.getElem_mem hlt)).1
      refine AWP.seq ?_
      refine AWP.region rfl ?_
      refine AOps.val (Gv.fieldF Tryd.underlying26 rfl Tryd.sizeOf24 (by decide) rfl rfl) ?_
      refine AOps.val (Gv.load1F (c := .fro _ _) Tryd.isAgg24 rfl) ?_
      refine AOps.val (Gv.fieldF Tryd.underlying37 rfl Tryd.sizeOf35 (by decide) rfl rfl) ?_
      refine AOps.val (Gv.idxAF (j := 0) Tryd.underlying35 Tryd.sizeOf3 rfl rfl rfl (by decide) rfl) ?_
      refine AOps.val (Gv.load1F (c := .int _ _) Tryd.isAgg3 rfl) ?_
      refine AOps.val (Gv.idxM (j := t.to0.toNat) Tryd.underlying24 Tryd.sizeOf39 rfl rfl (Int.toNat_of_nonneg hnn).symm hg) ?_
      refine AOps.val (Gv.fieldF Tryd.underlying39 rfl Tryd.sizeOf9 (by decide) rfl rfl) ?_
      refine AOps.val (Gv.load1F (c := .str _) Tryd.isAgg9 rfl) ?_
      refine AOps.val (Gv.addT rfl rfl (by show 5 + _ ≤ _; omega)) ?_
      refine AOps.val (Gv.assign (v := .str _) rfl) ?_
      refine AOps.nil ?_
      refine AWP.ret ?_
      repeat (first | refine aseqQ_ret ?_ | refine ablockQ_ret ?_)
      refine afin.t1 (x := .str _) rfl ?_
      exact congrArg AV.str (by unfold termLine; rw [if_pos hok, if_pos c0, hvn])
    · skip
      refine AWP.seq ?_
      refine AWP.region rfl ?_
      refine AOps.val (Gv.eqlI rfl rfl) ?_
      refine AOps.val (Gv.assign (v := .bool _) rfl) ?_
      refine AOps.nil ?_
      refine AWP.condP rfl (fun c1 => ?_) (fun c1 => ?_)
      · skip
        obtain ⟨h1, h2, h3⟩ := termOK_1 hok c1
        obtain ⟨hlt, hg, hnn, hvn⟩ := has_get h1
        obtain ⟨hlt2, hg2, hnn2, hvn2⟩ := hasB_get h2
        obtain ⟨hlt3, hg3, hnn3, hvn3⟩ := hasB_get h3
        have hv1 := hf4 _ (List.getElem_mem hlt)
        have hv2 := (hf5 _ (List.getElem_mem hlt2)).1
        have hv3 := (hf5 _ (List.getElem_mem hlt3)).1
        refine AWP.seq ?_
        refine AWP.regionDraw (fun j => false) (by kernel_rfl) rfl (Part.perm (.rest _)) ?_
        refine AAny.take (i := 0) rfl (by kernel_rfl) (by kernel_rfl) (by kernel_rfl) (by kernel_rfl) (Gv.fieldF Tryd.underlying26 rfl Tryd.sizeOf22 (by decide) rfl rfl) ?_
        refine AAny.take (i := 1) rfl (by kernel_rfl) (by kernel_rfl) (by kernel_rfl) (by kernel_rfl) (Gv.load1F (c := .fro _ _) Tryd.isAgg22 rfl) ?_
        refine AAny.take (i := 2) rfl (by kernel_rfl) (by kernel_rfl) (by kernel_rfl) (by kernel_rfl) (Gv.fieldF Tryd.underlying37 rfl Tryd.sizeOf3 (by decide) rfl rfl) ?_
        refine AAny.take (i := 3) rfl (by kernel_rfl) (by kernel_rfl) (by kernel_rfl) (by kernel_rfl) (Gv.load1F (c := .int _ _) Tryd.isAgg3 rfl) ?_
        refine AAny.take (i := 4) rfl (by kernel_rfl) (by kernel_rfl) (by kernel_rfl) (by kernel_rfl) (Gv.idxM (j := t.var.toNat) Tryd.underlying22 Tryd.sizeOf47 rfl rfl (Int.toNat_of_nonneg hnn).symm hg) ?_
        refine AAny.take (i := 5) rfl (by kernel_rfl) (by kernel_rfl) (by kernel_rfl) (by kernel_rfl) (Gv.fieldF Tryd.underlying47 rfl Tryd.sizeOf9 (by decide) rfl rfl) ?_
        refine AAny.take (i := 6) rfl (by kernel_rfl) (by kernel_rfl) (by kernel_rfl) (by kernel_rfl) (Gv.load1F (c := .str _) Tryd.isAgg9 rfl) ?_
        refine AAny.take (i := 7) rfl (by kernel_rfl) (by kernel_rfl) (by kernel_rfl) (by kernel_rfl) (Gv.addT rfl rfl (by (try simp only [app_size]); have e1 : (⟨#[105, 102, 32]⟩ : ByteArray).size = 3 := rfl; have e2 : (⟨#[32]⟩ : ByteArray).size = 1 := rfl; omega)) ?_
        refine AAny.take (i := 8) rfl (by kernel_rfl) (by kernel_rfl) (by kernel_rfl) (by kernel_rfl) (Gv.addT rfl rfl (by (try simp only [app_size]); have e1 : (⟨#[105, 102, 32]⟩ : ByteArray).size = 3 := rfl; have e2 : (⟨#[32]⟩ : ByteArray).size = 1 := rfl; omega)) ?_
        refine AAny.take (i := 9) rfl (by kernel_rfl) (by kernel_rfl) (by kernel_rfl) (by kernel_rfl) (Gv.fieldF Tryd.underlying26 rfl Tryd.sizeOf24 (by decide) rfl rfl) ?_
        refine AAny.take (i := 10) rfl (by kernel_rfl) (by kernel_rfl) (by kernel_rfl) (by kernel_rfl) (Gv.load1F (c := .fro _ _) Tryd.isAgg24 rfl) ?_
        refine AAny.take (i := 11) rfl (by kernel_rfl) (by kernel_rfl) (by kernel_rfl) (by kernel_rfl) (Gv.fieldF Tryd.underlying37 rfl Tryd.sizeOf35 (by decide) rfl rfl) ?_
        refine AAny.take (i := 12) rfl (by kernel_rfl) (by kernel_rfl) (by kernel_rfl) (by kernel_rfl) (Gv.idxAF (j := 0) Tryd.underlying35 Tryd.sizeOf3 rfl rfl rfl (by decide) rfl) ?_
        refine AAny.take (i := 13) rfl (by kernel_rfl) (by kernel_rfl) (by kernel_rfl) (by kernel_rfl) (Gv.load1F (c := .int _ _) Tryd.isAgg3 rfl) ?_
        refine AAny.take (i := 14) rfl (by kernel_rfl) (by kernel_rfl) (by kernel_rfl) (by kernel_rfl) (Gv.idxM (j := t.to0.toNat) Tryd.underlying24 Tryd.sizeOf39 rfl rfl (Int.toNat_of_nonneg hnn2).symm hg2) ?_
        refine AAny.take (i := 15) rfl (by kernel_rfl) (by kernel_rfl) (by kernel_rfl) (by kernel_rfl) (Gv.fieldF Tryd.underlying39 rfl Tryd.sizeOf9 (by decide) rfl rfl) ?_
        refine AAny.take (i := 16) rfl (by kernel_rfl) (by kernel_rfl) (by kernel_rfl) (by kernel_rfl) (Gv.load1F (c := .str _) Tryd.isAgg9 rfl) ?_
        refine AAny.take (i := 17) rfl (by kernel_rfl) (by kernel_rfl) (by kernel_rfl) (by kernel_rfl) (Gv.addT rfl rfl (by (try simp only [app_size]); have e1 : (⟨#[105, 102, 32]⟩ : ByteArray).size = 3 := rfl; have e2 : (⟨#[32]⟩ : ByteArray).size = 1 := rfl; omega)) ?_
        refine AAny.take (i := 18) rfl (by kernel_rfl) (by kernel_rfl) (by kernel_rfl) (by kernel_rfl) (Gv.addT rfl rfl (by (try simp only [app_size]); have e1 : (⟨#[105, 102, 32]⟩ : ByteArray).size = 3 := rfl; have e2 : (⟨#[32]⟩ : ByteArray).size = 1 := rfl; omega)) ?_
        refine AAny.take (i := 19) rfl (by kernel_rfl) (by kernel_rfl) (by kernel_rfl) (by kernel_rfl) (Gv.fieldF Tryd.underlying26 rfl Tryd.sizeOf24 (by decide) rfl rfl) ?_
        refine AAny.take (i := 20) rfl (by kernel_rfl) (by kernel_rfl) (by kernel_rfl) (by kernel_rfl) (Gv.load1F (c := .fro _ _) Tryd.isAgg24 rfl) ?_
        refine AAny.take (i := 21) rfl (by kernel_rfl) (by kernel_rfl) (by kernel_rfl) (by kernel_rfl) (Gv.fieldF Tryd.underlying37 rfl Tryd.sizeOf35 (by decide) rfl rfl) ?_
        refine AAny.take (i := 22) rfl (by kernel_rfl) (by kernel_rfl) (by kernel_rfl) (by kernel_rfl) (Gv.idxAF (j := 1) Tryd.underlying35 Tryd.sizeOf3 rfl rfl rfl (by decide) rfl) ?_
        refine AAny.take (i := 23) rfl (by kernel_rfl) (by kernel_rfl) (by kernel_rfl) (by kernel_rfl) (Gv.load1F (c := .int _ _) Tryd.isAgg3 rfl) ?_
        refine AAny.take (i := 24) rfl (by kernel_rfl) (by kernel_rfl) (by kernel_rfl) (by kernel_rfl) (Gv.idxM (j := t.to1.toNat) Tryd.underlying24 Tryd.sizeOf39 rfl rfl (Int.toNat_of_nonneg hnn3).symm hg3) ?_
        refine AAny.take (i := 25) rfl (by kernel_rfl) (by kernel_rfl) (by kernel_rfl) (by kernel_rfl) (Gv.fieldF Tryd.underlying39 rfl Tryd.sizeOf9 (by decide) rfl rfl) ?_
        refine AAny.take (i := 26) rfl (by kernel_rfl) (by kernel_rfl) (by kernel_rfl) (by kernel_rfl) (Gv.load1F (c := .str _) Tryd.isAgg9 rfl) ?_
        refine AAny.take (i := 27) rfl (by kernel_rfl) (by kernel_rfl) (by kernel_rfl) (by kernel_rfl) (Gv.addT rfl rfl (by (try simp only [app_size]); have e1 : (⟨#[105, 102, 32]⟩ : ByteArray).size = 3 := rfl; have e2 : (⟨#[32]⟩ : ByteArray).size = 1 := rfl; omega)) ?_
        refine AAny.take (i := 28) rfl (by kernel_rfl) (by kernel_rfl) (by kernel_rfl) (by kernel_rfl) (Gv.assign (v := .str _) rfl) ?_
        refine AAny.done (by kernel_rfl) ?_
        refine AWP.ret ?_
        repeat (first | refine aseqQ_ret ?_ | refine ablockQ_ret ?_)
        refine afin.t1 (x := .str _) rfl ?_
        exact congrArg AV.str (by unfold termLine; rw [if_pos hok, if_neg c0, if_pos c1, hvn, hvn2, hvn3]; rfl)
      · skip
        obtain ⟨hlt, hg, hnn, hvn⟩ := has_get (termOK_2 hok c0 c1)
        have hv1 := hf4 _ (List.getElem_mem hlt)
        refine AWP.skip ?_
        refine AWP.seq ?_
        refine AWP.region rfl ?_
        refine AOps.val (Gv.fieldF Tryd.underlying26 rfl Tryd.sizeOf22 (by decide) rfl rfl) ?_
        refine AOps.val (Gv.load1F (c := .fro _ _) Tryd.isAgg22 rfl) ?_
        refine AOps.val (Gv.fieldF Tryd.underlying37 rfl Tryd.sizeOf3 (by decide) rfl rfl) ?_
        refine AOps.val (Gv.load1F (c := .int _ _) Tryd.isAgg3 rfl) ?_
        refine AOps.val (Gv.idxM (j := t.var.toNat) Tryd.underlying22 Tryd.sizeOf47 rfl rfl (Int.toNat_of_nonneg hnn).symm hg) ?_
        refine AOps.val (Gv.fieldF Tryd.underlying47 rfl Tryd.sizeOf9 (by decide) rfl rfl) ?_
        refine AOps.val (Gv.load1F (c := .str _) Tryd.isAgg9 rfl) ?_
        refine AOps.val (Gv.addT rfl rfl (by show 4 + _ ≤ _; omega)) ?_
        refine AOps.val (Gv.assign (v := .str _) rfl) ?_
        refine AOps.nil ?_
        refine AWP.ret ?_
        repeat (first | refine aseqQ_ret ?_ | refine ablockQ_ret ?_)
        refine afin.t1 (x := .str _) rfl ?_
        exact congrArg AV.str (by unfold termLine; rw [if_pos hok, if_neg c0, if_neg c1, hvn])
end Go.Proofs.YtlfhoiakmbcnlaaDoor
