/- A program's lines. No conditions but bounds. -/
import Derived.Test.YtbkgklpihnfnjaaGreatDoorJo
set_option linter.unusedVariables false
set_option linter.unusedSimpArgs false
set_option linter.unusedSectionVars false
namespace Go.Proofs.YtbkgklpihnfnjaaGreatDoor
open Go.Proofs.Tryz
open Go.Proofs Go.Lib Go.Shelf Go.RowKit
theorem ps112_1 : PlacesS prog 112 161 1 1 [.raw .nilIface] := ⟨_, Zz, sizeOf161, zeroValue161, by decide, by decide, by kernel_rfl⟩
set_option maxRecDepth 20000
variable {E : World}
def PItem.isPhi : PItem → Bool
 | .phi _ _ _ => true
 | .inst _ _ _ _ => false
theorem isPhi_spec1 (d : ByteArray) (f a : List ByteArray) : AFun prog E 143 [itemV (.phi d f a)] (.bool true) := by
 refine zk func143 Z (by decide) Z<|zSr<|zVzAb Z<|z6<|zSr<|z8 (y9 (v := .ifc _ _) Z)<|z8 (Gv.assertT Zo Z Z)<|z8 (zMu Z)<|z8 (yk (v := .agg _) Z Z)<|z8 (zXb Z Z)<|zq (cs := [.str ⟨#[]⟩, .raw (.slice none 0 0), .raw (.slice none 0 0)]) Yu Z Z<|fun i3 => zm sizeOf164 Z Z Z Z Z Z .head Z<|zVzAb Z<|z6<|zSr<|zVzMb Z<|zVzAb Z<|z6<|ze<|zi (x := .bool _) Z ?_
 rfl
theorem isPhi_spec2 (op : Int) (d : ByteArray) (a : List ByteArray) (n : Int) : AFun prog E 143 [itemV (.inst op d a n)] (.bool false) := by
 refine zk func143 Z (by decide) Z<|zSr<|zVzAb Z<|z6<|zSr<|z8 (y9 (v := .ifc _ _) Z)<|z8 (Gv.assertF (zx := .agg [.str ⟨#[]⟩, .raw (.slice none 0 0), .raw (.slice none 0 0)]) Zo Z Z (Nat.ne_of_beq_eq_false Z) Yu (fun I => ⟨_, Z, lit_reps I [.string ⟨#[]⟩, (.slice none 0 0), (.slice none 0 0)]⟩))<|z8 (zMu Z)<|z8 (yk (v := .agg _) Z Z)<|z8 (zXb Z Z)<|zq (cs := [.str ⟨#[]⟩, .raw (.slice none 0 0), .raw (.slice none 0 0)]) Yu Z Z<|fun i3 => zm sizeOf164 Z Z Z Z Z Z .head Z<|zVzAb Z<|z6<|zSr<|zVzMb Z<|zVzAb Z<|z6<|ze<|zi (x := .bool _) Z ?_
 rfl
theorem isPhi_spec : ∀ x : PItem, AFun prog E 143 [itemV x] (.bool x.isPhi)
 | .phi d f a => isPhi_spec1 d f a
 | .inst op d a n => isPhi_spec2 op d a n
structure PHead where
 name : ByteArray
 kind : Int
 v : ByteArray
 tos : List ByteArray
 ended : Bool
deriving DecidableEq
def rowB (l : AV) (h : PHead) : List AV := [.str h.name, l, .int .i64 h.kind, .str h.v, .fro 1 (h.tos.map encS), .bool h.ended]
def jumpS : ByteArray := ⟨#[106, 117, 109, 112]⟩
def ifS : ByteArray := ⟨#[105, 102]⟩
def retS : ByteArray := ⟨#[114, 101, 116]⟩
def endB (h : PHead) (w : List ByteArray) : Option PHead :=
 if w.length < 2 ∨ ¬ namesOk (w.drop 1) = true then none
 else if atW w 0 = jumpS ∧ w.length = 2 then some ⟨h.name, 0, h.v, w.drop 1, true⟩
 else if atW w 0 = ifS ∧ w.length = 4 then some ⟨h.name, 1, atW w 1, w.drop 2, true⟩
 else if atW w 0 = retS ∧ w.length = 2 then some ⟨h.name, 2, atW w 1, h.tos, true⟩
 else none
theorem end_spec {jl : Nat} {A : List AV} {l : AV} (h : PHead) (w : List ByteArray) (hl : w.length ≤ 100000) (hs : ∀ x ∈ w, x.size ≤ 100000) (hL : Letters E) :
  ACall prog E 141 [.po jl A.length, .fro 1 (w.map encS)] [(jl, .grow 6 114 (A ++ rowB l h))]
   (fun x O' => x = .bool (endB h w).isSome ∧ O' = [(jl, .grow 6 114 (A ++ rowB l ((endB h w).getD h)))]) := by
 refine zk func141 Z (by decide) Z<|zSr<|zVzAb Z<|z6<|zb<|zSr<|zVzMf Z<|zVGvlenM jh Z<|zVGvlss Z Z<|zVzMb Z ?_
 by_cases h2 : w.length < 2
 ·have hend : endB h w = none := by unfold endB; rw [if_pos (.inl h2)]
  refine z7 Z Z (by simp; omega)<|z7 Z Z (by simp; omega)<|z7 Z Z (by simp; omega)<|z7 Z Z (by simp; omega)<|z8 (zPt Z (by simp; omega) Z)<|z6<|yh Z Z<|zSr<|zVzAb Z<|z6<|ze<|zi (x := .bool _) Z ?_
  exact ⟨by rw [hend]; rfl, by rw [hend]; rfl⟩
 ·refine za Z Z (by simp; omega)<|zVzMf Z<|za Z Z (by simp; omega)<|z8 (Gv.cutLoM (j := 1) jh jx Z Z Z (by omega))<|za Z Z (by simp; omega)<|zd (names_spec (w.drop 1) (by simp; omega) (fun x hx => hs x (List.mem_of_mem_drop hx)) hL) Z<|za Z Z (by simp; omega)<|zVGvnot Z<|z8 (zPf Z (by simp; omega) Z)<|z6<|zz Z (fun cn=>?_) (fun cn=>?_)
  ·have hend : endB h w = none := by unfold endB; rw [if_pos (.inr (by simpa using cn))]
   refine zSr<|zVzAb Z<|z6<|ze<|zi (x := .bool _) Z ?_
   exact ⟨by rw [hend]; rfl, by rw [hend]; rfl⟩
  ·have hn : namesOk (w.drop 1) = true := by simpa using cn
   have he : endB h w = (if atW w 0 = jumpS ∧ w.length = 2 then some ⟨h.name, 0, h.v, w.drop 1, true⟩
     else if atW w 0 = ifS ∧ w.length = 4 then some ⟨h.name, 1, atW w 1, w.drop 2, true⟩
     else if atW w 0 = retS ∧ w.length = 2 then some ⟨h.name, 2, atW w 1, h.tos, true⟩
     else none) := by unfold endB; rw [if_neg (by rintro (hx | hx); exact h2 hx; exact hx hn)]
   refine zf<|zb<|zg<|zb<|yn (γ := Unit) [0, 1] (fun u => [(14, .bool (decide (atW w 0 = jumpS ∧ w.length = 2)))]) (fun u => [(jl, .grow 6 114 (A ++ rowB l h))]) (fun u => True) ?_ (fun _ _ h => h) ?_
   ·refine zRg<|zVzMf Z<|z8 (zIM 0 jh jx Z Z Z (atW_get (by omega)))<|z8 (ya (c := .str _) Z5 Z)<|z8 (q8 Z Z)<|zVzMb Z<|zo (s := 19) Z (fun c1=>?_) (fun c1=>?_)
    ·refine za Z Z c1<|zVzMf Z<|za Z Z c1<|zVGvlenM jh Z<|za Z Z c1<|zVGveqlI Z Z<|zVzPt Z c1 Z<|zVzAb Z<|z6 ?_
     exact ⟨(), zR2, ⟨jb (by simp_all [jumpS] <;> omega), trivial⟩, zLe, trivial⟩
    ·refine z7 Z Z c1<|z7 Z Z c1<|z7 Z Z c1<|zVzPf Z c1 Z<|zVzAb Z<|z6 ?_
     exact ⟨(), zR2, ⟨jb (by simp_all [jumpS] <;> omega), trivial⟩, zLe, trivial⟩
   ·rintro _ _
    refine zr Z (fun c1=>?_) (fun c1=>?_)
    ·have hend : endB h w = some ⟨h.name, 0, h.v, w.drop 1, true⟩ := by rw [he, if_pos c1]
     refine zw (fun j => Nat.beq j 6 || Nat.beq j 9) (by kernel_rfl) Z (zu (.rest _))<|zTk 0 Z (zMp Z)<|yd (i := 1) Z (by kernel_rfl) (by kernel_rfl) (by kernel_rfl) (by kernel_rfl) (zMp Z)<|yd (i := 2) Z (by kernel_rfl) (by kernel_rfl) (by kernel_rfl) (by kernel_rfl) (zMf Z)<|yd (i := 3) Z (by kernel_rfl) (by kernel_rfl) (by kernel_rfl) (by kernel_rfl) (Gv.cutLoM (j := 1) jh jx Z Z Z (by omega))<|yd (i := 4) Z (by kernel_rfl) (by kernel_rfl) (by kernel_rfl) (by kernel_rfl) (yl Z)<|zTk 5 Z (zc Z6 Z Zl (by decide) Z Z)<|yb<|y7 (i := 6) Z (by kernel_rfl) (by kernel_rfl)<|yv (j := 2) (l := [_]) (new := [_, _, _, _, _, _]) Zl Z Z Z Z Z Z Z .head Z Z Z<|z6<|y7 (i := 7) Z (by kernel_rfl) (by kernel_rfl)<|zVGvnilCheckO Z<|z6<|y7 (i := 8) Z (by kernel_rfl) (by kernel_rfl)<|z8 (zc Z6 Z Zm (by decide) Z Z)<|z6<|y7 (i := 9) Z (by kernel_rfl) (by kernel_rfl)<|yv (j := 4) (l := [_]) (new := [_, _, _, _, _, _]) Zm Z Z Z Z Z Z Z .head Z Z Z<|z6<|yf (by kernel_rfl)<|zSr<|zVzMp Z<|zVGvnilCheckO Z<|z8 (zc Z6 Z Zj (by decide) Z Z)<|yv (j := 5) (l := [_]) (new := [_, _, _, _, _, _]) Zj Z Z Z Z Z Z Z .head Z Z Z<|z6<|zSr<|zVzAb Z<|z6<|ze<|zi (x := .bool _) Z ?_
     exact ⟨by rw [hend]; rfl, by rw [hend]; rfl⟩
    ·rw [if_neg c1] at he
     refine zb<|yn (γ := Unit) [0, 1] (fun u => [(32, .bool (decide (atW w 0 = ifS ∧ w.length = 4)))]) (fun u => [(jl, .grow 6 114 (A ++ rowB l h))]) (fun u => True) ?_ (fun _ _ h => h) ?_
     ·refine zRg<|zVzMf Z<|z8 (zIM 0 jh jx Z Z Z (atW_get (by omega)))<|z8 (ya (c := .str _) Z5 Z)<|z8 (q8 Z Z)<|zVzMb Z<|zo (s := 37) Z (fun c2=>?_) (fun c2=>?_)
      ·refine za Z Z c2<|zVzMf Z<|za Z Z c2<|zVGvlenM jh Z<|za Z Z c2<|zVGveqlI Z Z<|zVzPt Z c2 Z<|zVzAb Z<|z6 ?_
       exact ⟨(), zR2, ⟨jb (by simp_all [ifS] <;> omega), trivial⟩, zLe, trivial⟩
      ·refine z7 Z Z c2<|z7 Z Z c2<|z7 Z Z c2<|zVzPf Z c2 Z<|zVzAb Z<|z6 ?_
       exact ⟨(), zR2, ⟨jb (by simp_all [ifS] <;> omega), trivial⟩, zLe, trivial⟩
     ·rintro _ _
      refine zr Z (fun c2=>?_) (fun c2=>?_)
      ·have hend : endB h w = some ⟨h.name, 1, atW w 1, w.drop 2, true⟩ := by rw [he, if_pos c2]
       refine zw (fun j => Nat.beq j 10 || Nat.beq j 13 || Nat.beq j 16) (by kernel_rfl) Z (zu (.rest _))<|zTk 0 Z (zMp Z)<|yd (i := 1) Z (by kernel_rfl) (by kernel_rfl) (by kernel_rfl) (by kernel_rfl) (zMp Z)<|yd (i := 2) Z (by kernel_rfl) (by kernel_rfl) (by kernel_rfl) (by kernel_rfl) (zMp Z)<|yd (i := 3) Z (by kernel_rfl) (by kernel_rfl) (by kernel_rfl) (by kernel_rfl) (zMf Z)<|yd (i := 4) Z (by kernel_rfl) (by kernel_rfl) (by kernel_rfl) (by kernel_rfl) (zIM 1 jh jx Z Z Z (atW_get (by omega)))<|zTk 5 Z (ya (c := .str _) Z5 Z)<|yd (i := 6) Z (by kernel_rfl) (by kernel_rfl) (by kernel_rfl) (by kernel_rfl) (zMf Z)<|yd (i := 7) Z (by kernel_rfl) (by kernel_rfl) (by kernel_rfl) (by kernel_rfl) (Gv.cutLoM (j := 2) jh jx Z Z Z (by omega))<|yd (i := 8) Z (by kernel_rfl) (by kernel_rfl) (by kernel_rfl) (by kernel_rfl) (yl Z)<|zTk 9 Z (zc Z6 Z Zl (by decide) Z Z)<|yb<|y7 (i := 10) Z (by kernel_rfl) (by kernel_rfl)<|yv (j := 2) (l := [_]) (new := [_, _, _, _, _, _]) Zl Z Z Z Z Z Z Z .head Z Z Z<|z6<|y7 (i := 11) Z (by kernel_rfl) (by kernel_rfl)<|zVGvnilCheckO Z<|z6<|y7 (i := 12) Z (by kernel_rfl) (by kernel_rfl)<|z8 (zc Z6 Z jx (by decide) Z Z)<|z6<|y7 (i := 13) Z (by kernel_rfl) (by kernel_rfl)<|yv (j := 3) (l := [_]) (new := [_, _, _, _, _, _]) jx Z Z Z Z Z Z Z .head Z Z Z<|z6<|y7 (i := 14) Z (by kernel_rfl) (by kernel_rfl)<|zVGvnilCheckO Z<|z6<|y7 (i := 15) Z (by kernel_rfl) (by kernel_rfl)<|z8 (zc Z6 Z Zm (by decide) Z Z)<|z6<|y7 (i := 16) Z (by kernel_rfl) (by kernel_rfl)<|yv (j := 4) (l := [_]) (new := [_, _, _, _, _, _]) Zm Z Z Z Z Z Z Z .head Z Z Z<|z6<|yf (by kernel_rfl)<|zSr<|zVzMp Z<|zVGvnilCheckO Z<|z8 (zc Z6 Z Zj (by decide) Z Z)<|yv (j := 5) (l := [_]) (new := [_, _, _, _, _, _]) Zj Z Z Z Z Z Z Z .head Z Z Z<|z6<|zSr ?_
       refine zVzAb Z<|z6<|ze<|zi (x := .bool _) Z ?_
       exact ⟨by rw [hend]; rfl, by rw [hend]; rfl⟩
      ·rw [if_neg c2] at he
       refine zb<|yn (γ := Unit) [0, 1] (fun u => [(56, .bool (decide (atW w 0 = retS ∧ w.length = 2)))]) (fun u => [(jl, .grow 6 114 (A ++ rowB l h))]) (fun u => True) ?_ (fun _ _ h => h) ?_
       ·refine zRg<|zVzMf Z<|z8 (zIM 0 jh jx Z Z Z (atW_get (by omega)))<|z8 (ya (c := .str _) Z5 Z)<|z8 (q8 Z Z)<|zVzMb Z<|zo (s := 61) Z (fun c3=>?_) (fun c3=>?_)
        ·refine za Z Z c3<|zVzMf Z<|za Z Z c3<|zVGvlenM jh Z<|za Z Z c3<|zVGveqlI Z Z<|zVzPt Z c3 Z<|zVzAb Z<|z6 ?_
         exact ⟨(), zR2, ⟨jb (by simp_all [retS] <;> omega), trivial⟩, zLe, trivial⟩
        ·refine z7 Z Z c3<|z7 Z Z c3<|z7 Z Z c3<|zVzPf Z c3 Z<|zVzAb Z<|z6 ?_
         exact ⟨(), zR2, ⟨jb (by simp_all [retS] <;> omega), trivial⟩, zLe, trivial⟩
       ·rintro _ _
        refine zr Z (fun c3=>?_) (fun c3=>?_)
        ·have hend : endB h w = some ⟨h.name, 2, atW w 1, h.tos, true⟩ := by rw [he, if_pos c3]
         refine zRg<|zVzMp Z<|zVzMp Z<|zVzMf Z<|z8 (zIM 1 jh jx Z Z Z (atW_get (by omega)))<|z8 (ya (c := .str _) Z5 Z)<|zVGvnilCheckO Z<|z8 (zc Z6 Z Zl (by decide) Z Z)<|yv (j := 2) (l := [_]) (new := [_, _, _, _, _, _]) Zl Z Z Z Z Z Z Z .head Z Z Z<|zVGvnilCheckO Z<|z8 (zc Z6 Z jx (by decide) Z Z)<|yv (j := 3) (l := [_]) (new := [_, _, _, _, _, _]) jx Z Z Z Z Z Z Z .head Z Z Z<|z6<|zSr<|zVzMp Z<|zVGvnilCheckO Z<|z8 (zc Z6 Z Zj (by decide) Z Z)<|yv (j := 5) (l := [_]) (new := [_, _, _, _, _, _]) Zj Z Z Z Z Z Z Z .head Z Z Z<|z6<|zSr<|zVzAb Z<|z6<|ze<|zi (x := .bool _) Z ?_
         exact ⟨by rw [hend]; rfl, by rw [hend]; rfl⟩
        ·rw [if_neg c3] at he
         refine zSr<|zVzAb Z<|z6<|ze<|zi (x := .bool _) Z ?_
         exact ⟨by rw [he]; rfl, by rw [he]; rfl⟩
def lineB (h : PHead) (items : List PItem) (w : List ByteArray) : Option (PHead × List PItem) :=
 if h.ended = true then none
 else match endB h w with
  | some h' => some (h', items)
  | none => match instrItem w with
   | none => none
   | some x => if x.isPhi = true ∧ (items.getLast?.map PItem.isPhi) = some false then none else some (h, items ++ [x])
theorem encItem_len (x : PItem) : (encItem x).length = 1 := by cases x <;> rfl
theorem last_item (pre : List PItem) (y : PItem) : (((pre ++ [y]).map encItem).flatten).drop (((pre ++ [y]).length - 1) * 1) = itemV y :: [] := by
 rw [qo, List.flatten_append, List.drop_append, List.drop_eq_nil_of_le (by rw [grow_len (k := 1) encItem_len]; simp)]
 rw [grow_len (k := 1) encItem_len]
 simp [encItem_eq]
theorem item_push (items : List PItem) (x : PItem) : (items.map encItem).flatten ++ [[itemV x]].flatten = ((items ++ [x]).map encItem).flatten := by
 rw [← encItem_eq]; exact grow_push rfl
theorem snoc_cases {α : Type} (l : List α) : l = [] ∨ ∃ pre y, l = pre ++ [y] := by
 rcases List.eq_nil_or_concat l with h | ⟨p, y, h⟩
 ·exact .inl h
 ·exact .inr ⟨p, y, by rw [h, List.concat_eq_append]⟩
theorem bline_fin {jl q : Nat} {A : List AV} {h : PHead} {items : List PItem} {x : PItem} : ([(jl, .grow 6 114 (A ++ rowB (.own q (items.length + 1)) h)), (q, .grow 1 161 ((items.map encItem).flatten ++ [[itemV x]].flatten))] : OL) =
  [(jl, .grow 6 114 (A ++ rowB (.own q (items ++ [x]).length) h)), (q, .grow 1 161 ((items ++ [x]).map encItem).flatten)] := by rw [← item_push]; simp
theorem bline_spec {jl ji : Nat} {A : List AV} (h : PHead) (items : List PItem) (w : List ByteArray) (hit : items.length ≤ 100000) (hl : w.length ≤ 100000) (hs : ∀ x ∈ w, x.size ≤ 100000) (hL : Letters E) (hT : Pows E) (hV : Vars0 E) :
  ACall prog E 98 [.po jl A.length, .fro 1 (w.map encS)] [(jl, .grow 6 114 (A ++ rowB (.own ji items.length) h)), (ji, .grow 1 161 (items.map encItem).flatten)]
   (fun x O' => ∃ q : Nat, x = .bool (lineB h items w).isSome ∧ O' = [(jl, .grow 6 114 (A ++ rowB (.own q ((lineB h items w).getD (h, items)).2.length) ((lineB h items w).getD (h, items)).1)), (q, .grow 1 161 (((lineB h items w).getD (h, items)).2.map encItem).flatten)]) := by
 refine zk func98 Z (by decide) Z<|zSr<|zVzAb Z<|z6<|zb<|zSr<|zVzMp Z<|zVGvnilCheckO Z<|z8 (zc Z6 Z Zj (by decide) Z Z)<|z8 (q9 (c := .bool _) (j := 5) Yo Z Z ⟨_, .head⟩ Z)<|z6<|zz Z (fun ce=>?_) (fun ce=>?_)
 ·have hb : lineB h items w = none := by unfold lineB; rw [if_pos ce]
  refine zSr<|zVzAb Z<|z6<|ze<|zi (x := .bool _) Z ?_
  exact ⟨ji, by rw [hb]; rfl, by rw [hb]; rfl⟩
 ·have hb0 : lineB h items w = (match endB h w with
   | some h' => some (h', items)
   | none => match instrItem w with
    | none => none
    | some x => if x.isPhi = true ∧ (items.getLast?.map PItem.isPhi) = some false then none else some (h, items ++ [x])) := by unfold lineB; rw [if_neg (by simpa using ce)]
  have hsp := end_spec (E := E) (jl := jl) (A := A) (l := .own ji items.length) h w hl hs hL
  refine zf<|zb<|zSr<|zVzMp Z<|zVzMf Z ?_
  rcases he : endB h w with _ | h'
  ·rw [he] at hb0 hsp
   refine ye Z (zu (.l (.r (.rest _)))) (hsp) ?_
   rintro r13 O13 ⟨rfl, rfl⟩
   refine z6<|yc Z Z ?_
   have hsi := instruction_spec (E := E) w hl hs hL hT hV
   refine zf<|zSr<|zVzMf Z ?_
   rcases hi : instrItem w with _ | x
   ·rw [hi] at hb0 hsi
    dsimp only at hb0
    refine zd (hsi) Z<|z8 (zMu Z)<|z8 (yk (v := _) Z Z)<|z8 (zXb Z Z)<|z8 (y8 (v := _) Z)<|zVzAb Z<|z6<|zb<|zb<|zw (fun j => false) (by kernel_rfl) Z (zu (.r (.r (.rest _))))<|zTk 0 Z (zMb Z)<|zTk 1 Z (Gv.not Z)<|zTk 2 Z (zMb Z)<|zTf 3 Z Z Z Z<|zTf 4 Z Z Z Z<|zTf 5 Z Z Z Z<|zOn 6 Z<|zh Z Z<|z6<|zOn 7 Z<|zh Z Z<|z6<|zOn 8 Z<|zh Z Z<|z6<|zOn 9 Z<|zh Z Z<|z6<|zOn 10 Z<|zh Z Z<|z6<|zOn 11 Z<|zh Z Z<|z6<|zTf 12 Z Z Z Z<|zTf 13 Z Z Z Z<|AAny.takeU (i := 14) Z Z Z (by kernel_rfl) (by kernel_rfl) (by kernel_rfl) (by kernel_rfl) (by kernel_rfl) (by kernel_rfl)<|AAny.takeU (i := 15) Z Z Z (by kernel_rfl) (by kernel_rfl) (by kernel_rfl) (by kernel_rfl) (by kernel_rfl) (by kernel_rfl)<|AAny.takeU (i := 16) Z Z Z (by kernel_rfl) (by kernel_rfl) (by kernel_rfl) (by kernel_rfl) (by kernel_rfl) (by kernel_rfl)<|AAny.takeU (i := 17) Z Z Z (by kernel_rfl) (by kernel_rfl) (by kernel_rfl) (by kernel_rfl) (by kernel_rfl) (by kernel_rfl)<|zOn 18 Z ?_
    refine zh Z Z<|z6<|zOn 19 Z<|zh Z Z<|z6<|zOn 20 Z<|zh Z Z<|z6<|zOn 21 Z<|zh Z Z<|z6<|zOn 22 Z<|zh Z Z<|z6<|zOn 23 Z<|zh Z Z<|z6<|zOn 24 Z<|zh Z Z<|z6<|zOn 25 Z<|zh Z Z<|z6<|zOn 26 Z<|zh Z Z<|z6<|zOn 27 Z<|zh Z Z<|z6<|zTf 28 Z Z Z Z<|zTk 29 Z (zPt Z Z Z)<|zDn<|yh Z Z<|zSr<|zVzAb Z<|z6<|ze<|zi (x := .bool _) Z ?_
    exact ⟨ji, by rw [hb0]; rfl, by rw [hb0]; rfl⟩
   ·rw [hi] at hb0 hsi
    dsimp only at hb0
    refine zd (hsi) Z<|z8 (zMu Z)<|z8 (yk (v := _) Z Z)<|z8 (zXb Z Z)<|z8 (y8 (v := _) Z)<|zVzAb Z<|z6<|zb<|zb<|zw (fun j => false) (by kernel_rfl) Z (zu (.r (.r (.rest _))))<|zTk 0 Z (zMb Z)<|zTk 1 Z (Gv.not Z)<|zTk 2 Z (zMb Z)<|zTt 3 Z Z Z Z (y9 (v := _) Z)<|zOn 4 Z<|za Z Z Z<|zd (isPhi_spec x) Z<|z6<|zTt 5 Z Z Z Z (zMb Z)<|qb (s := 24) Z (fun cx=>?_) (fun cx=>?_)
    ·rcases snoc_cases items with rfl | ⟨pre, y, rfl⟩
     ·refine zTt 6 Z Z Z cx (zMp Z)<|zTt 7 Z Z Z cx (yl Z)<|zTt 8 Z Z Z cx (zc Z6 Z Yd (by decide) Z Z)<|zTt 9 Z Z Z cx (q9 (c := .own _ _) (j := 1) Xi Z Z ⟨_, .head⟩ Z)<|zTt 10 Z Z Z cx (q7 Zz Z)<|zTt 11 Z Z Z cx (yr Z Z)<|zTt 12 Z Z Z Z (zPt Z cx Z)<|zTt 13 Z Z Z Z (zMb Z)<|zTf 14 Z Z Z Z<|zTf 15 Z Z Z Z<|zTf 16 Z Z Z Z<|zTf 17 Z Z Z Z<|zTf 18 Z Z Z Z<|zTf 19 Z Z Z Z<|zTf 20 Z Z Z Z<|zTf 21 Z Z Z Z<|zTf 22 Z Z Z Z<|zTf 23 Z Z Z Z<|zTf 24 Z Z Z Z<|zTf 25 Z Z Z Z<|zTf 26 Z Z Z Z<|zTf 27 Z Z Z Z<|zTt 28 Z Z Z Z (zPf Z Z Z)<|zTk 29 Z (zPf Z Z Z)<|zDn<|yc Z Z<|zf<|zSr<|zVzMp Z<|zVzMp Z<|zVGvnilCheckO Z<|z8 (zc Z6 Z Yd (by decide) Z Z)<|z8 (q9 (c := .own _ _) (j := 1) Xi Z Z ⟨_, .head⟩ Z)<|z8 (y9 (v := _) Z)<|zl (rows := [[_]]) ps112_1 Z Z Z Z Z<|zy (k := 1) Zz type161 Z Z Z Z Z (fun _ => .t1) (by rw [grow_len (k := 1) encItem_len]) (by decide) Z (by show (_ + _) * 16 ≤ _; simp <;> omega) (by simp <;> omega)<|fun i56 => zVGvnilCheckO Z<|z8 (zc Z6 Z Yd (by decide) Z Z)<|yv (j := 1) (l := [_]) (new := [_, _, _, _, _, _]) Yd Z Z Z Z Z Z Z .head Z Z Z<|z6 ?_
      refine zSr<|zVzAb Z<|z6<|ze<|zi (x := .bool _) Z ?_
      exact ⟨i56, by rw [hb0, if_neg (by simp)]; rfl, by rw [hb0, if_neg (by simp)]; exact bline_fin⟩
     ·refine zTt 6 Z Z Z cx (zMp Z)<|zTt 7 Z Z Z cx (yl Z)<|zTt 8 Z Z Z cx (zc Z6 Z Yd (by decide) Z Z)<|zTt 9 Z Z Z cx (q9 (c := .own _ _) (j := 1) Xi Z Z ⟨_, .head⟩ Z)<|zTt 10 Z Z Z cx (q7 Zz Z)<|zTt 11 Z Z Z cx (yr Z Z) ?_
      have hit2 : pre.length ≤ 100000 := by simp at hit; omega
      refine zTt 12 Z Z Z Z (zPt Z cx Z)<|zTt 13 Z Z Z Z (zMb Z)<|zTt 14 Z Z Z (by simp) (zMp Z)<|zTt 15 Z Z Z (by simp) (yl Z)<|zTt 16 Z Z Z (by simp) (zc Z6 Z Yd (by decide) Z Z)<|zTt 17 Z Z Z (by simp) (q9 (c := .own _ _) (j := 1) Xi Z Z ⟨_, .head⟩ Z)<|zTt 18 Z Z Z (by simp) (zMp Z)<|zTt 19 Z Z Z (by simp) (yl Z)<|zTt 20 Z Z Z (by simp) (zc Z6 Z Yd (by decide) Z Z)<|zTt 21 Z Z Z (by simp) (q9 (c := .own _ _) (j := 1) Xi Z Z ⟨_, .head⟩ Z)<|zTt 22 Z Z Z (by simp) (q7 Zz Z)<|zTt 23 Z Z Z (by simp) (Gv.sub Z Z (by unfold I64; omega))<|zTt 24 Z Z Z (by simp) (Gv.idxO (j := ((pre ++ [y]).length - 1)) Zz sizeOf161 Z Z (by simp) ⟨_, .t1⟩ (by simp [encItem_eq]) (by simp))<|zTt 25 Z Z Z (by simp) (Gv.load1G (c := _) isAgg161 Z ⟨_, .t1⟩ (last_item pre y))<|zOn 26 Z<|za Z Z (by simp)<|zd (isPhi_spec y) Z<|z6<|zTt 27 Z Z Z (by simp) (Gv.not Z)<|zTt 28 Z Z Z Z (zPt Z (by simp) Z)<|zTk 29 Z (zPf Z Z Z)<|zDn<|zz Z (fun cy=>?_) (fun cy=>?_)
      ·have hg : x.isPhi = true ∧ ((pre ++ [y]).getLast?.map PItem.isPhi) = some false := ⟨cx, by simpa using cy⟩
       refine zSr<|zVzAb Z<|z6<|ze<|zi (x := .bool _) Z ?_
       exact ⟨ji, by rw [hb0, if_pos hg]; rfl, by rw [hb0, if_pos hg]; rfl⟩
      ·have hg : ¬ (x.isPhi = true ∧ ((pre ++ [y]).getLast?.map PItem.isPhi) = some false) := by rintro ⟨_, h2⟩; simp at h2 cy; rw [h2] at cy; cases cy
       refine zf<|zSr<|zVzMp Z<|zVzMp Z<|zVGvnilCheckO Z<|z8 (zc Z6 Z Yd (by decide) Z Z)<|z8 (q9 (c := .own _ _) (j := 1) Xi Z Z ⟨_, .head⟩ Z)<|z8 (y9 (v := _) Z)<|zl (rows := [[_]]) ps112_1 Z Z Z Z Z<|zy (k := 1) Zz type161 Z Z Z Z Z (fun _ => .t1) (by rw [grow_len (k := 1) encItem_len]) (by decide) Z (by show (_ + _) * 16 ≤ _; simp <;> omega) (by simp <;> omega)<|fun i56 => zVGvnilCheckO Z<|z8 (zc Z6 Z Yd (by decide) Z Z)<|yv (j := 1) (l := [_]) (new := [_, _, _, _, _, _]) Yd Z Z Z Z Z Z Z .head Z Z Z<|z6<|zSr<|zVzAb Z<|z6<|ze<|zi (x := .bool _) Z ?_
       exact ⟨i56, by rw [hb0, if_neg hg]; rfl, by rw [hb0, if_neg hg]; exact bline_fin⟩
    ·have hg : ¬ (x.isPhi = true ∧ (items.getLast?.map PItem.isPhi) = some false) := by rintro ⟨h2, _⟩; rw [cx] at h2; cases h2
     refine zTf 6 Z Z Z cx<|zTf 7 Z Z Z cx<|zTf 8 Z Z Z cx<|zTf 9 Z Z Z cx<|zTf 10 Z Z Z cx<|zTf 11 Z Z Z cx<|zTt 12 Z Z Z Z (zPf Z cx Z)<|zTt 13 Z Z Z Z (zMb Z)<|zTf 14 Z Z Z Z<|zTf 15 Z Z Z Z<|zTf 16 Z Z Z Z<|zTf 17 Z Z Z Z<|zTf 18 Z Z Z Z<|zTf 19 Z Z Z Z<|zTf 20 Z Z Z Z<|zTf 21 Z Z Z Z<|zTf 22 Z Z Z Z<|zTf 23 Z Z Z Z<|zTf 24 Z Z Z Z<|zTf 25 Z Z Z Z<|zTf 26 Z Z Z Z<|zTf 27 Z Z Z Z<|zTt 28 Z Z Z Z (zPf Z Z Z)<|zTk 29 Z (zPf Z Z Z)<|zDn<|yc Z Z<|zf<|zSr<|zVzMp Z<|zVzMp Z<|zVGvnilCheckO Z<|z8 (zc Z6 Z Yd (by decide) Z Z)<|z8 (q9 (c := .own _ _) (j := 1) Xi Z Z ⟨_, .head⟩ Z)<|z8 (y9 (v := _) Z)<|zl (rows := [[_]]) ps112_1 Z Z Z Z Z<|zy (k := 1) Zz type161 Z Z Z Z Z (fun _ => .t1) (by rw [grow_len (k := 1) encItem_len]) (by decide) Z (by show (_ + _) * 16 ≤ _; simp <;> omega) (by simp <;> omega)<|fun i56 => zVGvnilCheckO Z<|z8 (zc Z6 Z Yd (by decide) Z Z)<|yv (j := 1) (l := [_]) (new := [_, _, _, _, _, _]) Yd Z Z Z Z Z Z Z .head Z Z Z<|z6 ?_
     refine zSr<|zVzAb Z<|z6<|ze<|zi (x := .bool _) Z ?_
     exact ⟨i56, by rw [hb0, if_neg hg]; rfl, by rw [hb0, if_neg hg]; exact bline_fin⟩
  ·rw [he] at hb0 hsp
   refine ye Z (zu (.l (.r (.rest _)))) (hsp) ?_
   rintro r13 O13 ⟨rfl, rfl⟩
   refine z6<|yh Z Z<|zSr<|zVzAb Z<|z6<|ze<|zi (x := .bool _) Z ?_
   exact ⟨ji, by rw [hb0]; rfl, by rw [hb0]; rfl⟩
end Go.Proofs.YtbkgklpihnfnjaaGreatDoor
namespace Go.Proofs.YtbkgklpihnfnjaaGreatDoor
open Go.Proofs.Tryz
open Go.Proofs Go.Lib Go.Shelf Go.RowKit
theorem pl114 : Places prog 114 #[(0, 1), (1, 1), (2, 1), (3, 1), (4, 1), (5, 1)] [.str ⟨#[]⟩, .raw (.slice none 0 0), .int .i64 0, .str ⟨#[]⟩, .raw (.slice none 0 0), .bool false] := ⟨_, _, Z6, zeroValue114, fun w => by kernel_rfl, rfl⟩
theorem ps65_1 : PlacesS prog 65 114 1 6 [.str ⟨#[]⟩, .raw (.slice none 0 0), .int .i64 0, .str ⟨#[]⟩, .raw (.slice none 0 0), .bool false] := ⟨_, Zr, Yh, zeroValue114, by decide, by decide, by kernel_rfl⟩
set_option maxRecDepth 20000
variable {E : World}
structure PProg where
 params : List PVar
 vars : List PVar
 done : List (PHead × List PItem)
 cur : Option (PHead × List PItem)
def encPB (b : PHead × List PItem) : List AV := rowB (.fro 1 (b.2.map encItem)) b.1
def blockS : ByteArray := ⟨#[98, 108, 111, 99, 107]⟩
def varS : ByteArray := ⟨#[118, 97, 114]⟩
def newHead (name : ByteArray) : PHead := ⟨name, 0, ⟨#[]⟩, [], false⟩
def isBlockLine (w : List ByteArray) : Bool := decide (atW w 0 = blockS ∧ w.length = 2 ∧ scanName (atW w 1) = true)
def isVarLine (w : List ByteArray) : Bool := decide (atW w 0 = varS ∧ 1 < w.length)
def lineP0 (S : PProg) (w : List ByteArray) : Option PProg :=
 if isBlockLine w = true then some { S with cur := some (newHead (atW w 1), []) }
 else if isVarLine w = true ∧ varsOk (w.drop 1) = true then some { S with vars := S.vars ++ varsOf (w.drop 1) } else none
def lineP1 (S : PProg) (b : PHead × List PItem) (w : List ByteArray) : Option PProg :=
 if isBlockLine w = true then (if b.1.ended = true then some { S with done := S.done ++ [b], cur := some (newHead (atW w 1), []) } else none)
 else (lineB b.1 b.2 w).map fun r => { S with cur := some r }
def lineP (S : PProg) (w : List ByteArray) : Option PProg :=
 match S.cur with
 | none => lineP0 S w
 | some b => lineP1 S b w
def curRow (ji : Nat) : Option (PHead × List PItem) → List AV
 | none => []
 | some b => rowB (.own ji b.2.length) b.1
def curItems : Option (PHead × List PItem) → List AV
 | none => []
 | some b => (b.2.map encItem).flatten
def curN : Option (PHead × List PItem) → Nat
 | none => 0
 | some _ => 1
def progO (p : Nat) (q : Nat × Nat × Nat) (S : PProg) : OL :=
 [(p, .cells 67 [.fro 2 (S.params.map encVar), .own q.1 S.vars.length, .own q.2.1 (S.done.length + curN S.cur)]), (q.1, .grow 2 38 (S.vars.map encVar).flatten),
  (q.2.1, .grow 6 114 ((S.done.map encPB).flatten ++ curRow q.2.2 S.cur)), (q.2.2, .grow 1 161 (curItems S.cur))]
theorem block_cond {w : List ByteArray} {b : Bool} (h : b = isBlockLine w) : AV.bool b = .bool (isBlockLine w) := by rw [h]
theorem pnew_fin {p jv i j : Nat} {params vars : List PVar} {done : List (PHead × List PItem)} {b : PHead × List PItem} {nm : ByteArray} :
  ([(p, .cells 67 [.fro 2 (params.map encVar), .own jv vars.length, .own i (done.length + 1 + 1)]), (jv, .grow 2 38 (vars.map encVar).flatten),
   (i, .grow 6 114 (((done.map encPB).flatten ++ encPB b) ++ rowB (.own j 0) (newHead nm))), (j, .grow 1 161 [])] : OL) = progO p (jv, i, j) ⟨params, vars, done ++ [b], some (newHead nm, [])⟩ := by
 simp [progO, curRow, curItems, curN]
theorem pline1_spec {p jv jl ji : Nat} (S : PProg) (h : PHead) (it : List PItem) (hS : S.cur = some (h, it)) (w : List ByteArray) (hd : S.done.length ≤ 100000) (hit : it.length ≤ 100000) (hw : 0 < w.length) (hl : w.length ≤ 100000) (hs : ∀ x ∈ w, x.size ≤ 100000) (hL : Letters E) (hT : Pows E) (hV : Vars0 E) :
  ACall prog E 59 [.po p 0, .fro 1 (w.map encS)] (progO p (jv, jl, ji) S)
   (fun x O' => ∃ q : Nat × Nat × Nat, x = .bool (lineP1 S (h, it) w).isSome ∧ O' = progO p q ((lineP1 S (h, it) w).getD S)) := by
 obtain ⟨params, vars, done, cur⟩ := S
 dsimp only at hS hd
 subst hS
 have hsz : ∀ k, (atW w k).size ≤ 100000 := fun k => by
  unfold atW
  cases h : w[k]? with
  | none => exact qg _
  | some x => exact hs x (qm h)
 refine zk func59 Z (by decide) Z<|zSr<|zVzAb Z<|z6<|zSr<|zVzMp Z<|zVGvnilCheckO Z<|z8 (zc Zc Z Yc (by decide) Z Z)<|z8 (zj (c := .own _ _) X3 Z ⟨_, .head⟩ Z)<|z8 (q7 Zr Z)<|zVzAi Z<|z6<|zb<|zg<|zb<|yn (γ := Unit) [0, 1, 5] (fun u => [(13, .bool (isBlockLine w))]) (fun u => progO p (jv, jl, ji) ⟨params, vars, done, some (h, it)⟩) (fun u => True) ?_ (fun _ _ h => h) ?_
 ·refine zRg<|zVzMf Z<|z8 (zIM 0 jh jx Z Z Z (atW_get (by omega)))<|z8 (ya (c := .str _) Z5 Z)<|z8 (q8 Z Z)<|zVzMb Z<|zo (s := 18) Z (fun c1=>?_) (fun c1=>?_)
  ·refine za Z Z c1<|zVzMf Z<|za Z Z c1<|zVGvlenM jh Z<|za Z Z c1<|zVGveqlI Z Z<|zVzPt Z c1 Z<|zVzMb Z<|zo (s := 23) Z (fun c2=>?_) (fun c2=>?_)
   ·refine za Z Z c2<|zVzMf Z<|za Z Z c2<|z8 (zIM 1 jh jx Z Z Z (atW_get (by simp_all <;> omega)))<|za Z Z c2<|z8 (ya (c := .str _) Z5 Z)<|za Z Z c2<|zd (zname_spec _ (by have := hsz 1; omega) hL) Z<|zVzPt Z c2 Z<|zVzAb Z<|z6 ?_
    exact ⟨(), zR3, ⟨block_cond (by unfold isBlockLine; simp_all [blockS] <;> omega), trivial⟩, zLe, trivial⟩
   ·refine z7 Z Z c2<|z7 Z Z c2<|z7 Z Z c2<|z7 Z Z c2<|zVzPf Z c2 Z<|zVzAb Z<|z6 ?_
    exact ⟨(), zR3, ⟨block_cond (by unfold isBlockLine; simp_all [blockS] <;> omega), trivial⟩, zLe, trivial⟩
  ·refine z7 Z Z c1<|z7 Z Z c1<|z7 Z Z c1<|zVzPf Z c1 Z<|zVzMb Z<|z7 Z Z Z<|z7 Z Z Z<|z7 Z Z Z<|z7 Z Z Z<|zVzPf Z Z Z<|zVzAb Z<|z6 ?_
   exact ⟨(), zR3, ⟨block_cond (by unfold isBlockLine; simp_all [blockS] <;> omega), trivial⟩, zLe, trivial⟩
 ·rintro _ _
  refine zz Z (fun c1=>?_) (fun c1=>?_)
  ·have hwl : w.length = 2 := by unfold isBlockLine at c1; simp at c1; omega
   refine zb<|zSr<|zVzMi Z<|z8 (yr Z Z)<|zVzMb Z<|za Z Z (by show decide (0 < ((done.length + 1 : Nat) : Int)) = true; simp)<|zVzMp Z<|za Z Z (by show decide (0 < ((done.length + 1 : Nat) : Int)) = true; simp)<|zVGvnilCheckO Z<|za Z Z (by show decide (0 < ((done.length + 1 : Nat) : Int)) = true; simp)<|z8 (zc Zc Z Yc (by decide) Z Z)<|za Z Z (by show decide (0 < ((done.length + 1 : Nat) : Int)) = true; simp)<|z8 (zj (c := .own _ _) X3 Z ⟨_, .head⟩ Z)<|za Z Z (by show decide (0 < ((done.length + 1 : Nat) : Int)) = true; simp)<|zVzMi Z<|za Z Z (by show decide (0 < ((done.length + 1 : Nat) : Int)) = true; simp)<|z8 (Gv.sub Z Z (by unfold I64; show _ ∧ ((done.length + 1 : Nat) : Int) - 1 ≤ _; omega))<|za Z Z (by show decide (0 < ((done.length + 1 : Nat) : Int)) = true; simp)<|z8 (Gv.idxOL (j := done.length) Zr Yh Z Z (by show ((done.length + 1 : Nat) : Int) - 1 = _; omega) ⟨_, .t2⟩ (by simp [curRow, rowB]) (by show done.length < done.length + 1; omega) (show done.length * 6 = ((done.map encPB).flatten).length by rw [grow_len (k := 6) (fun _ => rfl)]))<|za Z Z (by show decide (0 < ((done.length + 1 : Nat) : Int)) = true; simp)<|z8 (zc Z6 Z Zj (by decide) Z Z)<|za Z Z (by show decide (0 < ((done.length + 1 : Nat) : Int)) = true; simp)<|z8 (q9 (c := .bool _) (j := 5) Yo Z Z ⟨_, .t2⟩ Z)<|za Z Z (by show decide (0 < ((done.length + 1 : Nat) : Int)) = true; simp)<|zVGvnot Z<|z8 (zPt Z (by show decide (0 < ((done.length + 1 : Nat) : Int)) = true; simp) Z)<|z6<|zz Z (fun c2=>?_) (fun c2=>?_)
   ·have hr : lineP1 ⟨params, vars, done, some (h, it)⟩ (h, it) w = none := by unfold lineP1; rw [if_pos c1, if_neg (by simpa using c2)]
    refine zSr<|zVzAb Z<|z6<|ze<|zi (x := .bool _) Z ?_
    exact ⟨(jv, jl, ji), by rw [hr]; rfl, by rw [hr]; rfl⟩
   ·have hr : lineP1 ⟨params, vars, done, some (h, it)⟩ (h, it) w = some ⟨params, vars, done ++ [(h, it)], some (newHead (atW w 1), [])⟩ := by unfold lineP1; rw [if_pos c1, if_pos (by simpa using c2)]
    refine zt (GStep.knowL (off := 1) (rows := it.map encItem) .t3 .t2 Z (by intro r hr; obtain ⟨x, _, rfl⟩ := List.mem_map.1 hr; exact encItem_len x) (by decide) (by simp))<|zf<|zb<|zw (fun j => Nat.beq j 13) (by kernel_rfl) Z (zu (.r (.rest _)))<|zTk 0 Z (zMp Z)<|zTk 1 Z (zMp Z)<|zTk 2 Z (yl Z)<|zTk 3 Z (zc Zc Z Yc (by decide) Z Z)<|zTk 4 Z (zj (c := .own _ _) X3 Z ⟨_, .head⟩ Z)<|zTk 5 Z (zMf Z)<|zTk 6 Z (zIM 1 jh jx Z Z Z (atW_get (by omega)))<|zTk 7 Z (ya (c := .str _) Z5 Z)<|zTk 8 Z (y4 (cps := [(0, [_])]) (rs := [_, .raw (.slice none 0 0), .int .i64 0, .str ⟨#[]⟩, .raw (.slice none 0 0), .bool false]) pl114 Z Z Z)<|zOn 9 Z<|zl (rows := [[_, _, _, _, _, _]]) ps65_1 Z Z Z Z Z<|z6<|zOn 10 Z<|zy (k := 6) Zr type114 Z Z Z Z Z (fun _ => .t1) (by rw [qj, grow_len (k := 6) (fun _ => rfl)]; show done.length * 6 + 6 = (done.length + 1) * 6; omega) (by decide) Z (by show (done.length + 1 + 1) * 96 ≤ 140737488355328; omega) (by show done.length + 1 + 1 ≤ 140737488355328; omega)<|fun i53 => z6<|yd (i := 11) Z (by kernel_rfl) (by kernel_rfl) (by kernel_rfl) (by kernel_rfl) (yl Z)<|zTk 12 Z (zc Zc Z Yc (by decide) Z Z)<|yb<|y7 (i := 13) Z (by kernel_rfl) (by kernel_rfl)<|y5 (l := [_]) (new := [_, _, _]) Yc Z Z Z Z Z Z .head Z Z<|z6<|yf (by kernel_rfl)<|zt (GStep.impL (off := 4) .t2 Z (nil_fro 1))<|adoptL_wp (off := 1) (k := 1) (T := 161) (fun _ => .t2) Z<|fun j2 => zt (zn (zp .t3))<|zt (zn (zp .t3))<|zt (zn (zp .t3))<|zSr<|zVzAb Z<|z6<|ze<|zi (x := .bool _) Z ?_
    exact ⟨(jv, i53, j2), by rw [hr]; rfl, by rw [hr]; exact pnew_fin⟩
  ·have hsp := bline_spec (E := E) (jl := jl) (ji := ji) (A := (done.map encPB).flatten) h it w hit hl hs hL hT hV
   have hr0 : lineP1 ⟨params, vars, done, some (h, it)⟩ (h, it) w = (lineB h it w).map fun r => ⟨params, vars, done, some r⟩ := by unfold lineP1; rw [if_neg (by rw [c1]; simp)]
   refine zSr<|zVzMi Z<|z8 (yr Z Z)<|zVzAb Z<|z6<|yh Z (by show decide (0 < ((done.length + 1 : Nat) : Int)) = true; simp)<|zSr<|zVzMp Z<|zVGvnilCheckO Z<|z8 (zc Zc Z Yc (by decide) Z Z)<|z8 (zj (c := .own _ _) X3 Z ⟨_, .head⟩ Z)<|zVzMi Z<|z8 (Gv.sub Z Z (by unfold I64; show _ ∧ ((done.length + 1 : Nat) : Int) - 1 ≤ _; omega))<|z8 (Gv.idxOL (j := done.length) Zr Yh Z Z (by show ((done.length + 1 : Nat) : Int) - 1 = _; omega) ⟨_, .t2⟩ (by simp [curRow, rowB]) (by show done.length < done.length + 1; omega) (show done.length * 6 = ((done.map encPB).flatten).length by rw [grow_len (k := 6) (fun _ => rfl)]))<|zVzMf Z ?_
   rcases hb : lineB h it w with _ | r
   ·rw [hb] at hsp hr0
    refine ye Z (zu (.r (.r (.l (.l (.rest _)))))) (hsp) ?_
    rintro r67 O67 ⟨q, rfl, rfl⟩
    refine y1 (zn (zp .t1))<|y1 (zn (zp .t1))<|y1 (zn (zp .t3))<|y1 (zn (zp .t3))<|zVzAb Z<|z6<|ze<|zi (x := .bool _) Z ?_
    exact ⟨(jv, jl, q), by rw [hr0]; rfl, by rw [hr0]; rfl⟩
   ·rw [hb] at hsp hr0
    refine ye Z (zu (.r (.r (.l (.l (.rest _)))))) (hsp) ?_
    rintro r67 O67 ⟨q, rfl, rfl⟩
    refine y1 (zn (zp .t1))<|y1 (zn (zp .t1))<|y1 (zn (zp .t3))<|y1 (zn (zp .t3))<|zVzAb Z<|z6<|ze<|zi (x := .bool _) Z ?_
    exact ⟨(jv, jl, q), by rw [hr0]; rfl, by rw [hr0]; rfl⟩
theorem pnew0_fin {p jv i j : Nat} {params vars : List PVar} {nm : ByteArray} :
  ([(p, .cells 67 [.fro 2 (params.map encVar), .own jv vars.length, .own i 1]), (jv, .grow 2 38 (vars.map encVar).flatten),
   (i, .grow 6 114 ([] ++ rowB (.own j 0) (newHead nm))), (j, .grow 1 161 [])] : OL) = progO p (jv, i, j) ⟨params, vars, [], some (newHead nm, [])⟩ := by
 simp [progO, curRow, curItems, curN]
theorem pvar_fin {p jl ji i : Nat} {params vars vs : List PVar} :
  ([(p, .cells 67 [.fro 2 (params.map encVar), .own i (vars.length + (vs.map encVar).length), .own jl 0]), (i, .grow 2 38 ((vars.map encVar).flatten ++ (vs.map encVar).flatten)),
   (jl, .grow 6 114 []), (ji, .grow 1 161 [])] : OL) = progO p (i, jl, ji) ⟨params, vars ++ vs, [], none⟩ := by
 simp [progO, curRow, curItems, curN]
theorem pvar0_fin {p jl ji i : Nat} {params vars vs : List PVar} (h : vs = []) :
  ([(p, .cells 67 [.fro 2 (params.map encVar), .own i (vars.length + (vs.map encVar).length), .own jl 0]), (i, .grow 2 38 ((vars.map encVar).flatten ++ (vs.map encVar).flatten)),
   (jl, .grow 6 114 []), (ji, .grow 1 161 [])] : OL) = progO p (i, jl, ji) ⟨params, vars, [], none⟩ := by
 subst h; simp [progO, curRow, curItems, curN]
theorem allVar (l : List PVar) : ((l.map encVar).flatten).all AV.cell = true := by induction l <;> simp_all [encVar, AV.cell]
theorem pline0_spec {p jv jl ji : Nat} (S : PProg) (hS : S.cur = none) (hd : S.done = []) (w : List ByteArray) (hv : S.vars.length ≤ 1000000000) (hw : 0 < w.length) (hl : w.length ≤ 100000) (hs : ∀ x ∈ w, x.size ≤ 100000) (hL : Letters E) (hV : Vars0 E) :
  ACall prog E 59 [.po p 0, .fro 1 (w.map encS)] (progO p (jv, jl, ji) S)
   (fun x O' => ∃ q : Nat × Nat × Nat, x = .bool (lineP0 S w).isSome ∧ O' = progO p q ((lineP0 S w).getD S)) := by
 obtain ⟨params, vars, done, cur⟩ := S
 dsimp only at hS hd hv
 subst hS hd
 have hsz : ∀ k, (atW w k).size ≤ 100000 := fun k => by
  unfold atW
  cases h : w[k]? with
  | none => exact qg _
  | some x => exact hs x (qm h)
 refine zk func59 Z (by decide) Z<|zSr<|zVzAb Z<|z6<|zSr<|zVzMp Z<|zVGvnilCheckO Z<|z8 (zc Zc Z Yc (by decide) Z Z)<|z8 (zj (c := .own _ _) X3 Z ⟨_, .head⟩ Z)<|z8 (q7 Zr Z)<|zVzAi Z<|z6<|zb<|zg<|zb<|yn (γ := Unit) [0, 1, 5] (fun u => [(13, .bool (isBlockLine w))]) (fun u => progO p (jv, jl, ji) ⟨params, vars, [], none⟩) (fun u => True) ?_ (fun _ _ h => h) ?_
 ·refine zRg<|zVzMf Z<|z8 (zIM 0 jh jx Z Z Z (atW_get (by omega)))<|z8 (ya (c := .str _) Z5 Z)<|z8 (q8 Z Z)<|zVzMb Z<|zo (s := 18) Z (fun c3=>?_) (fun c3=>?_)
  ·refine za Z Z c3<|zVzMf Z<|za Z Z c3<|zVGvlenM jh Z<|za Z Z c3<|zVGveqlI Z Z<|zVzPt Z c3 Z<|zVzMb Z<|zo (s := 23) Z (fun c4=>?_) (fun c4=>?_)
   ·refine za Z Z c4<|zVzMf Z<|za Z Z c4<|z8 (zIM 1 jh jx Z Z Z (atW_get (by simp_all <;> omega)))<|za Z Z c4<|z8 (ya (c := .str _) Z5 Z)<|za Z Z c4<|zd (zname_spec _ (by have := hsz 1; omega) hL) Z<|zVzPt Z c4 Z<|zVzAb Z<|z6 ?_
    exact ⟨(), zR3, ⟨block_cond (by unfold isBlockLine; simp_all [blockS] <;> omega), trivial⟩, zLe, trivial⟩
   ·refine z7 Z Z c4<|z7 Z Z c4<|z7 Z Z c4<|z7 Z Z c4<|zVzPf Z c4 Z<|zVzAb Z<|z6 ?_
    exact ⟨(), zR3, ⟨block_cond (by unfold isBlockLine; simp_all [blockS] <;> omega), trivial⟩, zLe, trivial⟩
  ·refine z7 Z Z c3<|z7 Z Z c3<|z7 Z Z c3<|zVzPf Z c3 Z<|zVzMb Z<|z7 Z Z Z<|z7 Z Z Z<|z7 Z Z Z<|z7 Z Z Z<|zVzPf Z Z Z<|zVzAb Z<|z6 ?_
   exact ⟨(), zR3, ⟨block_cond (by unfold isBlockLine; simp_all [blockS] <;> omega), trivial⟩, zLe, trivial⟩
 ·rintro _ _
  refine zz Z (fun c1=>?_) (fun c1=>?_)
  ·have hwl : w.length = 2 := by unfold isBlockLine at c1; simp at c1; omega
   have hr : lineP0 ⟨params, vars, [], none⟩ w = some ⟨params, vars, [], some (newHead (atW w 1), [])⟩ := by unfold lineP0; rw [if_pos c1]
   refine zb<|zSr<|zVzMi Z<|z8 (yr Z Z)<|zVzMb Z<|z7 Z Z Z<|z7 Z Z Z<|z7 Z Z Z<|z7 Z Z Z<|z7 Z Z Z<|z7 Z Z Z<|z7 Z Z Z<|z7 Z Z Z<|z7 Z Z Z<|z7 Z Z Z<|zVzPf Z Z Z<|z6<|yc Z Z<|zf<|zb<|zw (fun j => Nat.beq j 13) (by kernel_rfl) Z (zu (.r (.rest _)))<|zTk 0 Z (zMp Z)<|zTk 1 Z (zMp Z)<|zTk 2 Z (yl Z)<|zTk 3 Z (zc Zc Z Yc (by decide) Z Z)<|zTk 4 Z (zj (c := .own _ _) X3 Z ⟨_, .head⟩ Z)<|zTk 5 Z (zMf Z)<|zTk 6 Z (zIM 1 jh jx Z Z Z (atW_get (by omega)))<|zTk 7 Z (ya (c := .str _) Z5 Z)<|zTk 8 Z (y4 (cps := [(0, [_])]) (rs := [_, .raw (.slice none 0 0), .int .i64 0, .str ⟨#[]⟩, .raw (.slice none 0 0), .bool false]) pl114 Z Z Z)<|zOn 9 Z<|zl (rows := [[_, _, _, _, _, _]]) ps65_1 Z Z Z Z Z<|z6<|zOn 10 Z<|zy (k := 6) Zr type114 Z Z Z Z Z (fun _ => .t1) Z (by decide) Z (by show (0 + 1) * 96 ≤ 140737488355328; omega) (by show 0 + 1 ≤ 140737488355328; omega)<|fun i53 => z6<|yd (i := 11) Z (by kernel_rfl) (by kernel_rfl) (by kernel_rfl) (by kernel_rfl) (yl Z)<|zTk 12 Z (zc Zc Z Yc (by decide) Z Z)<|yb<|y7 (i := 13) Z (by kernel_rfl) (by kernel_rfl) ?_
   refine y5 (l := [_]) (new := [_, _, _]) Yc Z Z Z Z Z Z .head Z Z<|z6<|yf (by kernel_rfl)<|zt (GStep.impL (off := 4) .t2 Z (nil_fro 1))<|adoptL_wp (off := 1) (k := 1) (T := 161) (fun _ => .t2) Z<|fun j2 => zt (GStep.drop .t4)<|zt (zn (zp .t3))<|zt (zn (zp .t3))<|zt (zn (zp .t3))<|zSr<|zVzAb Z<|z6<|ze<|zi (x := .bool _) Z ?_
   exact ⟨(jv, i53, j2), by rw [hr]; rfl, by rw [hr]; exact pnew0_fin⟩
  ·refine zSr<|zVzMi Z<|z8 (yr Z Z)<|zVzAb Z<|z6<|yc Z Z<|zb<|yn (γ := Unit) [0, 1] (fun u => [(68, .bool (isVarLine w))]) (fun u => progO p (jv, jl, ji) ⟨params, vars, [], none⟩) (fun u => True) ?_ (fun _ _ h => h) ?_
   ·refine zRg<|zVzMf Z<|z8 (zIM 0 jh jx Z Z Z (atW_get (by omega)))<|z8 (ya (c := .str _) Z5 Z)<|z8 (q8 Z Z)<|zVzMb Z<|zo (s := 73) Z (fun c5=>?_) (fun c5=>?_)
    ·refine za Z Z c5<|zVzMf Z<|za Z Z c5<|zVGvlenM jh Z<|za Z Z c5<|z8 (yr Z Z)<|zVzPt Z c5 Z<|zVzAb Z<|z6 ?_
     exact ⟨(), zR2, ⟨jb (by unfold isVarLine; simp_all [varS] <;> omega), trivial⟩, zLe, trivial⟩
    ·refine z7 Z Z c5<|z7 Z Z c5<|z7 Z Z c5<|zVzPf Z c5 Z<|zVzAb Z<|z6 ?_
     exact ⟨(), zR2, ⟨jb (by unfold isVarLine; simp_all [varS] <;> omega), trivial⟩, zLe, trivial⟩
   ·rintro _ _
    refine zz Z (fun c2=>?_) (fun c2=>?_)
    ·have hwl : 1 < w.length := by unfold isVarLine at c2; simp at c2; omega
     have hvl : (varsOf (w.drop 1)).length ≤ 100000 := by unfold varsOf; split <;> simp <;> omega
     refine zSr<|zVzMf Z<|z8 (Gv.cutLoM (j := 1) jh jx Z Z Z (by omega))<|zd (zvars_spec (w.drop 1) (by simp; omega) (fun x hx => hs x (List.mem_of_mem_drop hx)) hL hV) Z<|z8 (zMu Z)<|z8 (yk (v := .fro _ _) Z Z)<|z8 (zXb Z Z)<|z8 (zAf Z)<|zVzAb Z<|z6<|zSr<|zVzMp Z<|zVzMp Z<|zVGvnilCheckO Z<|z8 (zc Zc Z Z9 (by decide) Z Z)<|z8 (zj (c := .own _ _) Zn Z ⟨_, .head⟩ Z)<|zVzMf Z<|zy (k := 2) js type38 Z Z Z Z Z (fun _ => .t1) (by rw [grow_len (k := 2) (fun _ => rfl)]) (by decide) (allVar _) (by show (vars.length + ((varsOf (w.drop 1)).map encVar).length) * 24 ≤ 140737488355328; rw [qk]; omega) (by show vars.length + ((varsOf (w.drop 1)).map encVar).length ≤ 140737488355328; rw [qk]; omega)<|fun i90 => zVGvnilCheckO Z<|z8 (zc Zc Z Z9 (by decide) Z Z)<|y5 (l := [_]) (new := [_, _, _]) Z9 Z Z Z Z Z Z .head Z Z<|z6<|zSr<|zVzMb Z<|zVzAb Z<|z6<|ze ?_
     rcases hv2 : varsOk (w.drop 1)
     ·have hr : lineP0 ⟨params, vars, [], none⟩ w = none := by unfold lineP0; rw [if_neg (by rw [c1]; simp), if_neg (by rw [hv2]; simp)]
      have hvs : varsOf (w.drop 1) = [] := by unfold varsOf; rw [hv2]; rfl
      refine zi (x := .bool _) Z ?_
      exact ⟨(i90, jl, ji), by rw [hr]; rfl, by rw [hr]; exact pvar0_fin hvs⟩
     ·have hr : lineP0 ⟨params, vars, [], none⟩ w = some ⟨params, vars ++ varsOf (w.drop 1), [], none⟩ := by unfold lineP0; rw [if_neg (by rw [c1]; simp), if_pos ⟨c2, hv2⟩]
      refine zi (x := .bool _) Z ?_
      exact ⟨(i90, jl, ji), by rw [hr]; rfl, by rw [hr]; exact pvar_fin⟩
    ·have hr : lineP0 ⟨params, vars, [], none⟩ w = none := by unfold lineP0; rw [if_neg (by rw [c1]; simp), if_neg (by rw [c2]; simp)]
     refine zf<|zSr<|zVzAb Z<|z6<|ze<|zi (x := .bool _) Z ?_
     exact ⟨(jv, jl, ji), by rw [hr]; rfl, by rw [hr]; rfl⟩
theorem pline_spec {p : Nat} {q : Nat × Nat × Nat} (S : PProg) (hinv : S.cur = none → S.done = []) (w : List ByteArray) (hd : S.done.length ≤ 100000) (hit : ∀ b, S.cur = some b → b.2.length ≤ 100000) (hv : S.vars.length ≤ 1000000000) (hw : 0 < w.length) (hl : w.length ≤ 100000) (hs : ∀ x ∈ w, x.size ≤ 100000) (hL : Letters E) (hT : Pows E) (hV : Vars0 E) :
  ACall prog E 59 [.po p 0, .fro 1 (w.map encS)] (progO p q S)
   (fun x O' => ∃ q' : Nat × Nat × Nat, x = .bool (lineP S w).isSome ∧ O' = progO p q' ((lineP S w).getD S)) := by
 unfold lineP
 cases hc : S.cur with
 | none => exact pline0_spec S hc (hinv hc) w hv hw hl hs hL hV
 | some b => exact pline1_spec S b.1 b.2 hc w hd (hit b hc) hw hl hs hL hT hV
end Go.Proofs.YtbkgklpihnfnjaaGreatDoor
