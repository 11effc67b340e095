/- Programs, out of what a call is handed; the tables, out of what is laid. No conditions. -/
import Derived.Test.YtlfhoiakmbcnlaaDoorPj
import Derived.Test.YtlfhoiakmbcnlaaDoorBg
import Derived.Lib.LaidRTab
namespace Go.Proofs.YtlfhoiakmbcnlaaDoor
open Go.Proofs Go.Lib Go.Shelf Go.RowKit Go.WideShapes

set_option maxRecDepth 20000
variable {W : World}

theorem decI : Dec Tryd.prog W 3 encI (fun x => (Lit.int .i64 x).wf = true) := Dec.int Tryd.underlying3
theorem decIs : Dec Tryd.prog W 23 (fun l : List Int => [.fro 1 (l.map encI)]) wL := fun en held fuel cs x h => by
  obtain ⟨l, hl, r⟩ := Dec.slice (k := 1) Tryd.underlying23 decI (by kernel_rfl) (by decide) en held fuel cs x h
  exact ⟨l, hl.2, r⟩
theorem decVar : Dec Tryd.prog W 47 encVar (fun _ => True) := fun en held fuel cs x h => by
  obtain ⟨xs, n, _, _, hl, hxl, hf⟩ := DataW.trod_struct Tryd.underlying47 h
  have hl : cs.length = 2 := hl.trans (by kernel_rfl)
  have hxl : xs.length = 2 := hxl
  obtain ⟨a, _, ra⟩ := Dec.at (o := 0) (k := 1) (hf 0 _ rfl) (Dec.str Tryd.underlying9) (by omega) rfl (by kernel_rfl)
  obtain ⟨b, _, rb⟩ := Dec.at (o := 1) (k := 1) (hf 1 _ rfl) (Dec.int Tryd.underlying45) (by omega) rfl (by kernel_rfl)
  exact ⟨⟨a, b⟩, trivial, RepL.fld (o := 0) ra (RepL.fld rb (RepL.fin hl))⟩
theorem decPhi : Dec Tryd.prog W 44 encPhi wPhi := fun en held fuel cs x h => by
  obtain ⟨xs, n, _, _, hl, hxl, hf⟩ := DataW.trod_struct Tryd.underlying44 h
  have hl : cs.length = 3 := hl.trans (by kernel_rfl)
  have hxl : xs.length = 3 := hxl
  obtain ⟨a, _, ra⟩ := Dec.at (o := 0) (k := 1) (hf 0 _ rfl) decI (by omega) rfl (by kernel_rfl)
  obtain ⟨b, hb, rb⟩ := Dec.at (o := 1) (k := 1) (hf 1 _ rfl) decIs (by omega) rfl (by kernel_rfl)
  obtain ⟨c, hc, rc⟩ := Dec.at (o := 2) (k := 1) (hf 2 _ rfl) decIs (by omega) rfl (by kernel_rfl)
  exact ⟨⟨a, b, c⟩, ⟨hb, hc⟩, RepL.fld (o := 0) ra (RepL.fld rb (RepL.fld rc (RepL.fin hl)))⟩
def wInst (x : PInst) : Prop := wL x.args ∧ (Lit.int .i64 x.num).wf = true
theorem decInst : Dec Tryd.prog W 42 encInst wInst := fun en held fuel cs x h => by
  obtain ⟨xs, n, _, _, hl, hxl, hf⟩ := DataW.trod_struct Tryd.underlying42 h
  have hl : cs.length = 4 := hl.trans (by kernel_rfl)
  have hxl : xs.length = 4 := hxl
  obtain ⟨a, _, ra⟩ := Dec.at (o := 0) (k := 1) (hf 0 _ rfl) (Dec.int Tryd.underlying40) (by omega) rfl (by kernel_rfl)
  obtain ⟨b, _, rb⟩ := Dec.at (o := 1) (k := 1) (hf 1 _ rfl) decI (by omega) rfl (by kernel_rfl)
  obtain ⟨c, hc, rc⟩ := Dec.at (o := 2) (k := 1) (hf 2 _ rfl) decIs (by omega) rfl (by kernel_rfl)
  obtain ⟨d, hd, rd⟩ := Dec.at (o := 3) (k := 1) (hf 3 _ rfl) (Dec.int Tryd.underlying2) (by omega) rfl (by kernel_rfl)
  exact ⟨⟨a, b, c, d⟩, ⟨hc, hd⟩, RepL.fld (o := 0) ra (RepL.fld rb (RepL.fld rc (RepL.fld rd (RepL.fin hl))))⟩
theorem decTerm : Dec Tryd.prog W 37 encTerm (fun _ => True) := fun en held fuel cs x h => by
  obtain ⟨xs, n, _, _, hl, hxl, hf⟩ := DataW.trod_struct Tryd.underlying37 h
  have hl : cs.length = 4 := hl.trans (by kernel_rfl)
  have hxl : xs.length = 3 := hxl
  obtain ⟨a, _, ra⟩ := Dec.at (o := 0) (k := 1) (hf 0 _ rfl) (Dec.int Tryd.underlying34) (by omega) rfl (by kernel_rfl)
  obtain ⟨b, _, rb⟩ := Dec.at (o := 1) (k := 1) (hf 1 _ rfl) decI (by omega) rfl (by kernel_rfl)
  obtain ⟨c, _, rc⟩ := Dec.at (o := 2) (k := 2) (hf 2 _ rfl) (Dec.pair (k := 1) Tryd.underlying35 decI (by kernel_rfl) (by kernel_rfl)) (by omega) rfl (by kernel_rfl)
  exact ⟨⟨a, b, c.1, c.2⟩, trivial, RepL.fld (o := 0) ra (RepL.fld rb (RepL.fld rc (RepL.fin hl)))⟩
theorem decBlk : Dec Tryd.prog W 39 encBlk wBlk := fun en held fuel cs x h => by
  obtain ⟨xs, n, _, _, hl, hxl, hf⟩ := DataW.trod_struct Tryd.underlying39 h
  have hl : cs.length = 7 := hl.trans (by kernel_rfl)
  have hxl : xs.length = 4 := hxl
  obtain ⟨a, _, ra⟩ := Dec.at (o := 0) (k := 1) (hf 0 _ rfl) (Dec.str Tryd.underlying9) (by omega) rfl (by kernel_rfl)
  obtain ⟨b, hb, rb⟩ := Dec.at (o := 1) (k := 1) (hf 1 _ rfl) (Dec.slice (k := 3) Tryd.underlying32 decPhi (by kernel_rfl) (by decide)) (by omega) rfl (by kernel_rfl)
  obtain ⟨c, hc, rc⟩ := Dec.at (o := 2) (k := 1) (hf 2 _ rfl) (Dec.slice (k := 4) Tryd.underlying33 decInst (by kernel_rfl) (by decide)) (by omega) rfl (by kernel_rfl)
  obtain ⟨d, _, rd⟩ := Dec.at (o := 3) (k := 4) (hf 3 _ rfl) decTerm (by omega) rfl (by kernel_rfl)
  exact ⟨⟨a, b, c, d⟩, ⟨hb.2, hc.2, hb.1, fun x hx => (hc.1 x hx).1⟩, RepL.fld (o := 0) ra (RepL.fld rb (RepL.fld rc (RepL.fld rd (RepL.fin hl))))⟩
theorem decF : Dec Tryd.prog W 26 encF wFunc := fun en held fuel cs x h => by
  obtain ⟨xs, n, _, _, hl, hxl, hf⟩ := DataW.trod_struct Tryd.underlying26 h
  have hl : cs.length = 3 := hl.trans (by kernel_rfl)
  have hxl : xs.length = 3 := hxl
  obtain ⟨a, ha, ra⟩ := Dec.at (o := 0) (k := 1) (hf 0 _ rfl) (Dec.slice (k := 2) Tryd.underlying22 decVar (by kernel_rfl) (by decide)) (by omega) rfl (by kernel_rfl)
  obtain ⟨b, hb, rb⟩ := Dec.at (o := 1) (k := 1) (hf 1 _ rfl) decIs (by omega) rfl (by kernel_rfl)
  obtain ⟨c, hc, rc⟩ := Dec.at (o := 2) (k := 1) (hf 2 _ rfl) (Dec.slice (k := 7) Tryd.underlying24 decBlk (by kernel_rfl) (by decide)) (by omega) rfl (by kernel_rfl)
  exact ⟨⟨a, b, c⟩, ⟨ha.2, hb, hc.2, hc.1⟩, RepL.fld (o := 0) ra (RepL.fld rb (RepL.fld rc (RepL.fin hl)))⟩

/-- A struct that a call is handed. -/
theorem of_struct {H : Type} {enc : TypeId × Value → H} {held : Bool} {α : Type} {T : TypeId} {e : α → List AV} {ok : α → Prop} {fs : Array Field} {base : Nat} {v : Value} {d : DataW H} {p : List MemPlace} (hd : Dec Tryd.prog W T e ok) (ht : Tryd.prog.underlying T = some (.struct fs))
    (hv : Value.okWide Tryd.prog W .any base T v) (h : DataW.Trod enc Tryd.prog W 0 (fun _ => true) held T v d p) : ∃ a, ok a ∧ RepV (I0 W) (.agg (e a)) v := by
  obtain ⟨cs, rfl, _⟩ := okWide_struct ht hv
  obtain ⟨fuel, h⟩ := h
  obtain ⟨a, h1, h2⟩ := hd enc held fuel _ _ h
  exact ⟨a, h1, cs.toList, by simp, h2⟩

theorem xTab : RExtra Tryd.prog Tryd.lays200_ren := ⟨by kernel_rfl, by kernel_rfl, by kernel_rfl, by kernel_rfl, by kernel_rfl, by kernel_rfl, by kernel_rfl, by kernel_rfl⟩
theorem pows_of (h : Lib.VarReads Tryd.prog W "internal/strconv.uint64pow10" (Lib.tabData .u64 Lib.pow10Tab)) : Pows W :=
  tabIs_of_reads (g := 2) (by kernel_rfl) (by kernel_rfl) Tryd.underlying116 Tryd.underlying75 (by kernel_rfl) (by kernel_rfl) h
theorem letters_of (h : Lib.VarReads Tryd.prog W "unicode.properties" (Lib.tabData .u8 Lib.propertiesTab)) (h2 : Lib.VarReads Tryd.prog W "unicode.Letter" (Lib.rtabData letterT)) : Letters W :=
  ⟨tabIs_of_reads (g := 0) (by kernel_rfl) (by kernel_rfl) Tryd.underlying110 Tryd.underlying5 (by kernel_rfl) (by kernel_rfl) h,
   rvar_of_reads { Tryd.lays200 with } xTab (name := "unicode.Letter") (g := 1) (by kernel_rfl) (by kernel_rfl) h2⟩
end Go.Proofs.YtlfhoiakmbcnlaaDoor
