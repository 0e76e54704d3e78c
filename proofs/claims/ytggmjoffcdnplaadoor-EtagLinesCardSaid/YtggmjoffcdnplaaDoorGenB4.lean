/- A part of the proof of laws of the seat: written by program over the translation. -/
import Derived.Test.YtggmjoffcdnplaaDoorGenB3
namespace Go.Proofs
open Go.Eng Go.Eng.Pure
set_option linter.unusedVariables false
set_option maxHeartbeats 4000000 in
theorem strings_CutPrefix_ok {w0 : World} {H0 : Hp} (hw : Holds w0 H0) (p_s : Str) (p_prefix : Str) {r : (Str × Bool)} (h : strings_CutPrefix p_s p_prefix = some r) :
    Con Tryd.prog 66 [(str p_s), (str p_prefix)] w0 H0 (fun H' v => v = (.tuple ⟨[(str r.1), (boo r.2)]⟩)) := by
  refine Con.mk (N := 11) Tryd.func66 rfl rfl (by kernel_rfl) rfl ?_
  have S := St.start hw
  refine WP.seq ?_
  refine WP.region ?_
  refine WL.valw (R.as (v := (str [])) rfl) ?_
  refine WL.valw (R.as (v := (boo false)) rfl) ?_
  refine WL.nil ?_
  refine WP.seq ?_
  refine WP.region ?_
  refine WL.valw (R.mv (v := (str p_s)) rfl) ?_
  refine WL.valw (R.mv (v := (str p_prefix)) rfl) ?_
  obtain ⟨r1, hr1, h⟩ := bindE h
  refine W.call S rfl (stringslite_CutPrefix_ok S.holds p_s p_prefix hr1) ?_
  rintro v2 w3 H4 hle5 S rfl
  refine WL.valw (R.ext rfl rfl) ?_
  refine WL.valw (R.ext rfl rfl) ?_
  refine WL.valw (R.as (v := (str r1.1)) rfl) ?_
  refine WL.valw (R.as (v := (boo r1.2)) rfl) ?_
  refine WL.nil ?_
  obtain rfl := Option.some.inj h
  refine WP.ret (Out.two rfl S rfl rfl ?_)
  exact rfl
set_option maxHeartbeats 4000000 in
theorem etag_permitted_ok {w0 : World} {H0 : Hp} (hw : Holds w0 H0) (p_s : Str) {r : Bool} (h : etag_permitted p_s = some r) :
    Con Tryd.prog 67 [(str p_s)] w0 H0 (fun H' v => v = (boo r)) := by
  refine Con.mk (N := 24) Tryd.func67 rfl rfl (by kernel_rfl) rfl ?_
  have S := St.start hw
  refine WP.seq ?_
  refine WP.region ?_
  refine WL.valw (R.as (v := (boo false)) rfl) ?_
  refine WL.nil ?_
  refine WP.seq ?_
  refine WP.seq ?_
  refine WP.region ?_
  refine WL.valw (R.mv (v := (str p_s)) rfl) ?_
  refine WL.valw (R.lenS (a := p_s) rfl Tryd.underlying9) ?_
  refine WL.valw (R.mv (v := (int 0)) rfl) ?_
  refine WL.nil ?_
  obtain ⟨r10, hr11, h⟩ := bindE h
  refine WP.cut (fun f w => match r10 with | .inl _ => ∃ (H6 : Hp), St w0 H0 w H6 [] | .inr _ => False) ?_ ?_
  · refine WP.block ?_
    refine WP.loopM (etag_permitted_L0 p_s) (fun s f w => match s with | y_4 => ∃ (H1 : Hp), f 0 = (str p_s) ∧ f 6 = (int (p_s.length : Int)) ∧ f 7 = (int y_4) ∧ St w0 H0 w H1 []) 0 r10 hr11 ?_ ?_
    · exact ⟨H0, rfl, rfl, rfl, S⟩
    · intro y_4 f w hI y7 hy8 hy9
      obtain ⟨H1, h2, h3, h5, S⟩ := hI
      refine WP.seq ?_
      refine WP.region ?_
      refine WL.valw (R.lss h5 h3) ?_
      refine WL.nil ?_
      refine WP.seq ?_
      rcases condE hy8 with ⟨hc12, hy8⟩ | ⟨hc12, hy8⟩
      · refine WP.condT rfl hc12 ?_
        refine WP.skip ?_
        refine WP.seq ?_
        refine WP.block ?_
        refine WP.seq ?_
        refine WP.region ?_
        refine WL.valw (R.mv (v := (int y_4)) h5) ?_
        refine WL.valw (R.as (v := (int y_4)) rfl) ?_
        refine WL.nil ?_
        refine WP.seq ?_
        refine WP.region ?_
        refine WL.valw (R.mv (v := (str p_s)) h2) ?_
        refine WL.valw (R.mv (v := (int y_4)) rfl) ?_
        obtain ⟨c13, hc13, hy8⟩ := bindE hy8
        refine WL.valw (R.idxS rfl rfl Tryd.underlying9 hc13) ?_
        refine WL.valw (R.as (v := (byt c13)) rfl) ?_
        refine WL.nil ?_
        refine WP.seq ?_
        refine WP.region ?_
        refine WL.valw (R.mv (v := (byt c13)) rfl) ?_
        refine WL.valw (R.lss8 (a := c13) (b := 33) rfl rfl) ?_
        refine WL.valw (R.mv (v := (boo (decide (c13 < 33)))) rfl) ?_
        refine WL.grp 3 [16, 17] 18 (boo ((decide (c13 < 33)) || (c13 == 34))) ?_ ?_
        · rcases boolE (decide (c13 < 33)) with hb14 | hb14
          · refine WL.gno rfl rfl hb14 ?_
            refine WL.gno rfl rfl hb14 ?_
            refine WL.valw (R.pickT rfl hb14 rfl) ?_
            exact WL.nil ⟨(orT hb14), (by repeat (first | refine agree_upd rfl ?_ | refine agree_upds' rfl ?_ | exact agree_refl)), rfl⟩
          · refine WL.gyes rfl rfl hb14 ?_
            refine WL.valw (R.mv (v := (byt c13)) rfl) ?_
            refine WL.gyes rfl rfl hb14 ?_
            refine WL.valw (R.eql8 (a := c13) (b := 34) rfl rfl) ?_
            refine WL.valw (R.pickF rfl hb14 rfl) ?_
            exact WL.nil ⟨(orF hb14), (by repeat (first | refine agree_upd rfl ?_ | refine agree_upds' rfl ?_ | exact agree_refl)), rfl⟩
        · intro us
          refine WL.valw (R.mv (v := (boo ((decide (c13 < 33)) || (c13 == 34)))) rfl) ?_
          refine WL.grp 3 [20, 21] 22 (boo (((decide (c13 < 33)) || (c13 == 34)) || (c13 == 127))) ?_ ?_
          · rcases boolE ((decide (c13 < 33)) || (c13 == 34)) with hb16 | hb16
            · refine WL.gno rfl rfl hb16 ?_
              refine WL.gno rfl rfl hb16 ?_
              refine WL.valw (R.pickT rfl hb16 rfl) ?_
              exact WL.nil ⟨(orT hb16), (by repeat (first | refine agree_upd rfl ?_ | refine agree_upds' rfl ?_ | exact agree_refl)), rfl⟩
            · refine WL.gyes rfl rfl hb16 ?_
              refine WL.valw (R.mv (v := (byt c13)) rfl) ?_
              refine WL.gyes rfl rfl hb16 ?_
              refine WL.valw (R.eql8 (a := c13) (b := 127) rfl rfl) ?_
              refine WL.valw (R.pickF rfl hb16 rfl) ?_
              exact WL.nil ⟨(orF hb16), (by repeat (first | refine agree_upd rfl ?_ | refine agree_upds' rfl ?_ | exact agree_refl)), rfl⟩
          · intro us
            refine WL.nil ?_
            rcases condE hy8 with ⟨hc18, hy8⟩ | ⟨hc18, hy8⟩
            · refine WP.condT rfl hc18 ?_
              refine WP.seq ?_
              refine WP.region ?_
              refine WL.valw (R.as (v := (boo false)) rfl) ?_
              refine WL.nil ?_
              obtain rfl := Option.some.inj hy8
              obtain rfl := hy9
              obtain rfl := Option.some.inj h
              refine WP.ret (Out.one rfl S rfl ?_)
              exact rfl
            · refine WP.condF rfl hc18 ?_
              refine WP.skip ?_
              refine WP.region ?_
              refine WL.valw (R.add h5 rfl) ?_
              refine WL.valw (R.mv (v := (int (wr (y_4 + 1)))) rfl) ?_
              refine WL.nil ?_
              obtain rfl := Option.some.inj hy8
              exact ⟨rfl, ⟨H1, h2, h3, rfl, S⟩⟩
      · refine WP.condF rfl hc12 ?_
        refine WP.exit ?_
        obtain rfl := Option.some.inj hy8
        obtain rfl := hy9
        exact ⟨H1, S⟩
  · intro f w hM
    rcases r10 with _ | e
    · obtain ⟨H6, S⟩ := hM
      refine WP.seq ?_
      refine WP.region ?_
      refine WL.valw (R.as (v := (boo true)) rfl) ?_
      refine WL.nil ?_
      obtain rfl := Option.some.inj h
      refine WP.ret (Out.one rfl S rfl ?_)
      exact rfl
    · exact hM.elim
set_option maxHeartbeats 4000000 in
theorem etag_Parse_ok {w0 : World} {H0 : Hp} (hw : Holds w0 H0) (p_s : Str) {r : (GETag × Bool)} (h : etag_Parse p_s = some r) :
    Con Tryd.prog 49 [(str p_s)] w0 H0 (fun H' v => v = (.tuple ⟨[(agg [(boo r.1.fWeak), (str r.1.fTag)]), (boo r.2)]⟩)) := by
  refine Con.mk (N := 43) Tryd.func49 rfl rfl (by kernel_rfl) rfl ?_
  have S := St.start hw
  refine WP.seq ?_
  refine WP.region ?_
  refine W.alloc [(boo false), (str [])] S zer45 ?_
  intro b1 w2 S
  refine WL.valw (R.as (v := (boo false)) rfl) ?_
  refine WL.nil ?_
  refine WP.seq ?_
  refine WP.region ?_
  refine WL.valw (R.mv (v := (str p_s)) rfl) ?_
  obtain ⟨r3, hr3, h⟩ := bindE h
  refine W.call S rfl (strings_CutPrefix_ok S.holds p_s [87, 47] hr3) ?_
  rintro v4 w5 H6 hle7 S rfl
  refine WL.valw (R.mv (v := (.tuple ⟨[(str r3.1), (boo r3.2)]⟩)) rfl) ?_
  refine WL.valw (R.ext rfl rfl) ?_
  refine WL.valw (R.ext rfl rfl) ?_
  refine WL.valw (R.as (v := (str r3.1)) rfl) ?_
  refine WL.valw (R.as (v := (boo r3.2)) rfl) ?_
  refine WL.nil ?_
  refine WP.seq ?_
  refine WP.seq ?_
  refine WP.region ?_
  refine WL.valw (R.mv (v := (str r3.1)) rfl) ?_
  refine WL.valw (R.lenS (a := r3.1) rfl Tryd.underlying9) ?_
  refine WL.valw (R.lss rfl rfl) ?_
  refine WL.valw (R.mv (v := (boo (decide ((r3.1.length : Int) < 2)))) rfl) ?_
  obtain ⟨b11, hg9, h⟩ := bindE h
  refine WL.grp 4 [14, 15, 16] 17 (boo b11) ?_ ?_
  · rcases boolE (decide ((r3.1.length : Int) < 2)) with hb8 | hb8
    · replace hg9 := condT hg9 hb8
      refine WL.gno rfl rfl hb8 ?_
      refine WL.gno rfl rfl hb8 ?_
      refine WL.gno rfl rfl hb8 ?_
      refine WL.valw (R.pickT rfl hb8 rfl) ?_
      exact WL.nil ⟨(congrArg boo (Option.some.inj hg9)), (by repeat (first | refine agree_upd rfl ?_ | refine agree_upds' rfl ?_ | exact agree_refl)), rfl⟩
    · replace hg9 := condF hg9 hb8
      refine WL.gyes rfl rfl hb8 ?_
      refine WL.valw (R.mv (v := (str r3.1)) rfl) ?_
      refine WL.gyes rfl rfl hb8 ?_
      obtain ⟨c10, hc10, hg9⟩ := bindE hg9
      refine WL.valw (R.idxS rfl rfl Tryd.underlying9 hc10) ?_
      refine WL.gyes rfl rfl hb8 ?_
      refine WL.valw (R.neq8 (a := c10) (b := 34) rfl rfl) ?_
      refine WL.valw (R.pickF rfl hb8 rfl) ?_
      exact WL.nil ⟨(congrArg boo (Option.some.inj hg9)), (by repeat (first | refine agree_upd rfl ?_ | refine agree_upds' rfl ?_ | exact agree_refl)), rfl⟩
  · intro us
    refine WL.valw (R.mv (v := (boo b11)) rfl) ?_
    obtain ⟨b15, hg13, h⟩ := bindE h
    refine WL.grp 7 [19, 20, 21, 22, 23, 24] 25 (boo b15) ?_ ?_
    · rcases boolE b11 with hb12 | hb12
      · replace hg13 := condT hg13 hb12
        refine WL.gno rfl rfl hb12 ?_
        refine WL.gno rfl rfl hb12 ?_
        refine WL.gno rfl rfl hb12 ?_
        refine WL.gno rfl rfl hb12 ?_
        refine WL.gno rfl rfl hb12 ?_
        refine WL.gno rfl rfl hb12 ?_
        refine WL.valw (R.pickT rfl hb12 rfl) ?_
        exact WL.nil ⟨(congrArg boo (Option.some.inj hg13)), (by repeat (first | refine agree_upd rfl ?_ | refine agree_upds' rfl ?_ | exact agree_refl)), rfl⟩
      · replace hg13 := condF hg13 hb12
        refine WL.gyes rfl rfl hb12 ?_
        refine WL.valw (R.mv (v := (str r3.1)) rfl) ?_
        refine WL.gyes rfl rfl hb12 ?_
        refine WL.valw (R.mv (v := (str r3.1)) rfl) ?_
        refine WL.gyes rfl rfl hb12 ?_
        refine WL.valw (R.lenS (a := r3.1) rfl Tryd.underlying9) ?_
        refine WL.gyes rfl rfl hb12 ?_
        refine WL.valw (R.sub rfl rfl) ?_
        refine WL.gyes rfl rfl hb12 ?_
        obtain ⟨c14, hc14, hg13⟩ := bindE hg13
        refine WL.valw (R.idxS rfl rfl Tryd.underlying9 hc14) ?_
        refine WL.gyes rfl rfl hb12 ?_
        refine WL.valw (R.neq8 (a := c14) (b := 34) rfl rfl) ?_
        refine WL.valw (R.pickF rfl hb12 rfl) ?_
        exact WL.nil ⟨(congrArg boo (Option.some.inj hg13)), (by repeat (first | refine agree_upd rfl ?_ | refine agree_upds' rfl ?_ | exact agree_refl)), rfl⟩
    · intro us
      refine WL.valw (R.mv (v := (boo b15)) rfl) ?_
      obtain ⟨b24, hg17, h⟩ := bindE h
      refine WL.grpw 8 [27, 28, 29, 30, 31, 32, 33] 34 (boo b24) (fun w => ∃ H' : Hp, H6.le H' ∧ St w0 H0 w H' [.box b1 45 [(boo false), (str [])]]) ?_ ?_
      · rcases boolE b15 with hb16 | hb16
        · replace hg17 := condT hg17 hb16
          refine WL.gno rfl rfl hb16 ?_
          refine WL.gno rfl rfl hb16 ?_
          refine WL.gno rfl rfl hb16 ?_
          refine WL.gno rfl rfl hb16 ?_
          refine WL.gno rfl rfl hb16 ?_
          refine WL.gno rfl rfl hb16 ?_
          refine WL.gno rfl rfl hb16 ?_
          refine WL.valw (R.pickT rfl hb16 rfl) ?_
          exact WL.nil ⟨(congrArg boo (Option.some.inj hg17)), (by repeat (first | refine agree_upd rfl ?_ | refine agree_upds' rfl ?_ | exact agree_refl)), ⟨H6, (Hp.le.refl _), S⟩⟩
        · replace hg17 := condF hg17 hb16
          refine WL.gyes rfl rfl hb16 ?_
          refine WL.valw (R.mv (v := (str r3.1)) rfl) ?_
          refine WL.gyes rfl rfl hb16 ?_
          refine WL.valw (R.mv (v := (str r3.1)) rfl) ?_
          refine WL.gyes rfl rfl hb16 ?_
          refine WL.valw (R.lenS (a := r3.1) rfl Tryd.underlying9) ?_
          refine WL.gyes rfl rfl hb16 ?_
          refine WL.valw (R.sub rfl rfl) ?_
          refine WL.gyes rfl rfl hb16 ?_
          obtain ⟨s18, hs18, hg17⟩ := bindE hg17
          refine WL.valw (R.subS rfl rfl rfl Tryd.underlying9 hs18) ?_
          refine WL.gyes rfl rfl hb16 ?_
          obtain ⟨r19, hr19, hg17⟩ := bindE hg17
          refine W.call S rfl (etag_permitted_ok S.holds s18 hr19) ?_
          rintro v20 w21 H22 hle23 S rfl
          refine WL.gyes rfl rfl hb16 ?_
          refine WL.valw (R.not rfl) ?_
          refine WL.valw (R.pickF rfl hb16 rfl) ?_
          exact WL.nil ⟨(congrArg boo (Option.some.inj hg17)), (by repeat (first | refine agree_upd rfl ?_ | refine agree_upds' rfl ?_ | exact agree_refl)), ⟨H22, hle23, S⟩⟩
      · intro us w26 ⟨H25, hle27, S⟩
        refine WL.nil ?_
        rcases condE h with ⟨hc28, h⟩ | ⟨hc28, h⟩
        · refine WP.condT rfl hc28 ?_
          refine WP.seq ?_
          refine WP.region ?_
          refine WL.valw (R.build [] [(boo false), (str [])] bp45 zer45 rfl rfl) ?_
          refine W.store (i := 0) [(boo false), (str [])] S rfl rfl rfl lay45 rfl rfl (Nat.le_of_ble_eq_true rfl) rfl ?_
          intro w29 S
          refine WL.valw (R.as (v := (boo false)) rfl) ?_
          refine WL.nil ?_
          obtain rfl := Option.some.inj h
          refine WP.ret (Out.two rfl S (Res.cellB (i := 0) (cs := [(boo false), (str [])]) S rfl rfl lay45 rfl rfl) rfl ?_)
          exact rfl
        · refine WP.condF rfl hc28 ?_
          refine WP.skip ?_
          refine WP.seq ?_
          refine WP.region ?_
          refine WL.valw (R.mv (v := (boo r3.2)) rfl) ?_
          refine WL.valw (R.mv (v := (str r3.1)) rfl) ?_
          refine WL.valw (R.mv (v := (str r3.1)) rfl) ?_
          refine WL.valw (R.lenS (a := r3.1) rfl Tryd.underlying9) ?_
          refine WL.valw (R.sub rfl rfl) ?_
          obtain ⟨s30, hs30, h⟩ := bindE h
          refine WL.valw (R.subS rfl rfl rfl Tryd.underlying9 hs30) ?_
          refine WL.valw (R.build [(0, (boo r3.2)), (1, (str s30))] [(boo r3.2), (str s30)] bp45 zer45 rfl rfl) ?_
          refine W.store (i := 0) [(boo r3.2), (str s30)] S rfl rfl rfl lay45 rfl rfl (Nat.le_of_ble_eq_true rfl) rfl ?_
          intro w31 S
          refine WL.valw (R.as (v := (boo true)) rfl) ?_
          refine WL.nil ?_
          obtain rfl := Option.some.inj h
          refine WP.ret (Out.two rfl S (Res.cellB (i := 0) (cs := [(boo r3.2), (str s30)]) S rfl rfl lay45 rfl rfl) rfl ?_)
          exact rfl
set_option maxHeartbeats 4000000 in
theorem etag_List_ok {w0 : World} {H0 : Hp} (hw : Holds w0 H0) (p_l : (List GField)) (p_name : Str) {vp_l : Value} (Rp_l : Sl (α := GField) H0 vp_l p_l) {r : ((List GETag) × Bool × Bool)} (h : etag_List p_l p_name = some r) :
    Con Tryd.prog 31 [vp_l, (str p_name)] w0 H0 (fun H' v => ∃ u1 : Value, v = (.tuple ⟨[u1, (boo r.2.1), (boo r.2.2)]⟩) ∧ Sl (α := GETag) H' u1 r.1) := by
  refine Con.mk (N := 52) Tryd.func31 rfl rfl (by kernel_rfl) rfl ?_
  have S := St.start hw
  refine WP.seq ?_
  refine WP.region ?_
  refine WL.valw (R.as (v := (.slice none 0 0)) rfl) ?_
  refine WL.valw (R.as (v := (boo false)) rfl) ?_
  refine WL.valw (R.as (v := (boo false)) rfl) ?_
  refine WL.nil ?_
  refine WP.seq ?_
  refine WP.region ?_
  refine WL.valw (R.mv (v := vp_l) rfl) ?_
  refine WL.valw (R.mv (v := (str p_name)) rfl) ?_
  obtain ⟨r1, hr1, h⟩ := bindE h
  refine W.call S rfl (list_All_ok S.holds p_l p_name Rp_l hr1) ?_
  rintro v2 w3 H4 hle5 S R6
  have Rp_l := Sl.mono Rp_l hle5
  refine WL.valw (R.as (v := v2) rfl) ?_
  refine WL.nil ?_
  refine WP.seq ?_
  refine WP.seq ?_
  refine WP.region ?_
  refine WL.valw (R.mv (v := v2) rfl) ?_
  refine WL.valw (R.lenL (α := Str) (xs := r1) (H := H4) R6 rfl Tryd.underlying31) ?_
  refine WL.valw (R.eql rfl rfl) ?_
  refine WL.valw (R.mv (v := (boo ((r1.length : Int) == 1))) rfl) ?_
  obtain ⟨b12, hg8, h⟩ := bindE h
  refine WL.grp 5 [20, 21, 22, 23] 24 (boo b12) ?_ ?_
  · rcases boolE ((r1.length : Int) == 1) with hb7 | hb7
    · replace hg8 := condT hg8 hb7
      refine WL.gyes rfl rfl hb7 ?_
      refine WL.valw (R.mv (v := v2) rfl) ?_
      refine WL.gyes rfl rfl hb7 ?_
      obtain ⟨x9, hx9, hg8⟩ := bindE hg8
      refine W.idx (α := Str) R6 rfl rfl el31 hx9 ?_
      rintro a10 _ hA11 rfl
      refine WL.gyes rfl rfl hb7 ?_
      refine WL.valw (R.loadH (v := (str x9)) S rfl hA11 lay9 rfl) ?_
      refine WL.gyes rfl rfl hb7 ?_
      refine WL.valw (R.eqlS (a := x9) (b := [42]) rfl rfl) ?_
      refine WL.valw (R.pickT rfl hb7 rfl) ?_
      exact WL.nil ⟨(congrArg boo (Option.some.inj hg8)), (by repeat (first | refine agree_upd rfl ?_ | refine agree_upds' rfl ?_ | exact agree_refl)), rfl⟩
    · replace hg8 := condF hg8 hb7
      refine WL.gno rfl rfl hb7 ?_
      refine WL.gno rfl rfl hb7 ?_
      refine WL.gno rfl rfl hb7 ?_
      refine WL.gno rfl rfl hb7 ?_
      refine WL.valw (R.pickF rfl hb7 rfl) ?_
      exact WL.nil ⟨(congrArg boo (Option.some.inj hg8)), (by repeat (first | refine agree_upd rfl ?_ | refine agree_upds' rfl ?_ | exact agree_refl)), rfl⟩
  · intro us
    refine WL.nil ?_
    rcases condE h with ⟨hc13, h⟩ | ⟨hc13, h⟩
    · refine WP.condT rfl hc13 ?_
      refine WP.seq ?_
      refine WP.region ?_
      refine WL.valw (R.as (v := (.slice none 0 0)) rfl) ?_
      refine WL.valw (R.as (v := (boo true)) rfl) ?_
      refine WL.valw (R.as (v := (boo true)) rfl) ?_
      refine WL.nil ?_
      obtain rfl := Option.some.inj h
      refine WP.ret (Out.three rfl S rfl rfl rfl ?_)
      exact ⟨_, rfl, Sl.nil⟩
    · refine WP.condF rfl hc13 ?_
      refine WP.skip ?_
      refine WP.seq ?_
      refine WP.seq ?_
      refine WP.region ?_
      refine WL.valw (R.mv (v := v2) rfl) ?_
      refine WL.valw (R.lenL (α := Str) (xs := r1) (H := H4) R6 rfl Tryd.underlying31) ?_
      refine WL.valw (R.eql rfl rfl) ?_
      refine WL.valw (R.mv (v := (boo ((r1.length : Int) == 0))) rfl) ?_
      refine WL.grp 4 [29, 30, 31] 32 (boo (((r1.length : Int) == 0) || (decide (64 ≤ (r1.length : Int))))) ?_ ?_
      · rcases boolE ((r1.length : Int) == 0) with hb14 | hb14
        · refine WL.gno rfl rfl hb14 ?_
          refine WL.gno rfl rfl hb14 ?_
          refine WL.gno rfl rfl hb14 ?_
          refine WL.valw (R.pickT rfl hb14 rfl) ?_
          exact WL.nil ⟨(orT hb14), (by repeat (first | refine agree_upd rfl ?_ | refine agree_upds' rfl ?_ | exact agree_refl)), rfl⟩
        · refine WL.gyes rfl rfl hb14 ?_
          refine WL.valw (R.mv (v := v2) rfl) ?_
          refine WL.gyes rfl rfl hb14 ?_
          refine WL.valw (R.lenL (α := Str) (xs := r1) (H := H4) R6 rfl Tryd.underlying31) ?_
          refine WL.gyes rfl rfl hb14 ?_
          refine WL.valw (R.geq rfl rfl) ?_
          refine WL.valw (R.pickF rfl hb14 rfl) ?_
          exact WL.nil ⟨(orF hb14), (by repeat (first | refine agree_upd rfl ?_ | refine agree_upds' rfl ?_ | exact agree_refl)), rfl⟩
      · intro us
        refine WL.nil ?_
        rcases condE h with ⟨hc16, h⟩ | ⟨hc16, h⟩
        · refine WP.condT rfl hc16 ?_
          refine WP.seq ?_
          refine WP.region ?_
          refine WL.valw (R.as (v := (.slice none 0 0)) rfl) ?_
          refine WL.valw (R.as (v := (boo false)) rfl) ?_
          refine WL.valw (R.as (v := (boo false)) rfl) ?_
          refine WL.nil ?_
          obtain rfl := Option.some.inj h
          refine WP.ret (Out.three rfl S rfl rfl rfl ?_)
          exact ⟨_, rfl, Sl.nil⟩
        · refine WP.condF rfl hc16 ?_
          refine WP.skip ?_
          refine WP.seq ?_
          refine WP.region ?_
          refine WL.valw (R.as (v := (.slice none 0 0)) rfl) ?_
          refine WL.nil ?_
          refine WP.seq ?_
          refine WP.seq ?_
          refine WP.region ?_
          refine WL.valw (R.mv (v := v2) rfl) ?_
          refine WL.valw (R.lenL (α := Str) (xs := r1) (H := H4) R6 rfl Tryd.underlying31) ?_
          refine WL.valw (R.mv (v := (int 0)) rfl) ?_
          refine WL.nil ?_
          have S := S.addNil 45 2
          obtain ⟨r34, hr35, h⟩ := bindE h
          refine WP.cut (fun f w => match r34 with | .inl out_27 => ∃ (H26 : Hp) (v28 : Value), f 8 = v28 ∧ Sl (α := GETag) H26 v28 out_27 ∧ St w0 H0 w H26 [.row v28 45 2 out_27.length] | .inr _ => False) ?_ ?_
          · refine WP.block ?_
            refine WP.loopM (etag_List_L0 r1) (fun s f w => match s with | (out_18, y_24) => ∃ (H17 : Hp) (v19 : Value), f 8 = v19 ∧ f 33 = v2 ∧ f 34 = (int (r1.length : Int)) ∧ f 35 = (int y_24) ∧ Sl (α := GETag) H17 v19 out_18 ∧ Sl (α := Str) H17 v2 r1 ∧ St w0 H0 w H17 [.row v19 45 2 out_18.length]) (([] : List GETag), 0) r34 hr35 ?_ ?_
            · exact ⟨H4, .slice none 0 0, rfl, rfl, rfl, rfl, Sl.nil, R6, S⟩
            · intro s f w hI y31 hy32 hy33
              obtain ⟨out_18, y_24⟩ := s
              obtain ⟨H17, v19, h21, h22, h23, h25, R20, R6, S⟩ := hI
              refine WP.seq ?_
              refine WP.region ?_
              refine WL.valw (R.lss h25 h23) ?_
              refine WL.nil ?_
              refine WP.seq ?_
              rcases condE hy32 with ⟨hc36, hy32⟩ | ⟨hc36, hy32⟩
              · refine WP.condT rfl hc36 ?_
                refine WP.skip ?_
                refine WP.seq ?_
                refine WP.block ?_
                refine WP.seq ?_
                refine WP.region ?_
                obtain ⟨x37, hx37, hy32⟩ := bindE hy32
                refine W.idx (α := Str) R6 h22 h25 el31 hx37 ?_
                rintro a38 _ hA39 rfl
                refine WL.valw (R.loadH (v := (str x37)) S rfl hA39 lay9 rfl) ?_
                refine WL.valw (R.as (v := (str x37)) rfl) ?_
                refine WL.nil ?_
                refine WP.seq ?_
                refine WP.region ?_
                refine WL.valw (R.mv (v := (str x37)) rfl) ?_
                obtain ⟨r40, hr40, hy32⟩ := bindE hy32
                refine W.call S rfl (etag_Parse_ok S.holds x37 hr40) ?_
                rintro v41 w42 H43 hle44 S rfl
                have R20 := Sl.mono R20 hle44
                have R6 := Sl.mono R6 hle44
                have hA39 := At.mono hA39 hle44 (by simp)
                refine WL.valw (R.mv (v := (.tuple ⟨[(agg [(boo r40.1.fWeak), (str r40.1.fTag)]), (boo r40.2)]⟩)) rfl) ?_
                refine WL.valw (R.ext rfl rfl) ?_
                refine WL.valw (R.ext rfl rfl) ?_
                refine W.alloc [(boo false), (str [])] S zer45 ?_
                intro b45 w46 S
                refine W.store (i := 0) [(boo r40.1.fWeak), (str r40.1.fTag)] S rfl rfl rfl lay45 rfl rfl (Nat.le_of_ble_eq_true rfl) rfl ?_
                intro w47 S
                refine WL.valw (R.as (v := (boo r40.2)) rfl) ?_
                refine WL.nil ?_
                refine WP.seq ?_
                refine WP.seq ?_
                refine WP.region ?_
                refine WL.valw (R.mv (v := (boo r40.2)) rfl) ?_
                refine WL.valw (R.not rfl) ?_
                refine WL.nil ?_
                rcases condE hy32 with ⟨hc48, hy32⟩ | ⟨hc48, hy32⟩
                · refine WP.condT rfl hc48 ?_
                  refine WP.seq ?_
                  refine WP.region ?_
                  refine WL.valw (R.as (v := (.slice none 0 0)) rfl) ?_
                  refine WL.valw (R.as (v := (boo false)) rfl) ?_
                  refine WL.valw (R.as (v := (boo false)) rfl) ?_
                  refine WL.nil ?_
                  obtain rfl := Option.some.inj hy32
                  obtain rfl := hy33
                  obtain rfl := Option.some.inj h
                  refine WP.ret (Out.three rfl S rfl rfl rfl ?_)
                  exact ⟨_, rfl, Sl.nil⟩
                · refine WP.condF rfl hc48 ?_
                  refine WP.skip ?_
                  refine WP.region ?_
                  refine WL.valw (R.mv (v := v19) h21) ?_
                  refine WL.valw (R.loadBN (i := 0) (vs := [(boo r40.1.fWeak), (str r40.1.fTag)]) S rfl rfl lay45 rfl rfl) ?_
                  refine W.bslice (α := GETag) [(agg [(boo r40.1.fWeak), (str r40.1.fTag)])] ([r40.1] : List GETag) S el47 rfl rfl rfl (by decide) (encS ⟨rfl, rfl⟩ enc0) ?_
                  intro u49 w50 H51 hle52 R53 S
                  have R20 := Sl.mono R20 hle52
                  have R6 := Sl.mono R6 hle52
                  have hA39 := At.mono hA39 hle52 (by simp)
                  obtain ⟨l54, hl54, hy32⟩ := bindE hy32
                  refine W.app (α := GETag) (i := 2) S el47 rfl rfl rfl R20 R53 hl54 ?_
                  intro v55 w56 H57 hle58 R59 S
                  have R20 := Sl.mono R20 hle58
                  have R6 := Sl.mono R6 hle58
                  have hA39 := At.mono hA39 hle58 (by simp)
                  have R53 := Sl.mono R53 hle58
                  refine WL.valw (R.as (v := v55) rfl) ?_
                  refine WL.nil ?_
                  refine WP.region ?_
                  refine WL.valw (R.add h25 rfl) ?_
                  refine WL.valw (R.mv (v := (int (wr (y_24 + 1)))) rfl) ?_
                  refine WL.nil ?_
                  obtain rfl := Option.some.inj hy32
                  exact ⟨rfl, ⟨H57, v55, rfl, h22, h23, rfl, R59, R6, (S.drop _ (.cons _ (.cons _ (.cons_cons _ .slnil))))⟩⟩
              · refine WP.condF rfl hc36 ?_
                refine WP.exit ?_
                obtain rfl := Option.some.inj hy32
                obtain rfl := hy33
                exact ⟨H17, v19, h21, R20, S⟩
          · intro f w hM
            rcases r34 with out_27 | e
            · obtain ⟨H26, v28, h30, R29, S⟩ := hM
              refine WP.seq ?_
              refine WP.region ?_
              refine WL.valw (R.mv (v := v28) h30) ?_
              refine WL.valw (R.as (v := v28) rfl) ?_
              refine WL.valw (R.as (v := (boo false)) rfl) ?_
              refine WL.valw (R.as (v := (boo true)) rfl) ?_
              refine WL.nil ?_
              obtain rfl := Option.some.inj h
              refine WP.ret (Out.three rfl S rfl rfl rfl ?_)
              exact ⟨_, rfl, R29⟩
            · exact hM.elim
set_option maxHeartbeats 4000000 in
theorem etag_both_ok {w0 : World} {H0 : Hp} (hw : Holds w0 H0) (p_a : GETag) (p_b : GETag) (p_test : (GETag → Option Bool)) {kp_test : FuncId} {cp_test : List Value} (Fp_test : ∀ {w : World} {H : Hp}, H0.le H → Holds w H → ∀ (x0 : GETag) (rr : Bool), p_test x0 = some rr → Con Tryd.prog kp_test ([(agg [(boo x0.fWeak), (str x0.fTag)])] ++ cp_test) w H (fun H' v => v = (boo rr))) {r : Bool} (h : etag_both p_a p_b p_test = some r) :
    Con Tryd.prog 68 [(agg [(boo p_a.fWeak), (str p_a.fTag)]), (agg [(boo p_b.fWeak), (str p_b.fTag)]), (.func (.func kp_test) #[] cp_test.toArray)] w0 H0 (fun H' v => v = (boo r)) := by
  refine Con.mk (N := 22) Tryd.func68 rfl rfl (by kernel_rfl) rfl ?_
  have S := St.start hw
  refine WP.seq ?_
  refine WP.region ?_
  refine W.box [(boo p_a.fWeak), (str p_a.fTag)] S rfl rfl ?_
  intro b1 w2 S
  refine W.box [(boo p_b.fWeak), (str p_b.fTag)] S rfl rfl ?_
  intro b3 w4 S
  refine WL.valw (R.as (v := (boo false)) rfl) ?_
  refine WL.nil ?_
  refine WP.seq ?_
  refine WP.region ?_
  refine WL.valw (R.mv (v := (.func (.func kp_test) #[] cp_test.toArray)) rfl) ?_
  refine WL.valw (R.loadBN (i := 1) (vs := [(boo p_a.fWeak), (str p_a.fTag)]) S rfl rfl lay45 rfl rfl) ?_
  obtain ⟨r5, hr5, h⟩ := bindE h
  refine W.callv S rfl rfl (Fp_test (S.post.le) S.holds p_a _ hr5) ?_
  rintro v6 w7 H8 hle9 S rfl
  refine WL.valw (R.mv (v := (boo r5)) rfl) ?_
  obtain ⟨b17, hg11, h⟩ := bindE h
  refine WL.grpw 4 [11, 12, 13] 14 (boo b17) (fun w => ∃ H' : Hp, H8.le H' ∧ St w0 H0 w H' [.box b3 45 [(boo p_b.fWeak), (str p_b.fTag)], .box b1 45 [(boo p_a.fWeak), (str p_a.fTag)]]) ?_ ?_
  · rcases boolE r5 with hb10 | hb10
    · replace hg11 := condT hg11 hb10
      refine WL.gyes rfl rfl hb10 ?_
      refine WL.valw (R.mv (v := (.func (.func kp_test) #[] cp_test.toArray)) rfl) ?_
      refine WL.gyes rfl rfl hb10 ?_
      refine WL.valw (R.loadBN (i := 0) (vs := [(boo p_b.fWeak), (str p_b.fTag)]) S rfl rfl lay45 rfl rfl) ?_
      refine WL.gyes rfl rfl hb10 ?_
      obtain ⟨r12, hr12, hg11⟩ := bindE hg11
      refine W.callv S rfl rfl (Fp_test (S.post.le) S.holds p_b _ hr12) ?_
      rintro v13 w14 H15 hle16 S rfl
      refine WL.valw (R.pickT rfl hb10 rfl) ?_
      exact WL.nil ⟨(congrArg boo (Option.some.inj hg11)), (by repeat (first | refine agree_upd rfl ?_ | refine agree_upds' rfl ?_ | exact agree_refl)), ⟨H15, hle16, S⟩⟩
    · replace hg11 := condF hg11 hb10
      refine WL.gno rfl rfl hb10 ?_
      refine WL.gno rfl rfl hb10 ?_
      refine WL.gno rfl rfl hb10 ?_
      refine WL.valw (R.pickF rfl hb10 rfl) ?_
      exact WL.nil ⟨(congrArg boo (Option.some.inj hg11)), (by repeat (first | refine agree_upd rfl ?_ | refine agree_upds' rfl ?_ | exact agree_refl)), ⟨H8, (Hp.le.refl _), S⟩⟩
  · intro us w19 ⟨H18, hle20, S⟩
    refine WL.valw (R.mv (v := (boo b17)) rfl) ?_
    refine WL.grp 6 [16, 17, 18, 19, 20] 21 (boo (b17 && (p_a.fTag == p_b.fTag))) ?_ ?_
    · rcases boolE b17 with hb21 | hb21
      · refine WL.gyes rfl rfl hb21 ?_
        refine WL.valw (R.fieldB rfl fld45_1) ?_
        refine WL.gyes rfl rfl hb21 ?_
        refine WL.valw (R.loadB (i := 1) (v := (str p_a.fTag)) S rfl rfl lay9 rfl) ?_
        refine WL.gyes rfl rfl hb21 ?_
        refine WL.valw (R.fieldB rfl fld45_1) ?_
        refine WL.gyes rfl rfl hb21 ?_
        refine WL.valw (R.loadB (i := 0) (v := (str p_b.fTag)) S rfl rfl lay9 rfl) ?_
        refine WL.gyes rfl rfl hb21 ?_
        refine WL.valw (R.eqlS (a := p_a.fTag) (b := p_b.fTag) rfl rfl) ?_
        refine WL.valw (R.pickT rfl hb21 rfl) ?_
        exact WL.nil ⟨(andT hb21), (by repeat (first | refine agree_upd rfl ?_ | refine agree_upds' rfl ?_ | exact agree_refl)), rfl⟩
      · refine WL.gno rfl rfl hb21 ?_
        refine WL.gno rfl rfl hb21 ?_
        refine WL.gno rfl rfl hb21 ?_
        refine WL.gno rfl rfl hb21 ?_
        refine WL.gno rfl rfl hb21 ?_
        refine WL.valw (R.pickF rfl hb21 rfl) ?_
        exact WL.nil ⟨(andF hb21), (by repeat (first | refine agree_upd rfl ?_ | refine agree_upds' rfl ?_ | exact agree_refl)), rfl⟩
    · intro us
      refine WL.valw (R.as (v := (boo (b17 && (p_a.fTag == p_b.fTag)))) rfl) ?_
      refine WL.nil ?_
      obtain rfl := Option.some.inj h
      refine WP.ret (Out.one rfl S rfl ?_)
      exact rfl
set_option maxHeartbeats 4000000 in
theorem etag_Weak_1_ok {w0 : World} {H0 : Hp} (hw : Holds w0 H0) (p_e : GETag) {r : Bool} (h : etag_Weak_1 p_e = some r) :
    Con Tryd.prog 69 [(agg [(boo p_e.fWeak), (str p_e.fTag)])] w0 H0 (fun H' v => v = (boo r)) := by
  refine Con.mk (N := 3) Tryd.func69 rfl rfl (by kernel_rfl) rfl ?_
  have S := St.start hw
  refine WP.seq ?_
  refine WP.region ?_
  refine W.box [(boo p_e.fWeak), (str p_e.fTag)] S rfl rfl ?_
  intro b1 w2 S
  refine WL.valw (R.as (v := (boo false)) rfl) ?_
  refine WL.nil ?_
  refine WP.seq ?_
  refine WP.region ?_
  refine WL.valw (R.as (v := (boo true)) rfl) ?_
  refine WL.nil ?_
  obtain rfl := Option.some.inj h
  refine WP.ret (Out.one rfl S rfl ?_)
  exact rfl
set_option maxHeartbeats 4000000 in
theorem etag_Weak_ok {w0 : World} {H0 : Hp} (hw : Holds w0 H0) (p_a : GETag) (p_b : GETag) {r : Bool} (h : etag_Weak p_a p_b = some r) :
    Con Tryd.prog 50 [(agg [(boo p_a.fWeak), (str p_a.fTag)]), (agg [(boo p_b.fWeak), (str p_b.fTag)])] w0 H0 (fun H' v => v = (boo r)) := by
  refine Con.mk (N := 8) Tryd.func50 rfl rfl (by kernel_rfl) rfl ?_
  have S := St.start hw
  refine WP.seq ?_
  refine WP.region ?_
  refine W.box [(boo p_a.fWeak), (str p_a.fTag)] S rfl rfl ?_
  intro b1 w2 S
  refine W.box [(boo p_b.fWeak), (str p_b.fTag)] S rfl rfl ?_
  intro b3 w4 S
  refine WL.valw (R.as (v := (boo false)) rfl) ?_
  refine WL.nil ?_
  refine WP.seq ?_
  refine WP.region ?_
  refine WL.valw (R.loadBN (i := 1) (vs := [(boo p_a.fWeak), (str p_a.fTag)]) S rfl rfl lay45 rfl rfl) ?_
  refine WL.valw (R.loadBN (i := 0) (vs := [(boo p_b.fWeak), (str p_b.fTag)]) S rfl rfl lay45 rfl rfl) ?_
  obtain ⟨r5, hr5, h⟩ := bindE h
  refine W.call S rfl (etag_both_ok S.holds p_a p_b etag_Weak_1 (fun hle hw x0 r h => etag_Weak_1_ok hw x0 h) hr5) ?_
  rintro v6 w7 H8 hle9 S rfl
  refine WL.valw (R.as (v := (boo r5)) rfl) ?_
  refine WL.nil ?_
  obtain rfl := Option.some.inj h
  refine WP.ret (Out.one rfl S rfl ?_)
  exact rfl
set_option maxHeartbeats 4000000 in
theorem etag_Strong_1_ok {w0 : World} {H0 : Hp} (hw : Holds w0 H0) (p_e : GETag) {r : Bool} (h : etag_Strong_1 p_e = some r) :
    Con Tryd.prog 70 [(agg [(boo p_e.fWeak), (str p_e.fTag)])] w0 H0 (fun H' v => v = (boo r)) := by
  refine Con.mk (N := 6) Tryd.func70 rfl rfl (by kernel_rfl) rfl ?_
  have S := St.start hw
  refine WP.seq ?_
  refine WP.region ?_
  refine W.box [(boo p_e.fWeak), (str p_e.fTag)] S rfl rfl ?_
  intro b1 w2 S
  refine WL.valw (R.as (v := (boo false)) rfl) ?_
  refine WL.nil ?_
  refine WP.seq ?_
  refine WP.region ?_
  refine WL.valw (R.fieldB rfl fld45_0) ?_
  refine WL.valw (R.loadB (i := 0) (v := (boo p_e.fWeak)) S rfl rfl lay4 rfl) ?_
  refine WL.valw (R.not rfl) ?_
  refine WL.valw (R.as (v := (boo (!p_e.fWeak))) rfl) ?_
  refine WL.nil ?_
  obtain rfl := Option.some.inj h
  refine WP.ret (Out.one rfl S rfl ?_)
  exact rfl
set_option maxHeartbeats 4000000 in
theorem etag_Strong_ok {w0 : World} {H0 : Hp} (hw : Holds w0 H0) (p_a : GETag) (p_b : GETag) {r : Bool} (h : etag_Strong p_a p_b = some r) :
    Con Tryd.prog 51 [(agg [(boo p_a.fWeak), (str p_a.fTag)]), (agg [(boo p_b.fWeak), (str p_b.fTag)])] w0 H0 (fun H' v => v = (boo r)) := by
  refine Con.mk (N := 8) Tryd.func51 rfl rfl (by kernel_rfl) rfl ?_
  have S := St.start hw
  refine WP.seq ?_
  refine WP.region ?_
  refine W.box [(boo p_a.fWeak), (str p_a.fTag)] S rfl rfl ?_
  intro b1 w2 S
  refine W.box [(boo p_b.fWeak), (str p_b.fTag)] S rfl rfl ?_
  intro b3 w4 S
  refine WL.valw (R.as (v := (boo false)) rfl) ?_
  refine WL.nil ?_
  refine WP.seq ?_
  refine WP.region ?_
  refine WL.valw (R.loadBN (i := 1) (vs := [(boo p_a.fWeak), (str p_a.fTag)]) S rfl rfl lay45 rfl rfl) ?_
  refine WL.valw (R.loadBN (i := 0) (vs := [(boo p_b.fWeak), (str p_b.fTag)]) S rfl rfl lay45 rfl rfl) ?_
  obtain ⟨r5, hr5, h⟩ := bindE h
  refine W.call S rfl (etag_both_ok S.holds p_a p_b etag_Strong_1 (fun hle hw x0 r h => etag_Strong_1_ok hw x0 h) hr5) ?_
  rintro v6 w7 H8 hle9 S rfl
  refine WL.valw (R.as (v := (boo r5)) rfl) ?_
  refine WL.nil ?_
  obtain rfl := Option.some.inj h
  refine WP.ret (Out.one rfl S rfl ?_)
  exact rfl
set_option maxHeartbeats 4000000 in
theorem law21_awake_ok {w0 : World} {H0 : Hp} (hw : Holds w0 H0) {r : Bool} (h : law21_awake = some r) :
    Con Tryd.prog 32 [] w0 H0 (fun H' v => v = (boo r)) := by
  refine Con.mk (N := 37) Tryd.func32 rfl rfl (by kernel_rfl) rfl ?_
  have S := St.start hw
  refine WP.seq ?_
  refine WP.region ?_
  refine WL.valw (R.as (v := (boo false)) rfl) ?_
  refine WL.nil ?_
  refine WP.seq ?_
  refine WP.region ?_
  obtain ⟨r1, hr1, h⟩ := bindE h
  refine W.call S rfl (etag_Parse_ok S.holds [87, 47, 34, 97, 34] hr1) ?_
  rintro v2 w3 H4 hle5 S rfl
  refine WL.valw (R.mv (v := (.tuple ⟨[(agg [(boo r1.1.fWeak), (str r1.1.fTag)]), (boo r1.2)]⟩)) rfl) ?_
  refine WL.valw (R.ext rfl rfl) ?_
  refine WL.valw (R.ext rfl rfl) ?_
  refine W.alloc [(boo false), (str [])] S zer45 ?_
  intro b6 w7 S
  refine W.store (i := 0) [(boo r1.1.fWeak), (str r1.1.fTag)] S rfl rfl rfl lay45 rfl rfl (Nat.le_of_ble_eq_true rfl) rfl ?_
  intro w8 S
  refine WL.valw (R.as (v := (boo r1.2)) rfl) ?_
  refine WL.nil ?_
  refine WP.seq ?_
  refine WP.region ?_
  obtain ⟨r9, hr9, h⟩ := bindE h
  refine W.call S rfl (etag_Parse_ok S.holds [34, 97, 34] hr9) ?_
  rintro v10 w11 H12 hle13 S rfl
  refine WL.valw (R.mv (v := (.tuple ⟨[(agg [(boo r9.1.fWeak), (str r9.1.fTag)]), (boo r9.2)]⟩)) rfl) ?_
  refine WL.valw (R.ext rfl rfl) ?_
  refine WL.valw (R.ext rfl rfl) ?_
  refine W.alloc [(boo false), (str [])] S zer45 ?_
  intro b14 w15 S
  refine W.store (i := 0) [(boo r9.1.fWeak), (str r9.1.fTag)] S rfl rfl rfl lay45 rfl rfl (Nat.le_of_ble_eq_true rfl) rfl ?_
  intro w16 S
  refine WL.valw (R.as (v := (boo r9.2)) rfl) ?_
  refine WL.nil ?_
  refine WP.seq ?_
  refine WP.region ?_
  refine WL.valw (R.mv (v := (boo r1.2)) rfl) ?_
  refine WL.valw (R.mv (v := (boo r1.2)) rfl) ?_
  refine WL.grp 2 [15] 16 (boo (r1.2 && r9.2)) ?_ ?_
  · rcases boolE r1.2 with hb17 | hb17
    · refine WL.gyes rfl rfl hb17 ?_
      refine WL.valw (R.mv (v := (boo r9.2)) rfl) ?_
      refine WL.valw (R.pickT rfl hb17 rfl) ?_
      exact WL.nil ⟨(andT hb17), (by repeat (first | refine agree_upd rfl ?_ | refine agree_upds' rfl ?_ | exact agree_refl)), rfl⟩
    · refine WL.gno rfl rfl hb17 ?_
      refine WL.valw (R.pickF rfl hb17 rfl) ?_
      exact WL.nil ⟨(andF hb17), (by repeat (first | refine agree_upd rfl ?_ | refine agree_upds' rfl ?_ | exact agree_refl)), rfl⟩
  · intro us
    refine WL.valw (R.mv (v := (boo (r1.2 && r9.2))) rfl) ?_
    refine WL.grp 3 [18, 19] 20 (boo ((r1.2 && r9.2) && r1.1.fWeak)) ?_ ?_
    · rcases boolE (r1.2 && r9.2) with hb19 | hb19
      · refine WL.gyes rfl rfl hb19 ?_
        refine WL.valw (R.fieldB rfl fld45_0) ?_
        refine WL.gyes rfl rfl hb19 ?_
        refine WL.valw (R.loadB (i := 1) (v := (boo r1.1.fWeak)) S rfl rfl lay4 rfl) ?_
        refine WL.valw (R.pickT rfl hb19 rfl) ?_
        exact WL.nil ⟨(andT hb19), (by repeat (first | refine agree_upd rfl ?_ | refine agree_upds' rfl ?_ | exact agree_refl)), rfl⟩
      · refine WL.gno rfl rfl hb19 ?_
        refine WL.gno rfl rfl hb19 ?_
        refine WL.valw (R.pickF rfl hb19 rfl) ?_
        exact WL.nil ⟨(andF hb19), (by repeat (first | refine agree_upd rfl ?_ | refine agree_upds' rfl ?_ | exact agree_refl)), rfl⟩
    · intro us
      refine WL.valw (R.mv (v := (boo ((r1.2 && r9.2) && r1.1.fWeak))) rfl) ?_
      obtain ⟨b28, hg22, h⟩ := bindE h
      refine WL.grpw 4 [22, 23, 24] 25 (boo b28) (fun w => ∃ H' : Hp, H12.le H' ∧ St w0 H0 w H' [.box b14 45 [(boo r9.1.fWeak), (str r9.1.fTag)], .box b6 45 [(boo r1.1.fWeak), (str r1.1.fTag)]]) ?_ ?_
      · rcases boolE ((r1.2 && r9.2) && r1.1.fWeak) with hb21 | hb21
        · replace hg22 := condT hg22 hb21
          refine WL.gyes rfl rfl hb21 ?_
          refine WL.valw (R.loadBN (i := 1) (vs := [(boo r1.1.fWeak), (str r1.1.fTag)]) S rfl rfl lay45 rfl rfl) ?_
          refine WL.gyes rfl rfl hb21 ?_
          refine WL.valw (R.loadBN (i := 0) (vs := [(boo r9.1.fWeak), (str r9.1.fTag)]) S rfl rfl lay45 rfl rfl) ?_
          refine WL.gyes rfl rfl hb21 ?_
          obtain ⟨r23, hr23, hg22⟩ := bindE hg22
          refine W.call S rfl (etag_Weak_ok S.holds r1.1 r9.1 hr23) ?_
          rintro v24 w25 H26 hle27 S rfl
          refine WL.valw (R.pickT rfl hb21 rfl) ?_
          exact WL.nil ⟨(congrArg boo (Option.some.inj hg22)), (by repeat (first | refine agree_upd rfl ?_ | refine agree_upds' rfl ?_ | exact agree_refl)), ⟨H26, hle27, S⟩⟩
        · replace hg22 := condF hg22 hb21
          refine WL.gno rfl rfl hb21 ?_
          refine WL.gno rfl rfl hb21 ?_
          refine WL.gno rfl rfl hb21 ?_
          refine WL.valw (R.pickF rfl hb21 rfl) ?_
          exact WL.nil ⟨(congrArg boo (Option.some.inj hg22)), (by repeat (first | refine agree_upd rfl ?_ | refine agree_upds' rfl ?_ | exact agree_refl)), ⟨H12, (Hp.le.refl _), S⟩⟩
      · intro us w30 ⟨H29, hle31, S⟩
        refine WL.valw (R.mv (v := (boo b28)) rfl) ?_
        obtain ⟨b39, hg33, h⟩ := bindE h
        refine WL.grpw 5 [27, 28, 29, 30] 31 (boo b39) (fun w => ∃ H' : Hp, H29.le H' ∧ St w0 H0 w H' [.box b14 45 [(boo r9.1.fWeak), (str r9.1.fTag)], .box b6 45 [(boo r1.1.fWeak), (str r1.1.fTag)]]) ?_ ?_
        · rcases boolE b28 with hb32 | hb32
          · replace hg33 := condT hg33 hb32
            refine WL.gyes rfl rfl hb32 ?_
            refine WL.valw (R.loadBN (i := 1) (vs := [(boo r1.1.fWeak), (str r1.1.fTag)]) S rfl rfl lay45 rfl rfl) ?_
            refine WL.gyes rfl rfl hb32 ?_
            refine WL.valw (R.loadBN (i := 0) (vs := [(boo r9.1.fWeak), (str r9.1.fTag)]) S rfl rfl lay45 rfl rfl) ?_
            refine WL.gyes rfl rfl hb32 ?_
            obtain ⟨r34, hr34, hg33⟩ := bindE hg33
            refine W.call S rfl (etag_Strong_ok S.holds r1.1 r9.1 hr34) ?_
            rintro v35 w36 H37 hle38 S rfl
            refine WL.gyes rfl rfl hb32 ?_
            refine WL.valw (R.not rfl) ?_
            refine WL.valw (R.pickT rfl hb32 rfl) ?_
            exact WL.nil ⟨(congrArg boo (Option.some.inj hg33)), (by repeat (first | refine agree_upd rfl ?_ | refine agree_upds' rfl ?_ | exact agree_refl)), ⟨H37, hle38, S⟩⟩
          · replace hg33 := condF hg33 hb32
            refine WL.gno rfl rfl hb32 ?_
            refine WL.gno rfl rfl hb32 ?_
            refine WL.gno rfl rfl hb32 ?_
            refine WL.gno rfl rfl hb32 ?_
            refine WL.valw (R.pickF rfl hb32 rfl) ?_
            exact WL.nil ⟨(congrArg boo (Option.some.inj hg33)), (by repeat (first | refine agree_upd rfl ?_ | refine agree_upds' rfl ?_ | exact agree_refl)), ⟨H29, (Hp.le.refl _), S⟩⟩
        · intro us w41 ⟨H40, hle42, S⟩
          refine WL.valw (R.mv (v := (boo b39)) rfl) ?_
          obtain ⟨b50, hg44, h⟩ := bindE h
          refine WL.grpw 4 [33, 34, 35] 36 (boo b50) (fun w => ∃ H' : Hp, H40.le H' ∧ St w0 H0 w H' [.box b14 45 [(boo r9.1.fWeak), (str r9.1.fTag)], .box b6 45 [(boo r1.1.fWeak), (str r1.1.fTag)]]) ?_ ?_
          · rcases boolE b39 with hb43 | hb43
            · replace hg44 := condT hg44 hb43
              refine WL.gyes rfl rfl hb43 ?_
              refine WL.valw (R.loadBN (i := 0) (vs := [(boo r9.1.fWeak), (str r9.1.fTag)]) S rfl rfl lay45 rfl rfl) ?_
              refine WL.gyes rfl rfl hb43 ?_
              refine WL.valw (R.loadBN (i := 0) (vs := [(boo r9.1.fWeak), (str r9.1.fTag)]) S rfl rfl lay45 rfl rfl) ?_
              refine WL.gyes rfl rfl hb43 ?_
              obtain ⟨r45, hr45, hg44⟩ := bindE hg44
              refine W.call S rfl (etag_Strong_ok S.holds r9.1 r9.1 hr45) ?_
              rintro v46 w47 H48 hle49 S rfl
              refine WL.valw (R.pickT rfl hb43 rfl) ?_
              exact WL.nil ⟨(congrArg boo (Option.some.inj hg44)), (by repeat (first | refine agree_upd rfl ?_ | refine agree_upds' rfl ?_ | exact agree_refl)), ⟨H48, hle49, S⟩⟩
            · replace hg44 := condF hg44 hb43
              refine WL.gno rfl rfl hb43 ?_
              refine WL.gno rfl rfl hb43 ?_
              refine WL.gno rfl rfl hb43 ?_
              refine WL.valw (R.pickF rfl hb43 rfl) ?_
              exact WL.nil ⟨(congrArg boo (Option.some.inj hg44)), (by repeat (first | refine agree_upd rfl ?_ | refine agree_upds' rfl ?_ | exact agree_refl)), ⟨H40, (Hp.le.refl _), S⟩⟩
          · intro us w52 ⟨H51, hle53, S⟩
            refine WL.valw (R.as (v := (boo b50)) rfl) ?_
            refine WL.nil ?_
            obtain rfl := Option.some.inj h
            refine WP.ret (Out.one rfl S rfl ?_)
            exact rfl
set_option maxHeartbeats 4000000 in
theorem law21_EtagLines_ok {w0 : World} {H0 : Hp} (hw : Holds w0 H0) (p_ppend : (List Str)) (p_x1 : Int) {vp_ppend : Value} (Rp_ppend : Sl (α := Str) H0 vp_ppend p_ppend) {r : Bool} (h : law21_EtagLines p_ppend p_x1 = some r) :
    Con Tryd.prog 10 [vp_ppend, (int p_x1)] w0 H0 (fun H' v => v = (boo r)) := by
  refine Con.mk (N := 116) Tryd.func10 rfl rfl (by kernel_rfl) rfl ?_
  have S := St.start hw
  refine WP.seq ?_
  refine WP.region ?_
  refine WL.valw (R.as (v := (boo false)) rfl) ?_
  refine WL.nil ?_
  refine WP.seq ?_
  refine WP.seq ?_
  refine WP.region ?_
  refine WL.valw (R.mv (v := vp_ppend) rfl) ?_
  obtain ⟨r1, hr1, h⟩ := bindE h
  refine W.call S rfl (keep_Strings_ok S.holds p_ppend Rp_ppend hr1) ?_
  rintro v2 w3 H4 hle5 S rfl
  have Rp_ppend := Sl.mono Rp_ppend hle5
  refine WL.valw (R.not rfl) ?_
  refine WL.valw (R.mv (v := (boo (!r1))) rfl) ?_
  refine WL.grp 4 [17, 18, 19] 20 (boo ((!r1) || (decide ((p_ppend.length : Int) < 1)))) ?_ ?_
  · rcases boolE (!r1) with hb6 | hb6
    · refine WL.gno rfl rfl hb6 ?_
      refine WL.gno rfl rfl hb6 ?_
      refine WL.gno rfl rfl hb6 ?_
      refine WL.valw (R.pickT rfl hb6 rfl) ?_
      exact WL.nil ⟨(orT hb6), (by repeat (first | refine agree_upd rfl ?_ | refine agree_upds' rfl ?_ | exact agree_refl)), rfl⟩
    · refine WL.gyes rfl rfl hb6 ?_
      refine WL.valw (R.mv (v := vp_ppend) rfl) ?_
      refine WL.gyes rfl rfl hb6 ?_
      refine WL.valw (R.lenL (α := Str) (xs := p_ppend) (H := H4) Rp_ppend rfl Tryd.underlying31) ?_
      refine WL.gyes rfl rfl hb6 ?_
      refine WL.valw (R.lss rfl rfl) ?_
      refine WL.valw (R.pickF rfl hb6 rfl) ?_
      exact WL.nil ⟨(orF hb6), (by repeat (first | refine agree_upd rfl ?_ | refine agree_upds' rfl ?_ | exact agree_refl)), rfl⟩
  · intro us
    refine WL.valw (R.mv (v := (boo ((!r1) || (decide ((p_ppend.length : Int) < 1))))) rfl) ?_
    refine WL.grp 3 [22, 23] 24 (boo (((!r1) || (decide ((p_ppend.length : Int) < 1))) || (decide (p_x1 < 0)))) ?_ ?_
    · rcases boolE ((!r1) || (decide ((p_ppend.length : Int) < 1))) with hb8 | hb8
      · refine WL.gno rfl rfl hb8 ?_
        refine WL.gno rfl rfl hb8 ?_
        refine WL.valw (R.pickT rfl hb8 rfl) ?_
        exact WL.nil ⟨(orT hb8), (by repeat (first | refine agree_upd rfl ?_ | refine agree_upds' rfl ?_ | exact agree_refl)), rfl⟩
      · refine WL.gyes rfl rfl hb8 ?_
        refine WL.valw (R.mv (v := (int p_x1)) rfl) ?_
        refine WL.gyes rfl rfl hb8 ?_
        refine WL.valw (R.lss rfl rfl) ?_
        refine WL.valw (R.pickF rfl hb8 rfl) ?_
        exact WL.nil ⟨(orF hb8), (by repeat (first | refine agree_upd rfl ?_ | refine agree_upds' rfl ?_ | exact agree_refl)), rfl⟩
    · intro us
      refine WL.valw (R.mv (v := (boo (((!r1) || (decide ((p_ppend.length : Int) < 1))) || (decide (p_x1 < 0))))) rfl) ?_
      refine WL.grp 5 [26, 27, 28, 29] 30 (boo ((((!r1) || (decide ((p_ppend.length : Int) < 1))) || (decide (p_x1 < 0))) || (decide ((p_ppend.length : Int) < p_x1)))) ?_ ?_
      · rcases boolE (((!r1) || (decide ((p_ppend.length : Int) < 1))) || (decide (p_x1 < 0))) with hb10 | hb10
        · refine WL.gno rfl rfl hb10 ?_
          refine WL.gno rfl rfl hb10 ?_
          refine WL.gno rfl rfl hb10 ?_
          refine WL.gno rfl rfl hb10 ?_
          refine WL.valw (R.pickT rfl hb10 rfl) ?_
          exact WL.nil ⟨(orT hb10), (by repeat (first | refine agree_upd rfl ?_ | refine agree_upds' rfl ?_ | exact agree_refl)), rfl⟩
        · refine WL.gyes rfl rfl hb10 ?_
          refine WL.valw (R.mv (v := (int p_x1)) rfl) ?_
          refine WL.gyes rfl rfl hb10 ?_
          refine WL.valw (R.mv (v := vp_ppend) rfl) ?_
          refine WL.gyes rfl rfl hb10 ?_
          refine WL.valw (R.lenL (α := Str) (xs := p_ppend) (H := H4) Rp_ppend rfl Tryd.underlying31) ?_
          refine WL.gyes rfl rfl hb10 ?_
          refine WL.valw (R.gtr rfl rfl) ?_
          refine WL.valw (R.pickF rfl hb10 rfl) ?_
          exact WL.nil ⟨(orF hb10), (by repeat (first | refine agree_upd rfl ?_ | refine agree_upds' rfl ?_ | exact agree_refl)), rfl⟩
      · intro us
        refine WL.nil ?_
        rcases condE h with ⟨hc12, h⟩ | ⟨hc12, h⟩
        · refine WP.condT rfl hc12 ?_
          refine WP.seq ?_
          refine WP.region ?_
          refine WL.valw (R.as (v := (boo true)) rfl) ?_
          refine WL.nil ?_
          obtain rfl := Option.some.inj h
          refine WP.ret (Out.one rfl S rfl ?_)
          exact rfl
        · refine WP.condF rfl hc12 ?_
          refine WP.skip ?_
          refine WP.seq ?_
          refine WP.region ?_
          refine WL.valw (R.as (v := (.slice none 0 0)) rfl) ?_
          refine WL.valw (R.as (v := (.slice none 0 0)) rfl) ?_
          refine WL.nil ?_
          refine WP.seq ?_
          refine WP.seq ?_
          refine WP.region ?_
          refine WL.valw (R.as (v := (int 0)) rfl) ?_
          refine WL.nil ?_
          obtain ⟨v13, hv14⟩ : ∃ v : Value, v = .slice none 0 0 := ⟨_, rfl⟩
          have R15 : Sl (α := Str) H4 v13 [] := by rw [hv14]; exact Sl.nil
          replace S := St.addNilV hv14 S 9 1
          obtain ⟨v16, hv17⟩ : ∃ v : Value, v = .slice none 0 0 := ⟨_, rfl⟩
          have R18 : Sl (α := Str) H4 v16 [] := by rw [hv17]; exact Sl.nil
          replace S := St.addNilV hv17 S 9 1
          obtain ⟨r45, hr46, h⟩ := bindE h
          refine WP.cut (fun f w => match r45 with | .inl (y_34, y_38) => ∃ (H32 : Hp) (v35 : Value) (v39 : Value), f 0 = vp_ppend ∧ f 5 = v35 ∧ f 6 = v39 ∧ Sl (α := Str) H32 vp_ppend p_ppend ∧ Sl (α := Str) H32 v35 y_34 ∧ Sl (α := Str) H32 v39 y_38 ∧ St w0 H0 w H32 [.row v39 9 1 y_38.length, .row v35 9 1 y_34.length] | .inr _ => False) ?_ ?_
          · refine WP.block ?_
            refine WP.loopM (law21_EtagLines_L0 p_ppend p_x1) (fun s f w => match s with | (y_22, y_26, y_30) => ∃ (H19 : Hp) (v23 : Value) (v27 : Value), f 0 = vp_ppend ∧ f 1 = (int p_x1) ∧ f 5 = v23 ∧ f 6 = v27 ∧ f 7 = (int y_30) ∧ Sl (α := Str) H19 vp_ppend p_ppend ∧ Sl (α := Str) H19 v23 y_22 ∧ Sl (α := Str) H19 v27 y_26 ∧ St w0 H0 w H19 [.row v27 9 1 y_26.length, .row v23 9 1 y_22.length]) (([] : List Str), ([] : List Str), 0) r45 hr46 ?_ ?_
            · exact ⟨H4, v13, v16, rfl, rfl, (Eq.trans (b := .slice none 0 0) rfl hv14.symm), (Eq.trans (b := .slice none 0 0) rfl hv17.symm), rfl, Rp_ppend, R15, R18, S⟩
            · intro s f w hI y42 hy43 hy44
              obtain ⟨y_22, y_26, y_30⟩ := s
              obtain ⟨H19, v23, v27, h20, h21, h25, h29, h31, Rp_ppend, R24, R28, S⟩ := hI
              refine WP.seq ?_
              refine WP.seq ?_
              refine WP.region ?_
              refine WL.valw (R.mv (v := (int y_30)) h31) ?_
              refine WL.valw (R.mv (v := vp_ppend) h20) ?_
              refine WL.valw (R.lenL (α := Str) (xs := p_ppend) (H := H19) Rp_ppend rfl Tryd.underlying31) ?_
              refine WL.valw (R.lss rfl rfl) ?_
              refine WL.nil ?_
              rcases condE hy43 with ⟨hc47, hy43⟩ | ⟨hc47, hy43⟩
              · refine WP.condT rfl hc47 ?_
                refine WP.skip ?_
                refine WP.seq ?_
                refine WP.block ?_
                refine WP.seq ?_
                refine WP.region ?_
                refine WL.valw (R.mv (v := (int y_30)) h31) ?_
                obtain ⟨n48, hn48, hy43⟩ := bindE hy43
                refine WL.valw (R.rem' rfl rfl hn48) ?_
                refine WL.valw (R.eql rfl rfl) ?_
                refine WL.valw (R.mv (v := vp_ppend) h20) ?_
                refine WL.valw (R.mv (v := (int y_30)) h31) ?_
                obtain ⟨x49, hx49, hy43⟩ := bindE hy43
                refine W.idx (α := Str) Rp_ppend rfl rfl el31 hx49 ?_
                rintro a50 _ hA51 rfl
                refine WL.valw (R.loadH (v := (str x49)) S rfl hA51 lay9 rfl) ?_
                refine WL.valw (R.build [(0, (boo (n48 == 1))), (1, (str x49))] [(boo (n48 == 1)), (str x49)] bp45 zer45 rfl rfl) ?_
                obtain ⟨r52, hr52, hy43⟩ := bindE hy43
                refine W.call S rfl (ref19_FormatETag_ok S.holds (⟨n48 == 1, x49⟩ : GETag) hr52) ?_
                rintro v53 w54 H55 hle56 S rfl
                have Rp_ppend := Sl.mono Rp_ppend hle56
                have R24 := Sl.mono R24 hle56
                have R28 := Sl.mono R28 hle56
                have hA51 := At.mono hA51 hle56 (by simp)
                refine WL.valw (R.as (v := (str r52)) rfl) ?_
                refine WL.nil ?_
                refine WP.seq ?_
                refine WP.seq ?_
                refine WP.region ?_
                refine WL.valw (R.mv (v := (str r52)) rfl) ?_
                refine WL.valw (R.eqlS (a := r52) (b := []) rfl rfl) ?_
                refine WL.valw (R.mv (v := (boo (r52 == []))) rfl) ?_
                obtain ⟨b64, hg58, hy43⟩ := bindE hy43
                refine WL.grpw 4 [49, 50, 51] 52 (boo b64) (fun w => ∃ H' : Hp, H55.le H' ∧ St w0 H0 w H' [.row v27 9 1 y_26.length, .row v23 9 1 y_22.length]) ?_ ?_
                · rcases boolE (r52 == []) with hb57 | hb57
                  · replace hg58 := condT hg58 hb57
                    refine WL.gno rfl rfl hb57 ?_
                    refine WL.gno rfl rfl hb57 ?_
                    refine WL.gno rfl rfl hb57 ?_
                    refine WL.valw (R.pickT rfl hb57 rfl) ?_
                    exact WL.nil ⟨(congrArg boo (Option.some.inj hg58)), (by repeat (first | refine agree_upd rfl ?_ | refine agree_upds' rfl ?_ | exact agree_refl)), ⟨H55, (Hp.le.refl _), S⟩⟩
                  · replace hg58 := condF hg58 hb57
                    refine WL.gyes rfl rfl hb57 ?_
                    refine WL.valw (R.mv (v := (str r52)) rfl) ?_
                    refine WL.gyes rfl rfl hb57 ?_
                    obtain ⟨r59, hr59, hg58⟩ := bindE hg58
                    refine W.call S rfl (ref01_Index_ok S.holds r52 92 0 hr59) ?_
                    rintro v60 w61 H62 hle63 S rfl
                    have Rp_ppend := Sl.mono Rp_ppend hle63
                    have R24 := Sl.mono R24 hle63
                    have R28 := Sl.mono R28 hle63
                    have hA51 := At.mono hA51 hle63 (by simp)
                    refine WL.gyes rfl rfl hb57 ?_
                    refine WL.valw (R.geq rfl rfl) ?_
                    refine WL.valw (R.pickF rfl hb57 rfl) ?_
                    exact WL.nil ⟨(congrArg boo (Option.some.inj hg58)), (by repeat (first | refine agree_upd rfl ?_ | refine agree_upds' rfl ?_ | exact agree_refl)), ⟨H62, hle63, S⟩⟩
                · intro us w66 ⟨H65, hle67, S⟩
                  have Rp_ppend := Sl.mono Rp_ppend hle67
                  have R24 := Sl.mono R24 hle67
                  have R28 := Sl.mono R28 hle67
                  have hA51 := At.mono hA51 hle67 (by simp)
                  refine WL.nil ?_
                  rcases condE hy43 with ⟨hc68, hy43⟩ | ⟨hc68, hy43⟩
                  · refine WP.condT rfl hc68 ?_
                    refine WP.seq ?_
                    refine WP.region ?_
                    refine WL.valw (R.as (v := (boo true)) rfl) ?_
                    refine WL.nil ?_
                    obtain rfl := Option.some.inj hy43
                    obtain rfl := hy44
                    obtain rfl := Option.some.inj h
                    refine WP.ret (Out.one rfl S rfl ?_)
                    exact rfl
                  · refine WP.condF rfl hc68 ?_
                    refine WP.skip ?_
                    refine WP.seq ?_
                    refine WP.region ?_
                    refine WL.valw (R.mv (v := (int y_30)) h31) ?_
                    refine WL.valw (R.mv (v := (int p_x1)) h21) ?_
                    refine WL.valw (R.lss rfl rfl) ?_
                    refine WL.nil ?_
                    rcases condE hy43 with ⟨hc69, hy43⟩ | ⟨hc69, hy43⟩
                    · refine WP.condT rfl hc69 ?_
                      refine WP.region ?_
                      refine WL.valw (R.mv (v := v23) h25) ?_
                      refine WL.valw (R.mv (v := (str r52)) rfl) ?_
                      refine W.bslice (α := Str) [(str r52)] ([r52] : List Str) S el31 rfl rfl rfl (by decide) (encS ⟨rfl, rfl⟩ enc0) ?_
                      intro u70 w71 H72 hle73 R74 S
                      have Rp_ppend := Sl.mono Rp_ppend hle73
                      have R24 := Sl.mono R24 hle73
                      have R28 := Sl.mono R28 hle73
                      have hA51 := At.mono hA51 hle73 (by simp)
                      obtain ⟨l75, hl75, hy43⟩ := bindE hy43
                      refine W.app (α := Str) (i := 2) S el31 rfl rfl rfl R24 R74 hl75 ?_
                      intro v76 w77 H78 hle79 R80 S
                      have Rp_ppend := Sl.mono Rp_ppend hle79
                      have R24 := Sl.mono R24 hle79
                      have R28 := Sl.mono R28 hle79
                      have hA51 := At.mono hA51 hle79 (by simp)
                      have R74 := Sl.mono R74 hle79
                      refine WL.valw (R.as (v := v76) rfl) ?_
                      refine WL.nil ?_
                      refine WP.region ?_
                      refine WL.valw (R.mv (v := (int y_30)) h31) ?_
                      refine WL.valw (R.add rfl rfl) ?_
                      refine WL.valw (R.as (v := (int (wr (y_30 + 1)))) rfl) ?_
                      refine WL.nil ?_
                      obtain rfl := Option.some.inj hy43
                      exact ⟨rfl, ⟨H78, v76, v27, h20, h21, rfl, h29, rfl, Rp_ppend, R80, R28, (S.drop _ (.cons _ (.cons_cons _ (.cons_cons _ .slnil))))⟩⟩
                    · refine WP.condF rfl hc69 ?_
                      refine WP.region ?_
                      refine WL.valw (R.mv (v := v27) h29) ?_
                      refine WL.valw (R.mv (v := (str r52)) rfl) ?_
                      refine W.bslice (α := Str) [(str r52)] ([r52] : List Str) S el31 rfl rfl rfl (by decide) (encS ⟨rfl, rfl⟩ enc0) ?_
                      intro u81 w82 H83 hle84 R85 S
                      have Rp_ppend := Sl.mono Rp_ppend hle84
                      have R24 := Sl.mono R24 hle84
                      have R28 := Sl.mono R28 hle84
                      have hA51 := At.mono hA51 hle84 (by simp)
                      obtain ⟨l86, hl86, hy43⟩ := bindE hy43
                      refine W.app (α := Str) (i := 1) S el31 rfl rfl rfl R28 R85 hl86 ?_
                      intro v87 w88 H89 hle90 R91 S
                      have Rp_ppend := Sl.mono Rp_ppend hle90
                      have R24 := Sl.mono R24 hle90
                      have R28 := Sl.mono R28 hle90
                      have hA51 := At.mono hA51 hle90 (by simp)
                      have R85 := Sl.mono R85 hle90
                      refine WL.valw (R.as (v := v87) rfl) ?_
                      refine WL.nil ?_
                      refine WP.region ?_
                      refine WL.valw (R.mv (v := (int y_30)) h31) ?_
                      refine WL.valw (R.add rfl rfl) ?_
                      refine WL.valw (R.as (v := (int (wr (y_30 + 1)))) rfl) ?_
                      refine WL.nil ?_
                      obtain rfl := Option.some.inj hy43
                      exact ⟨rfl, ⟨H89, v23, v87, h20, h21, h25, rfl, rfl, Rp_ppend, R24, R91, (S.drop _ (.cons _ (.cons_cons _ (.cons_cons _ .slnil))))⟩⟩
              · refine WP.condF rfl hc47 ?_
                refine WP.exit ?_
                obtain rfl := Option.some.inj hy43
                obtain rfl := hy44
                exact ⟨H19, v23, v27, h20, h25, h29, Rp_ppend, R24, R28, S⟩
          · intro f w hM
            rcases r45 with ⟨y_34, y_38⟩ | e
            · obtain ⟨H32, v35, v39, h33, h37, h41, Rp_ppend, R36, R40, S⟩ := hM
              refine WP.seq ?_
              refine WP.region ?_
              refine WL.valw (R.mv (v := v35) h37) ?_
              obtain ⟨r92, hr92, h⟩ := bindE h
              refine W.call S rfl (ref01_Join_ok S.holds y_34 R36 hr92) ?_
              rintro v93 w94 H95 hle96 S rfl
              have Rp_ppend := Sl.mono Rp_ppend hle96
              have R36 := Sl.mono R36 hle96
              have R40 := Sl.mono R40 hle96
              refine WL.valw (R.build [(0, (str [73, 102, 45, 78, 111, 110, 101, 45, 77, 97, 116, 99, 104])), (1, (str r92))] [(str [73, 102, 45, 78, 111, 110, 101, 45, 77, 97, 116, 99, 104]), (str r92)] bp36 zer36 rfl rfl) ?_
              refine WL.valw (R.mv (v := v39) h41) ?_
              obtain ⟨r97, hr97, h⟩ := bindE h
              refine W.call S rfl (ref01_Join_ok S.holds y_38 R40 hr97) ?_
              rintro v98 w99 H100 hle101 S rfl
              have Rp_ppend := Sl.mono Rp_ppend hle101
              have R36 := Sl.mono R36 hle101
              have R40 := Sl.mono R40 hle101
              refine WL.valw (R.build [(0, (str [105, 102, 45, 110, 111, 110, 101, 45, 109, 97, 116, 99, 104])), (1, (str r97))] [(str [105, 102, 45, 110, 111, 110, 101, 45, 109, 97, 116, 99, 104]), (str r97)] bp36 zer36 rfl rfl) ?_
              refine W.bslice (α := GField) [(agg [(str [73, 102, 45, 78, 111, 110, 101, 45, 77, 97, 116, 99, 104]), (str r92)]), (agg [(str [105, 102, 45, 110, 111, 110, 101, 45, 109, 97, 116, 99, 104]), (str r97)])] ([(⟨[73, 102, 45, 78, 111, 110, 101, 45, 77, 97, 116, 99, 104], r92⟩ : GField), (⟨[105, 102, 45, 110, 111, 110, 101, 45, 109, 97, 116, 99, 104], r97⟩ : GField)] : List GField) S el28 rfl rfl rfl (by decide) (encS ⟨rfl, rfl⟩ (encS ⟨rfl, rfl⟩ enc0)) ?_
              intro u102 w103 H104 hle105 R106 S
              have Rp_ppend := Sl.mono Rp_ppend hle105
              have R36 := Sl.mono R36 hle105
              have R40 := Sl.mono R40 hle105
              obtain ⟨r107, hr107, h⟩ := bindE h
              refine W.call S rfl (etag_List_ok S.holds ([(⟨[73, 102, 45, 78, 111, 110, 101, 45, 77, 97, 116, 99, 104], r92⟩ : GField), (⟨[105, 102, 45, 110, 111, 110, 101, 45, 109, 97, 116, 99, 104], r97⟩ : GField)] : List GField) [73, 102, 45, 78, 111, 110, 101, 45, 77, 97, 116, 99, 104] R106 hr107) ?_
              rintro v108 w109 H110 hle111 S ⟨u112, rfl, R113⟩
              have Rp_ppend := Sl.mono Rp_ppend hle111
              have R36 := Sl.mono R36 hle111
              have R40 := Sl.mono R40 hle111
              have R106 := Sl.mono R106 hle111
              refine WL.valw (R.mv (v := (.tuple ⟨[u112, (boo r107.2.1), (boo r107.2.2)]⟩)) rfl) ?_
              refine WL.valw (R.ext rfl rfl) ?_
              refine WL.valw (R.ext rfl rfl) ?_
              refine WL.valw (R.ext rfl rfl) ?_
              refine WL.valw (R.as (v := u112) rfl) ?_
              refine WL.valw (R.as (v := (boo r107.2.1)) rfl) ?_
              refine WL.valw (R.as (v := (boo r107.2.2)) rfl) ?_
              refine WL.nil ?_
              refine WP.seq ?_
              refine WP.seq ?_
              refine WP.region ?_
              refine WL.valw (R.mv (v := (boo r107.2.2)) rfl) ?_
              refine WL.valw (R.not rfl) ?_
              refine WL.valw (R.mv (v := (boo (!r107.2.2))) rfl) ?_
              refine WL.grp 2 [79] 80 (boo ((!r107.2.2) || r107.2.1)) ?_ ?_
              · rcases boolE (!r107.2.2) with hb114 | hb114
                · refine WL.gno rfl rfl hb114 ?_
                  refine WL.valw (R.pickT rfl hb114 rfl) ?_
                  exact WL.nil ⟨(orT hb114), (by repeat (first | refine agree_upd rfl ?_ | refine agree_upds' rfl ?_ | exact agree_refl)), rfl⟩
                · refine WL.gyes rfl rfl hb114 ?_
                  refine WL.valw (R.mv (v := (boo r107.2.1)) rfl) ?_
                  refine WL.valw (R.pickF rfl hb114 rfl) ?_
                  exact WL.nil ⟨(orF hb114), (by repeat (first | refine agree_upd rfl ?_ | refine agree_upds' rfl ?_ | exact agree_refl)), rfl⟩
              · intro us
                refine WL.valw (R.mv (v := (boo ((!r107.2.2) || r107.2.1))) rfl) ?_
                refine WL.grp 6 [82, 83, 84, 85, 86] 87 (boo (((!r107.2.2) || r107.2.1) || ((r107.1.length : Int) != (p_ppend.length : Int)))) ?_ ?_
                · rcases boolE ((!r107.2.2) || r107.2.1) with hb116 | hb116
                  · refine WL.gno rfl rfl hb116 ?_
                    refine WL.gno rfl rfl hb116 ?_
                    refine WL.gno rfl rfl hb116 ?_
                    refine WL.gno rfl rfl hb116 ?_
                    refine WL.gno rfl rfl hb116 ?_
                    refine WL.valw (R.pickT rfl hb116 rfl) ?_
                    exact WL.nil ⟨(orT hb116), (by repeat (first | refine agree_upd rfl ?_ | refine agree_upds' rfl ?_ | exact agree_refl)), rfl⟩
                  · refine WL.gyes rfl rfl hb116 ?_
                    refine WL.valw (R.mv (v := u112) rfl) ?_
                    refine WL.gyes rfl rfl hb116 ?_
                    refine WL.valw (R.lenL (α := GETag) (xs := r107.1) (H := H110) R113 rfl Tryd.underlying47) ?_
                    refine WL.gyes rfl rfl hb116 ?_
                    refine WL.valw (R.mv (v := vp_ppend) h33) ?_
                    refine WL.gyes rfl rfl hb116 ?_
                    refine WL.valw (R.lenL (α := Str) (xs := p_ppend) (H := H110) Rp_ppend rfl Tryd.underlying31) ?_
                    refine WL.gyes rfl rfl hb116 ?_
                    refine WL.valw (R.neq rfl rfl) ?_
                    refine WL.valw (R.pickF rfl hb116 rfl) ?_
                    exact WL.nil ⟨(orF hb116), (by repeat (first | refine agree_upd rfl ?_ | refine agree_upds' rfl ?_ | exact agree_refl)), rfl⟩
                · intro us
                  refine WL.nil ?_
                  rcases condE h with ⟨hc118, h⟩ | ⟨hc118, h⟩
                  · refine WP.condT rfl hc118 ?_
                    refine WP.seq ?_
                    refine WP.region ?_
                    refine WL.valw (R.as (v := (boo false)) rfl) ?_
                    refine WL.nil ?_
                    obtain rfl := Option.some.inj h
                    refine WP.ret (Out.one rfl S rfl ?_)
                    exact rfl
                  · refine WP.condF rfl hc118 ?_
                    refine WP.skip ?_
                    refine WP.seq ?_
                    refine WP.seq ?_
                    refine WP.region ?_
                    refine WL.valw (R.as (v := (int 0)) rfl) ?_
                    refine WL.nil ?_
                    obtain ⟨r128, hr129, h⟩ := bindE h
                    refine WP.cut (fun f w => match r128 with | .inl _ => ∃ (H124 : Hp), St w0 H0 w H124 [] | .inr _ => False) ?_ ?_
                    · refine WP.block ?_
                      refine WP.loopM (law21_EtagLines_L1 p_ppend r107) (fun s f w => match s with | y_122 => ∃ (H119 : Hp), f 0 = vp_ppend ∧ f 9 = u112 ∧ f 12 = (int y_122) ∧ Sl (α := Str) H119 vp_ppend p_ppend ∧ Sl (α := GETag) H119 u112 r107.1 ∧ St w0 H0 w H119 []) 0 r128 hr129 ?_ ?_
                      · exact ⟨H110, h33, rfl, rfl, Rp_ppend, R113, (S.drop _ (.cons _ (.cons _ (.cons _ .slnil))))⟩
                      · intro y_122 f w hI y125 hy126 hy127
                        obtain ⟨H119, h120, h121, h123, Rp_ppend, R113, S⟩ := hI
                        refine WP.seq ?_
                        refine WP.seq ?_
                        refine WP.region ?_
                        refine WL.valw (R.mv (v := (int y_122)) h123) ?_
                        refine WL.valw (R.mv (v := u112) h121) ?_
                        refine WL.valw (R.lenL (α := GETag) (xs := r107.1) (H := H119) R113 rfl Tryd.underlying47) ?_
                        refine WL.valw (R.lss rfl rfl) ?_
                        refine WL.nil ?_
                        rcases condE hy126 with ⟨hc130, hy126⟩ | ⟨hc130, hy126⟩
                        · refine WP.condT rfl hc130 ?_
                          refine WP.skip ?_
                          refine WP.seq ?_
                          refine WP.block ?_
                          refine WP.seq ?_
                          refine WP.quiet S (by kernel_rfl) (by kernel_rfl) ?_
                          refine WQ.val (fun _ _ => (R.mv (v := u112) h121)) ?_
                          refine WQ.val (fun _ _ => (R.mv (v := (int y_122)) h123)) ?_
                          obtain ⟨x134, hx134, hy126⟩ := bindE hy126
                          refine WQ.idx (α := GETag) R113 rfl rfl el47 hx134 ?_
                          rintro a135 _ hA136 rfl
                          refine WQ.val (fun _ _ => (R.field rfl fld45_1)) ?_
                          have hA137 := At.add hA136 1 (by simp)
                          refine WQ.val (fun w hw => by obtain ⟨_, hq, S⟩ := hw; exact (R.loadH (v := (str x134.fTag)) S rfl (At.mono hA137 hq (by simp)) lay9 rfl)) ?_
                          refine WQ.val (fun _ _ => (R.mv (v := vp_ppend) h120)) ?_
                          refine WQ.val (fun _ _ => (R.mv (v := (int y_122)) h123)) ?_
                          obtain ⟨x138, hx138, hy126⟩ := bindE hy126
                          refine WQ.idx (α := Str) Rp_ppend rfl rfl el31 hx138 ?_
                          rintro a139 _ hA140 rfl
                          refine WQ.val (fun w hw => by obtain ⟨_, hq, S⟩ := hw; exact (R.loadH (v := (str x138)) S rfl (At.mono hA140 hq (by simp)) lay9 rfl)) ?_
                          refine WQ.val (fun _ _ => (R.neqS (a := x134.fTag) (b := x138) rfl rfl)) ?_
                          refine WQ.val (fun _ _ => (R.mv (v := (boo (x134.fTag != x138))) rfl)) ?_
                          obtain ⟨b148, hg142, hy126⟩ := bindE hy126
                          refine WQ.grp 10 [105, 106, 107, 108, 109, 110, 111, 112, 113] 114 (boo b148) ?_ ?_
                          · rcases boolE (x134.fTag != x138) with hb141 | hb141
                            · replace hg142 := condT hg142 hb141
                              refine WQ.gno rfl rfl hb141 ?_
                              refine WQ.gno rfl rfl hb141 ?_
                              refine WQ.gno rfl rfl hb141 ?_
                              refine WQ.gno rfl rfl hb141 ?_
                              refine WQ.gno rfl rfl hb141 ?_
                              refine WQ.gno rfl rfl hb141 ?_
                              refine WQ.gno rfl rfl hb141 ?_
                              refine WQ.gno rfl rfl hb141 ?_
                              refine WQ.gno rfl rfl hb141 ?_
                              refine WQ.val (fun _ _ => (R.pickT rfl hb141 rfl)) ?_
                              exact WQ.nil ⟨(congrArg boo (Option.some.inj hg142)), (by repeat (first | refine agree_upd rfl ?_ | refine agree_upds' rfl ?_ | exact agree_refl))⟩
                            · replace hg142 := condF hg142 hb141
                              refine WQ.gyes rfl rfl hb141 ?_
                              refine WQ.val (fun _ _ => (R.mv (v := u112) h121)) ?_
                              refine WQ.gyes rfl rfl hb141 ?_
                              refine WQ.val (fun _ _ => (R.mv (v := (int y_122)) h123)) ?_
                              refine WQ.gyes rfl rfl hb141 ?_
                              obtain ⟨x143, hx143, hg142⟩ := bindE hg142
                              refine WQ.idx (α := GETag) R113 rfl rfl el47 hx143 ?_
                              rintro a144 _ hA145 rfl
                              refine WQ.gyes rfl rfl hb141 ?_
                              refine WQ.val (fun _ _ => (R.field rfl fld45_0)) ?_
                              have hA146 := At.add hA145 0 (by simp)
                              refine WQ.gyes rfl rfl hb141 ?_
                              refine WQ.val (fun w hw => by obtain ⟨_, hq, S⟩ := hw; exact (R.loadH (v := (boo x143.fWeak)) S rfl (At.mono hA146 hq (by simp)) lay4 rfl)) ?_
                              refine WQ.gyes rfl rfl hb141 ?_
                              refine WQ.val (fun _ _ => (R.mv (v := (int y_122)) h123)) ?_
                              refine WQ.gyes rfl rfl hb141 ?_
                              obtain ⟨n147, hn147, hg142⟩ := bindE hg142
                              refine WQ.val (fun _ _ => (R.rem' rfl rfl hn147)) ?_
                              refine WQ.gyes rfl rfl hb141 ?_
                              refine WQ.val (fun _ _ => (R.eql rfl rfl)) ?_
                              refine WQ.gyes rfl rfl hb141 ?_
                              refine WQ.val (fun _ _ => (R.neqB rfl rfl Tryd.underlying4)) ?_
                              refine WQ.val (fun _ _ => (R.pickF rfl hb141 rfl)) ?_
                              exact WQ.nil ⟨(congrArg boo (Option.some.inj hg142)), (by repeat (first | refine agree_upd rfl ?_ | refine agree_upds' rfl ?_ | exact agree_refl))⟩
                          · intro us
                            refine WQ.nil ?_
                            intro w131 H132 hle133 S
                            have Rp_ppend := Sl.mono Rp_ppend hle133
                            have R113 := Sl.mono R113 hle133
                            have hA136 := At.mono hA136 hle133 (by simp)
                            have hA137 := At.mono hA137 hle133 (by simp)
                            have hA140 := At.mono hA140 hle133 (by simp)
                            rcases condE hy126 with ⟨hc149, hy126⟩ | ⟨hc149, hy126⟩
                            · refine WP.condT rfl hc149 ?_
                              refine WP.seq ?_
                              refine WP.region ?_
                              refine WL.valw (R.as (v := (boo false)) rfl) ?_
                              refine WL.nil ?_
                              obtain rfl := Option.some.inj hy126
                              obtain rfl := hy127
                              obtain rfl := Option.some.inj h
                              refine WP.ret (Out.one rfl S rfl ?_)
                              exact rfl
                            · refine WP.condF rfl hc149 ?_
                              refine WP.skip ?_
                              refine WP.region ?_
                              refine WL.valw (R.mv (v := (int y_122)) h123) ?_
                              refine WL.valw (R.add rfl rfl) ?_
                              refine WL.valw (R.as (v := (int (wr (y_122 + 1)))) rfl) ?_
                              refine WL.nil ?_
                              obtain rfl := Option.some.inj hy126
                              exact ⟨rfl, ⟨H132, h120, h121, rfl, Rp_ppend, R113, S⟩⟩
                        · refine WP.condF rfl hc130 ?_
                          refine WP.exit ?_
                          obtain rfl := Option.some.inj hy126
                          obtain rfl := hy127
                          exact ⟨H119, S⟩
                    · intro f w hM
                      rcases r128 with _ | e
                      · obtain ⟨H124, S⟩ := hM
                        refine WP.seq ?_
                        refine WP.region ?_
                        obtain ⟨r150, hr150, h⟩ := bindE h
                        refine W.call S rfl (law21_awake_ok S.holds  hr150) ?_
                        rintro v151 w152 H153 hle154 S rfl
                        refine WL.valw (R.as (v := (boo r150)) rfl) ?_
                        refine WL.nil ?_
                        obtain rfl := Option.some.inj h
                        refine WP.ret (Out.one rfl S rfl ?_)
                        exact rfl
                      · exact hM.elim
            · exact hM.elim
set_option maxHeartbeats 4000000 in
theorem fieldline_First_ok {w0 : World} {H0 : Hp} (hw : Holds w0 H0) (p_l : (List GField)) (p_name : Str) {vp_l : Value} (Rp_l : Sl (α := GField) H0 vp_l p_l) {r : (Str × Bool)} (h : fieldline_First p_l p_name = some r) :
    Con Tryd.prog 52 [vp_l, (str p_name)] w0 H0 (fun H' v => v = (.tuple ⟨[(str r.1), (boo r.2)]⟩)) := by
  refine Con.mk (N := 16) Tryd.func52 rfl rfl (by kernel_rfl) rfl ?_
  have S := St.start hw
  refine WP.seq ?_
  refine WP.region ?_
  refine WL.valw (R.as (v := (str [])) rfl) ?_
  refine WL.valw (R.as (v := (boo false)) rfl) ?_
  refine WL.nil ?_
  refine WP.seq ?_
  refine WP.region ?_
  refine WL.valw (R.mv (v := vp_l) rfl) ?_
  refine WL.valw (R.mv (v := (str p_name)) rfl) ?_
  obtain ⟨r1, hr1, h⟩ := bindE h
  refine W.call S rfl (fieldline_Get_ok S.holds p_l p_name Rp_l hr1) ?_
  rintro v2 w3 H4 hle5 S R6
  have Rp_l := Sl.mono Rp_l hle5
  refine WL.valw (R.as (v := v2) rfl) ?_
  refine WL.nil ?_
  refine WP.seq ?_
  refine WP.seq ?_
  refine WP.region ?_
  refine WL.valw (R.mv (v := v2) rfl) ?_
  refine WL.valw (R.lenL (α := Str) (xs := r1) (H := H4) R6 rfl Tryd.underlying31) ?_
  refine WL.valw (R.eql rfl rfl) ?_
  refine WL.nil ?_
  rcases condE h with ⟨hc7, h⟩ | ⟨hc7, h⟩
  · refine WP.condT rfl hc7 ?_
    refine WP.seq ?_
    refine WP.region ?_
    refine WL.valw (R.as (v := (str [])) rfl) ?_
    refine WL.valw (R.as (v := (boo false)) rfl) ?_
    refine WL.nil ?_
    obtain rfl := Option.some.inj h
    refine WP.ret (Out.two rfl S rfl rfl ?_)
    exact rfl
  · refine WP.condF rfl hc7 ?_
    refine WP.skip ?_
    refine WP.seq ?_
    refine WP.region ?_
    refine WL.valw (R.mv (v := v2) rfl) ?_
    obtain ⟨x8, hx8, h⟩ := bindE h
    refine W.idx (α := Str) R6 rfl rfl el31 hx8 ?_
    rintro a9 _ hA10 rfl
    refine WL.valw (R.loadH (v := (str x8)) S rfl hA10 lay9 rfl) ?_
    refine WL.valw (R.as (v := (str x8)) rfl) ?_
    refine WL.valw (R.as (v := (boo true)) rfl) ?_
    refine WL.nil ?_
    obtain rfl := Option.some.inj h
    refine WP.ret (Out.two rfl S rfl rfl ?_)
    exact rfl
set_option maxHeartbeats 4000000 in
theorem etag_Of_ok {w0 : World} {H0 : Hp} (hw : Holds w0 H0) (p_l : (List GField)) {vp_l : Value} (Rp_l : Sl (α := GField) H0 vp_l p_l) {r : (GETag × Bool)} (h : etag_Of p_l = some r) :
    Con Tryd.prog 33 [vp_l] w0 H0 (fun H' v => v = (.tuple ⟨[(agg [(boo r.1.fWeak), (str r.1.fTag)]), (boo r.2)]⟩)) := by
  refine Con.mk (N := 18) Tryd.func33 rfl rfl (by kernel_rfl) rfl ?_
  have S := St.start hw
  refine WP.seq ?_
  refine WP.region ?_
  refine W.alloc [(boo false), (str [])] S zer45 ?_
  intro b1 w2 S
  refine WL.valw (R.as (v := (boo false)) rfl) ?_
  refine WL.nil ?_
  refine WP.seq ?_
  refine WP.region ?_
  refine WL.valw (R.mv (v := vp_l) rfl) ?_
  obtain ⟨r3, hr3, h⟩ := bindE h
  refine W.call S rfl (fieldline_First_ok S.holds p_l [69, 84, 97, 103] Rp_l hr3) ?_
  rintro v4 w5 H6 hle7 S rfl
  have Rp_l := Sl.mono Rp_l hle7
  refine WL.valw (R.mv (v := (.tuple ⟨[(str r3.1), (boo r3.2)]⟩)) rfl) ?_
  refine WL.valw (R.ext rfl rfl) ?_
  refine WL.valw (R.ext rfl rfl) ?_
  refine WL.valw (R.as (v := (str r3.1)) rfl) ?_
  refine WL.valw (R.as (v := (boo r3.2)) rfl) ?_
  refine WL.nil ?_
  refine WP.seq ?_
  refine WP.seq ?_
  refine WP.region ?_
  refine WL.valw (R.mv (v := (boo r3.2)) rfl) ?_
  refine WL.valw (R.not rfl) ?_
  refine WL.nil ?_
  rcases condE h with ⟨hc8, h⟩ | ⟨hc8, h⟩
  · refine WP.condT rfl hc8 ?_
    refine WP.seq ?_
    refine WP.region ?_
    refine WL.valw (R.build [] [(boo false), (str [])] bp45 zer45 rfl rfl) ?_
    refine W.store (i := 0) [(boo false), (str [])] S rfl rfl rfl lay45 rfl rfl (Nat.le_of_ble_eq_true rfl) rfl ?_
    intro w9 S
    refine WL.valw (R.as (v := (boo false)) rfl) ?_
    refine WL.nil ?_
    obtain rfl := Option.some.inj h
    refine WP.ret (Out.two rfl S (Res.cellB (i := 0) (cs := [(boo false), (str [])]) S rfl rfl lay45 rfl rfl) rfl ?_)
    exact rfl
  · refine WP.condF rfl hc8 ?_
    refine WP.skip ?_
    refine WP.seq ?_
    refine WP.region ?_
    refine WL.valw (R.mv (v := (str r3.1)) rfl) ?_
    obtain ⟨r10, hr10, h⟩ := bindE h
    refine W.call S rfl (etag_Parse_ok S.holds r3.1 hr10) ?_
    rintro v11 w12 H13 hle14 S rfl
    have Rp_l := Sl.mono Rp_l hle14
    refine WL.valw (R.ext rfl rfl) ?_
    refine WL.valw (R.ext rfl rfl) ?_
    refine W.store (i := 0) [(boo r10.1.fWeak), (str r10.1.fTag)] S rfl rfl rfl lay45 rfl rfl (Nat.le_of_ble_eq_true rfl) rfl ?_
    intro w15 S
    refine WL.valw (R.as (v := (boo r10.2)) rfl) ?_
    refine WL.nil ?_
    obtain rfl := Option.some.inj h
    refine WP.ret (Out.two rfl S (Res.cellB (i := 0) (cs := [(boo r10.1.fWeak), (str r10.1.fTag)]) S rfl rfl lay45 rfl rfl) rfl ?_)
    exact rfl
set_option maxHeartbeats 4000000 in
theorem ref01_First_ok {w0 : World} {H0 : Hp} (hw : Holds w0 H0) (p_l : (List GField)) (p_name : Str) {vp_l : Value} (Rp_l : Sl (α := GField) H0 vp_l p_l) {r : (Str × Bool)} (h : ref01_First p_l p_name = some r) :
    Con Tryd.prog 53 [vp_l, (str p_name)] w0 H0 (fun H' v => v = (.tuple ⟨[(str r.1), (boo r.2)]⟩)) := by
  refine Con.mk (N := 16) Tryd.func53 rfl rfl (by kernel_rfl) rfl ?_
  have S := St.start hw
  refine WP.seq ?_
  refine WP.region ?_
  refine WL.valw (R.as (v := (str [])) rfl) ?_
  refine WL.valw (R.as (v := (boo false)) rfl) ?_
  refine WL.nil ?_
  refine WP.seq ?_
  refine WP.seq ?_
  refine WP.region ?_
  refine WL.valw (R.mv (v := vp_l) rfl) ?_
  refine WL.valw (R.mv (v := (str p_name)) rfl) ?_
  obtain ⟨r1, hr1, h⟩ := bindE h
  refine W.call S rfl (ref01_Get_ok S.holds p_l p_name Rp_l hr1) ?_
  rintro v2 w3 H4 hle5 S R6
  have Rp_l := Sl.mono Rp_l hle5
  refine WL.valw (R.as (v := v2) rfl) ?_
  refine WL.nil ?_
  refine WP.seq ?_
  refine WP.region ?_
  refine WL.valw (R.mv (v := v2) rfl) ?_
  refine WL.valw (R.lenL (α := Str) (xs := r1) (H := H4) R6 rfl Tryd.underlying31) ?_
  refine WL.valw (R.gtr rfl rfl) ?_
  refine WL.nil ?_
  rcases condE h with ⟨hc7, h⟩ | ⟨hc7, h⟩
  · refine WP.condT rfl hc7 ?_
    refine WP.seq ?_
    refine WP.region ?_
    refine WL.valw (R.mv (v := v2) rfl) ?_
    obtain ⟨x8, hx8, h⟩ := bindE h
    refine W.idx (α := Str) R6 rfl rfl el31 hx8 ?_
    rintro a9 _ hA10 rfl
    refine WL.valw (R.loadH (v := (str x8)) S rfl hA10 lay9 rfl) ?_
    refine WL.valw (R.as (v := (str x8)) rfl) ?_
    refine WL.valw (R.as (v := (boo true)) rfl) ?_
    refine WL.nil ?_
    obtain rfl := Option.some.inj h
    refine WP.ret (Out.two rfl S rfl rfl ?_)
    exact rfl
  · refine WP.condF rfl hc7 ?_
    refine WP.skip ?_
    refine WP.seq ?_
    refine WP.region ?_
    refine WL.valw (R.as (v := (str [])) rfl) ?_
    refine WL.valw (R.as (v := (boo false)) rfl) ?_
    refine WL.nil ?_
    obtain rfl := Option.some.inj h
    refine WP.ret (Out.two rfl S rfl rfl ?_)
    exact rfl
end Go.Proofs
