/- A part of the proof of laws of the seat: written by program over the translation. -/
import Derived.Test.YtggmjoffcdnplaaDoorGenB3
namespace Go.Proofs
open Go.Eng Go.Eng.Pure
set_option linter.unusedVariables false
set_option maxHeartbeats 4000000 in
theorem strings_CutPrefix_ok {w0 : World} {H0 : Hp} (hw : Holds w0 H0) (p_s : Str) (p_prefix : Str) {r : (Str × Bool)} (h : strings_CutPrefix p_s p_prefix = some r) :
    Con Tryd.prog 66 [(str p_s), (str p_prefix)] w0 H0 (fun H' v => v = (.tuple ⟨[(str r.1), (boo r.2)]⟩)) := by
  refine Con.mk (N := 11) Tryd.func66 rfl rfl (by kernel_rfl) rfl ?_
  have S := St.start hw
  refine WP.seq ?_
  refine WP.region ?_
  refine WL.valw (R.as (v := (str [])) rfl) ?_
  refine WL.valw (R.as (v := (boo false)) rfl) ?_
  refine WL.nil ?_
  refine WP.seq ?_
  refine WP.region ?_
  refine WL.valw (R.mv (v := (str p_s)) rfl) ?_
  refine WL.valw (R.mv (v := (str p_prefix)) rfl) ?_
  obtain ⟨r1, hr1, h⟩ := bindE h
  refine W.call S rfl (stringslite_CutPrefix_ok S.holds p_s p_prefix hr1) ?_
  rintro v2 w3 H4 hle5 S rfl
  refine WL.valw (R.ext rfl rfl) ?_
  refine WL.valw (R.ext rfl rfl) ?_
  refine WL.valw (R.as (v := (str r1.1)) rfl) ?_
  refine WL.valw (R.as (v := (boo r1.2)) rfl) ?_
  refine WL.nil ?_
  obtain rfl := Option.some.inj h
  refine WP.ret (Out.two rfl S rfl rfl ?_)
  exact rfl
set_option maxHeartbeats 4000000 in
theorem etag_permitted_ok {w0 : World} {H0 : Hp} (hw : Holds w0 H0) (p_s : Str) {r : Bool} (h : etag_permitted p_s = some r) :
    Con Tryd.prog 67 [(str p_s)] w0 H0 (fun H' v => v = (boo r)) := by
  refine Con.mk (N := 24) Tryd.func67 rfl rfl (by kernel_rfl) rfl ?_
  have S := St.start hw
  refine WP.seq ?_
  refine WP.region ?_
  refine WL.valw (R.as (v := (boo false)) rfl) ?_
  refine WL.nil ?_
  refine WP.seq ?_
  refine WP.seq ?_
  refine WP.region ?_
  refine WL.valw (R.mv (v := (str p_s)) rfl) ?_
  refine WL.valw (R.lenS (a := p_s) rfl Tryd.underlying9) ?_
  refine WL.valw (R.mv (v := (int 0)) rfl) ?_
  refine WL.nil ?_
  obtain ⟨r10, hr11, h⟩ := bindE h
  refine WP.cut (fun f w => match r10 with | .inl _ => ∃ (H6 : Hp), St w0 H0 w H6 [] | .inr _ => False) ?_ ?_
  · refine WP.block ?_
    refine WP.loopM (etag_permitted_L0 p_s) (fun s f w => match s with | y_4 => ∃ (H1 : Hp), f 0 = (str p_s) ∧ f 6 = (int (p_s.length : Int)) ∧ f 7 = (int y_4) ∧ St w0 H0 w H1 []) 0 r10 hr11 ?_ ?_
    · exact ⟨H0, rfl, rfl, rfl, S⟩
    · intro y_4 f w hI y7 hy8 hy9
      obtain ⟨H1, h2, h3, h5, S⟩ := hI
      refine WP.seq ?_
      refine WP.region ?_
      refine WL.valw (R.lss h5 h3) ?_
      refine WL.nil ?_
      refine WP.seq ?_
      rcases condE hy8 with ⟨hc12, hy8⟩ | ⟨hc12, hy8⟩
      · refine WP.condT rfl hc12 ?_
        refine WP.skip ?_
        refine WP.seq ?_
        refine WP.block ?_
        refine WP.seq ?_
        refine WP.region ?_
        refine WL.valw (R.mv (v := (int y_4)) h5) ?_
        refine WL.valw (R.as (v := (int y_4)) rfl) ?_
        refine WL.nil ?_
        refine WP.seq ?_
        refine WP.region ?_
        refine WL.valw (R.mv (v := (str p_s)) h2) ?_
        refine WL.valw (R.mv (v := (int y_4)) rfl) ?_
        obtain ⟨c13, hc13, hy8⟩ := bindE hy8
        refine WL.valw (R.idxS rfl rfl Tryd.underlying9 hc13) ?_
        refine WL.valw (R.as (v := (byt c13)) rfl) ?_
        refine WL.nil ?_
        refine WP.seq ?_
        refine WP.region ?_
        refine WL.valw (R.mv (v := (byt c13)) rfl) ?_
        refine WL.valw (R.lss8 (a := c13) (b := 33) rfl rfl) ?_
        refine WL.valw (R.mv (v := (boo (decide (c13 < 33)))) rfl) ?_
        refine WL.grp 3 [16, 17] 18 (boo ((decide (c13 < 33)) || (c13 == 34))) ?_ ?_
        · rcases boolE (decide (c13 < 33)) with hb14 | hb14
          · refine WL.gno rfl rfl hb14 ?_
            refine WL.gno rfl rfl hb14 ?_
            refine WL.valw (R.pickT rfl hb14 rfl) ?_
            exact WL.nil ⟨(orT hb14), (by repeat (first | refine agree_upd rfl ?_ | refine agree_upds' rfl ?_ | exact agree_refl)), rfl⟩
          · refine WL.gyes rfl rfl hb14 ?_
            refine WL.valw (R.mv (v := (byt c13)) rfl) ?_
            refine WL.gyes rfl rfl hb14 ?_
            refine WL.valw (R.eql8 (a := c13) (b := 34) rfl rfl) ?_
            refine WL.valw (R.pickF rfl hb14 rfl) ?_
            exact WL.nil ⟨(orF hb14), (by repeat (first | refine agree_upd rfl ?_ | refine agree_upds' rfl ?_ | exact agree_refl)), rfl⟩
        · intro us
          refine WL.valw (R.mv (v := (boo ((decide (c13 < 33)) || (c13 == 34)))) rfl) ?_
          refine WL.grp 3 [20, 21] 22 (boo (((decide (c13 < 33)) || (c13 == 34)) || (c13 == 127))) ?_ ?_
          · rcases boolE ((decide (c13 < 33)) || (c13 == 34)) with hb16 | hb16
            · refine WL.gno rfl rfl hb16 ?_
              refine WL.gno rfl rfl hb16 ?_
              refine WL.valw (R.pickT rfl hb16 rfl) ?_
              exact WL.nil ⟨(orT hb16), (by repeat (first | refine agree_upd rfl ?_ | refine agree_upds' rfl ?_ | exact agree_refl)), rfl⟩
            · refine WL.gyes rfl rfl hb16 ?_
              refine WL.valw (R.mv (v := (byt c13)) rfl) ?_
              refine WL.gyes rfl rfl hb16 ?_
              refine WL.valw (R.eql8 (a := c13) (b := 127) rfl rfl) ?_
              refine WL.valw (R.pickF rfl hb16 rfl) ?_
              exact WL.nil ⟨(orF hb16), (by repeat (first | refine agree_upd rfl ?_ | refine agree_upds' rfl ?_ | exact agree_refl)), rfl⟩
          · intro us
            refine WL.nil ?_
            rcases condE hy8 with ⟨hc18, hy8⟩ | ⟨hc18, hy8⟩
            · refine WP.condT rfl hc18 ?_
              refine WP.seq ?_
              refine WP.region ?_
              refine WL.valw (R.as (v := (boo false)) rfl) ?_
              refine WL.nil ?_
              obtain rfl := Option.some.inj hy8
              obtain rfl := hy9
              obtain rfl := Option.some.inj h
              refine WP.ret (Out.one rfl S rfl ?_)
              exact rfl
            · refine WP.condF rfl hc18 ?_
              refine WP.skip ?_
              refine WP.region ?_
              refine WL.valw (R.add h5 rfl) ?_
              refine WL.valw (R.mv (v := (int (wr (y_4 + 1)))) rfl) ?_
              refine WL.nil ?_
              obtain rfl := Option.some.inj hy8
              exact ⟨rfl, ⟨H1, h2, h3, rfl, S⟩⟩
      · refine WP.condF rfl hc12 ?_
        refine WP.exit ?_
        obtain rfl := Option.some.inj hy8
        obtain rfl := hy9
        exact ⟨H1, S⟩
  · intro f w hM
    rcases r10 with _ | e
    · obtain ⟨H6, S⟩ := hM
      refine WP.seq ?_
      refine WP.region ?_
      refine WL.valw (R.as (v := (boo true)) rfl) ?_
      refine WL.nil ?_
      obtain rfl := Option.some.inj h
      refine WP.ret (Out.one rfl S rfl ?_)
      exact rfl
    · exact hM.elim
set_option maxHeartbeats 4000000 in
theorem etag_Parse_ok {w0 : World} {H0 : Hp} (hw : Holds w0 H0) (p_s : Str) {r : (GETag × Bool)} (h : etag_Parse p_s = some r) :
    Con Tryd.prog 49 [(str p_s)] w0 H0 (fun H' v => v = (.tuple ⟨[(agg [(boo r.1.fWeak), (str r.1.fTag)]), (boo r.2)]⟩)) := by
  refine Con.mk (N := 43) Tryd.func49 rfl rfl (by kernel_rfl) rfl ?_
  have S := St.start hw
  refine WP.seq ?_
  refine WP.region ?_
  refine W.alloc [(boo false), (str [])] S zer45 ?_
  intro b1 w2 S
  refine WL.valw (R.as (v := (boo false)) rfl) ?_
  refine WL.nil ?_
  refine WP.seq ?_
  refine WP.region ?_
  refine WL.valw (R.mv (v := (str p_s)) rfl) ?_
  obtain ⟨r3, hr3, h⟩ := bindE h
  refine W.call S rfl (strings_CutPrefix_ok S.holds p_s [87, 47] hr3) ?_
  rintro v4 w5 H6 hle7 S rfl
  refine WL.valw (R.mv (v := (.tuple ⟨[(str r3.1), (boo r3.2)]⟩)) rfl) ?_
  refine WL.valw (R.ext rfl rfl) ?_
  refine WL.valw (R.ext rfl rfl) ?_
  refine WL.valw (R.as (v := (str r3.1)) rfl) ?_
  refine WL.valw (R.as (v := (boo r3.2)) rfl) ?_
  refine WL.nil ?_
  refine WP.seq ?_
  refine WP.seq ?_
  refine WP.region ?_
  refine WL.valw (R.mv (v := (str r3.1)) rfl) ?_
  refine WL.valw (R.lenS (a := r3.1) rfl Tryd.underlying9) ?_
  refine WL.valw (R.lss rfl rfl) ?_
  refine WL.valw (R.mv (v := (boo (decide ((r3.1.length : Int) < 2)))) rfl) ?_
  obtain ⟨b11, hg9, h⟩ := bindE h
  refine WL.grp 4 [14, 15, 16] 17 (boo b11) ?_ ?_
  · rcases boolE (decide ((r3.1.length : Int) < 2)) with hb8 | hb8
    · replace hg9 := condT hg9 hb8
      refine WL.gno rfl rfl hb8 ?_
      refine WL.gno rfl rfl hb8 ?_
      refine WL.gno rfl rfl hb8 ?_
      refine WL.valw (R.pickT rfl hb8 rfl) ?_
      exact WL.nil ⟨(congrArg boo (Option.some.inj hg9)), (by repeat (first | refine agree_upd rfl ?_ | refine agree_upds' rfl ?_ | exact agree_refl)), rfl⟩
    · replace hg9 := condF hg9 hb8
      refine WL.gyes rfl rfl hb8 ?_
      refine WL.valw (R.mv (v := (str r3.1)) rfl) ?_
      refine WL.gyes rfl rfl hb8 ?_
      obtain ⟨c10, hc10, hg9⟩ := bindE hg9
      refine WL.valw (R.idxS rfl rfl Tryd.underlying9 hc10) ?_
      refine WL.gyes rfl rfl hb8 ?_
      refine WL.valw (R.neq8 (a := c10) (b := 34) rfl rfl) ?_
      refine WL.valw (R.pickF rfl hb8 rfl) ?_
      exact WL.nil ⟨(congrArg boo (Option.some.inj hg9)), (by repeat (first | refine agree_upd rfl ?_ | refine agree_upds' rfl ?_ | exact agree_refl)), rfl⟩
  · intro us
    refine WL.valw (R.mv (v := (boo b11)) rfl) ?_
    obtain ⟨b15, hg13, h⟩ := bindE h
    refine WL.grp 7 [19, 20, 21, 22, 23, 24] 25 (boo b15) ?_ ?_
    · rcases boolE b11 with hb12 | hb12
      · replace hg13 := condT hg13 hb12
        refine WL.gno rfl rfl hb12 ?_
        refine WL.gno rfl rfl hb12 ?_
        refine WL.gno rfl rfl hb12 ?_
        refine WL.gno rfl rfl hb12 ?_
        refine WL.gno rfl rfl hb12 ?_
        refine WL.gno rfl rfl hb12 ?_
        refine WL.valw (R.pickT rfl hb12 rfl) ?_
        exact WL.nil ⟨(congrArg boo (Option.some.inj hg13)), (by repeat (first | refine agree_upd rfl ?_ | refine agree_upds' rfl ?_ | exact agree_refl)), rfl⟩
      · replace hg13 := condF hg13 hb12
        refine WL.gyes rfl rfl hb12 ?_
        refine WL.valw (R.mv (v := (str r3.1)) rfl) ?_
        refine WL.gyes rfl rfl hb12 ?_
        refine WL.valw (R.mv (v := (str r3.1)) rfl) ?_
        refine WL.gyes rfl rfl hb12 ?_
        refine WL.valw (R.lenS (a := r3.1) rfl Tryd.underlying9) ?_
        refine WL.gyes rfl rfl hb12 ?_
        refine WL.valw (R.sub rfl rfl) ?_
        refine WL.gyes rfl rfl hb12 ?_
        obtain ⟨c14, hc14, hg13⟩ := bindE hg13
        refine WL.valw (R.idxS rfl rfl Tryd.underlying9 hc14) ?_
        refine WL.gyes rfl rfl hb12 ?_
        refine WL.valw (R.neq8 (a := c14) (b := 34) rfl rfl) ?_
        refine WL.valw (R.pickF rfl hb12 rfl) ?_
        exact WL.nil ⟨(congrArg boo (Option.some.inj hg13)), (by repeat (first | refine agree_upd rfl ?_ | refine agree_upds' rfl ?_ | exact agree_refl)), rfl⟩
    · intro us
      refine WL.valw (R.mv (v := (boo b15)) rfl) ?_
      obtain ⟨b24, hg17, h⟩ := bindE h
      refine WL.grpw 8 [27, 28, 29, 30, 31, 32, 33] 34 (boo b24) (fun w => ∃ H' : Hp, H6.le H' ∧ St w0 H0 w H' [.box b1 45 [(boo false), (str [])]]) ?_ ?_
      · rcases boolE b15 with hb16 | hb16
        · replace hg17 := condT hg17 hb16
          refine WL.gno rfl rfl hb16 ?_
          refine WL.gno rfl rfl hb16 ?_
          refine WL.gno rfl rfl hb16 ?_
          refine WL.gno rfl rfl hb16 ?_
          refine WL.gno rfl rfl hb16 ?_
          refine WL.gno rfl rfl hb16 ?_
          refine WL.gno rfl rfl hb16 ?_
          refine WL.valw (R.pickT rfl hb16 rfl) ?_
          exact WL.nil ⟨(congrArg boo (Option.some.inj hg17)), (by repeat (first | refine agree_upd rfl ?_ | refine agree_upds' rfl ?_ | exact agree_refl)), ⟨H6, (Hp.le.refl _), S⟩⟩
        · replace hg17 := condF hg17 hb16
          refine WL.gyes rfl rfl hb16 ?_
          refine WL.valw (R.mv (v := (str r3.1)) rfl) ?_
          refine WL.gyes rfl rfl hb16 ?_
          refine WL.valw (R.mv (v := (str r3.1)) rfl) ?_
          refine WL.gyes rfl rfl hb16 ?_
          refine WL.valw (R.lenS (a := r3.1) rfl Tryd.underlying9) ?_
          refine WL.gyes rfl rfl hb16 ?_
          refine WL.valw (R.sub rfl rfl) ?_
          refine WL.gyes rfl rfl hb16 ?_
          obtain ⟨s18, hs18, hg17⟩ := bindE hg17
          refine WL.valw (R.subS rfl rfl rfl Tryd.underlying9 hs18) ?_
          refine WL.gyes rfl rfl hb16 ?_
          obtain ⟨r19, hr19, hg17⟩ := bindE hg17
          refine W.call S rfl (etag_permitted_ok S.holds s18 hr19) ?_
          rintro v20 w21 H22 hle23 S rfl
          refine WL.gyes rfl rfl hb16 ?_
          refine WL.valw (R.not rfl) ?_
          refine WL.valw (R.pickF rfl hb16 rfl) ?_
          exact WL.nil ⟨(congrArg boo (Option.some.inj hg17)), (by repeat (first | refine agree_upd rfl ?_ | refine agree_upds' rfl ?_ | exact agree_refl)), ⟨H22, hle23, S⟩⟩
      · intro us w26 ⟨H25, hle27, S⟩
        refine WL.nil ?_
        rcases condE h with ⟨hc28, h⟩ | ⟨hc28, h⟩
        · refine WP.condT rfl hc28 ?_
          refine WP.seq ?_
          refine WP.region ?_
          refine WL.valw (R.build [] [(boo false), (str [])] bp45 zer45 rfl rfl) ?_
          refine W.store (i := 0) [(boo false), (str [])] S rfl rfl rfl lay45 rfl rfl (Nat.le_of_ble_eq_true rfl) rfl ?_
          intro w29 S
          refine WL.valw (R.as (v := (boo false)) rfl) ?_
          refine WL.nil ?_
          obtain rfl := Option.some.inj h
          refine WP.ret (Out.two rfl S (Res.cellB (i := 0) (cs := [(boo false), (str [])]) S rfl rfl lay45 rfl rfl) rfl ?_)
          exact rfl
        · refine WP.condF rfl hc28 ?_
          refine WP.skip ?_
          refine WP.seq ?_
          refine WP.region ?_
          refine WL.valw (R.mv (v := (boo r3.2)) rfl) ?_
          refine WL.valw (R.mv (v := (str r3.1)) rfl) ?_
          refine WL.valw (R.mv (v := (str r3.1)) rfl) ?_
          refine WL.valw (R.lenS (a := r3.1) rfl Tryd.underlying9) ?_
          refine WL.valw (R.sub rfl rfl) ?_
          obtain ⟨s30, hs30, h⟩ := bindE h
          refine WL.valw (R.subS rfl rfl rfl Tryd.underlying9 hs30) ?_
          refine WL.valw (R.build [(0, (boo r3.2)), (1, (str s30))] [(boo r3.2), (str s30)] bp45 zer45 rfl rfl) ?_
          refine W.store (i := 0) [(boo r3.2), (str s30)] S rfl rfl rfl lay45 rfl rfl (Nat.le_of_ble_eq_true rfl) rfl ?_
          intro w31 S
          refine WL.valw (R.as (v := (boo true)) rfl) ?_
          refine WL.nil ?_
          obtain rfl := Option.some.inj h
          refine WP.ret (Out.two rfl S (Res.cellB (i := 0) (cs := [(boo r3.2), (str s30)]) S rfl rfl lay45 rfl rfl) rfl ?_)
          exact rfl
set_option maxHeartbeats 4000000 in
theorem etag_List_ok {w0 : World} {H0 : Hp} (hw : Holds w0 H0) (p_l : (List GField)) (p_name : Str) {vp_l : Value} (Rp_l : Sl (α := GField) H0 vp_l p_l) {r : ((List GETag) × Bool × Bool)} (h : etag_List p_l p_name = some r) :
    Con Tryd.prog 31 [vp_l, (str p_name)] w0 H0 (fun H' v => ∃ u1 : Value, v = (.tuple ⟨[u1, (boo r.2.1), (boo r.2.2)]⟩) ∧ Sl (α := GETag) H' u1 r.1) := by
  refine Con.mk (N := 52) Tryd.func31 rfl rfl (by kernel_rfl) rfl ?_
  have S := St.start hw
  refine WP.seq ?_
  refine WP.region ?_
  refine WL.valw (R.as (v := (.slice none 0 0)) rfl) ?_
  refine WL.valw (R.as (v := (boo false)) rfl) ?_
  refine WL.valw (R.as (v := (boo false)) rfl) ?_
  refine WL.nil ?_
  refine WP.seq ?_
  refine WP.region ?_
  refine WL.valw (R.mv (v := vp_l) rfl) ?_
  refine WL.valw (R.mv (v := (str p_name)) rfl) ?_
  obtain ⟨r1, hr1, h⟩ := bindE h
  refine W.call S rfl (list_All_ok S.holds p_l p_name Rp_l hr1) ?_
  rintro v2 w3 H4 hle5 S R6
  have Rp_l := Sl.mono Rp_l hle5
  refine WL.valw (R.as (v := v2) rfl) ?_
  refine WL.nil ?_
  refine WP.seq ?_
  refine WP.seq ?_
  refine WP.region ?_
  refine WL.valw (R.mv (v := v2) rfl) ?_
  refine WL.valw (R.lenL (α := Str) (xs := r1) (H := H4) R6 rfl Tryd.underlying31) ?_
  refine WL.valw (R.eql rfl rfl) ?_
  refine WL.valw (R.mv (v := (boo ((r1.length : Int) == 1))) rfl) ?_
  obtain ⟨b12, hg8, h⟩ := bindE h
  refine WL.grp 5 [20, 21, 22, 23] 24 (boo b12) ?_ ?_
  · rcases boolE ((r1.length : Int) == 1) with hb7 | hb7
    · replace hg8 := condT hg8 hb7
      refine WL.gyes rfl rfl hb7 ?_
      refine WL.valw (R.mv (v := v2) rfl) ?_
      refine WL.gyes rfl rfl hb7 ?_
      obtain ⟨x9, hx9, hg8⟩ := bindE hg8
      refine W.idx (α := Str) R6 rfl rfl el31 hx9 ?_
      rintro a10 _ hA11 rfl
      refine WL.gyes rfl rfl hb7 ?_
      refine WL.valw (R.loadH (v := (str x9)) S rfl hA11 lay9 rfl) ?_
      refine WL.gyes rfl rfl hb7 ?_
      refine WL.valw (R.eqlS (a := x9) (b := [42]) rfl rfl) ?_
      refine WL.valw (R.pickT rfl hb7 rfl) ?_
      exact WL.nil ⟨(congrArg boo (Option.some.inj hg8)), (by repeat (first | refine agree_upd rfl ?_ | refine agree_upds' rfl ?_ | exact agree_refl)), rfl⟩
    · replace hg8 := condF hg8 hb7
      refine WL.gno rfl rfl hb7 ?_
      refine WL.gno rfl rfl hb7 ?_
      refine WL.gno rfl rfl hb7 ?_
      refine WL.gno rfl rfl hb7 ?_
      refine WL.valw (R.pickF rfl hb7 rfl) ?_
      exact WL.nil ⟨(congrArg boo (Option.some.inj hg8)), (by repeat (first | refine agree_upd rfl ?_ | refine agree_upds' rfl ?_ | exact agree_refl)), rfl⟩
  · intro us
    refine WL.nil ?_
    rcases condE h with ⟨hc13, h⟩ | ⟨hc13, h⟩
    · refine WP.condT rfl hc13 ?_
      refine WP.seq ?_
      refine WP.region ?_
      refine WL.valw (R.as (v := (.slice none 0 0)) rfl) ?_
      refine WL.valw (R.as (v := (boo true)) rfl) ?_
      refine WL.valw (R.as (v := (boo true)) rfl) ?_
      refine WL.nil ?_
      obtain rfl := Option.some.inj h
      refine WP.ret (Out.three rfl S rfl rfl rfl ?_)
      exact ⟨_, rfl, Sl.nil⟩
    · refine WP.condF rfl hc13 ?_
      refine WP.skip ?_
      refine WP.seq ?_
      refine WP.seq ?_
      refine WP.region ?_
      refine WL.valw (R.mv (v := v2) rfl) ?_
      refine WL.valw (R.lenL (α := Str) (xs := r1) (H := H4) R6 rfl Tryd.underlying31) ?_
      refine WL.valw (R.eql rfl rfl) ?_
      refine WL.valw (R.mv (v := (boo ((r1.length : Int) == 0))) rfl) ?_
      refine WL.grp 4 [29, 30, 31] 32 (boo (((r1.length : Int) == 0) || (decide (64 ≤ (r1.length : Int))))) ?_ ?_
      · rcases boolE ((r1.length : Int) == 0) with hb14 | hb14
        · refine WL.gno rfl rfl hb14 ?_
          refine WL.gno rfl rfl hb14 ?_
          refine WL.gno rfl rfl hb14 ?_
          refine WL.valw (R.pickT rfl hb14 rfl) ?_
          exact WL.nil ⟨(orT hb14), (by repeat (first | refine agree_upd rfl ?_ | refine agree_upds' rfl ?_ | exact agree_refl)), rfl⟩
        · refine WL.gyes rfl rfl hb14 ?_
          refine WL.valw (R.mv (v := v2) rfl) ?_
          refine WL.gyes rfl rfl hb14 ?_
          refine WL.valw (R.lenL (α := Str) (xs := r1) (H := H4) R6 rfl Tryd.underlying31) ?_
          refine WL.gyes rfl rfl hb14 ?_
          refine WL.valw (R.geq rfl rfl) ?_
          refine WL.valw (R.pickF rfl hb14 rfl) ?_
          exact WL.nil ⟨(orF hb14), (by repeat (first | refine agree_upd rfl ?_ | refine agree_upds' rfl ?_ | exact agree_refl)), rfl⟩
      · intro us
        refine WL.nil ?_
        rcases condE h with ⟨hc16, h⟩ | ⟨hc16, h⟩
        · refine WP.condT rfl hc16 ?_
          refine WP.seq ?_
          refine WP.region ?_
          refine WL.valw (R.as (v := (.slice none 0 0)) rfl) ?_
          refine WL.valw (R.as (v := (boo false)) rfl) ?_
          refine WL.valw (R.as (v := (boo false)) rfl) ?_
          refine WL.nil ?_
          obtain rfl := Option.some.inj h
          refine WP.ret (Out.three rfl S rfl rfl rfl ?_)
          exact ⟨_, rfl, Sl.nil⟩
        · refine WP.condF rfl hc16 ?_
          refine WP.skip ?_
          refine WP.seq ?_
          refine WP.region ?_
          refine WL.valw (R.as (v := (.slice none 0 0)) rfl) ?_
          refine WL.nil ?_
          refine WP.seq ?_
          refine WP.seq ?_
          refine WP.region ?_
          refine WL.valw (R.mv (v := v2) rfl) ?_
          refine WL.valw (R.lenL (α := Str) (xs := r1) (H := H4) R6 rfl Tryd.underlying31) ?_
          refine WL.valw (R.mv (v := (int 0)) rfl) ?_
          refine WL.nil ?_
          have S := S.addNil 45 2
          obtain ⟨r36, hr37, h⟩ := bindE h
          refine WP.cut (fun f w => match r36 with | .inl out_29 => ∃ (H28 : Hp) (v30 : Value), f 8 = v30 ∧ Sl (α := GETag) H28 v30 out_29 ∧ St w0 H0 w H28 [.row v30 45 2 out_29.length] | .inr _ => False) ?_ ?_
          · refine WP.block ?_
            refine WP.loopM (etag_List_L0 r1) (fun s f w => match s with | (out_20, y_26) => ∃ (H19 : Hp) (v21 : Value), f 8 = v21 ∧ f 33 = v2 ∧ f 34 = (int (r1.length : Int)) ∧ f 35 = (int y_26) ∧ Sl (α := GETag) H19 v21 out_20 ∧ Sl (α := Str) H19 v2 r1 ∧ St w0 H0 w H19 [.row v21 45 2 out_20.length]) (([] : List GETag), 0) r36 hr37 ?_ ?_
            · exact ⟨H4, .slice none 0 0, rfl, rfl, rfl, rfl, Sl.nil, R6, S⟩
            · intro s f w hI y33 hy34 hy35
              obtain ⟨out_20, y_26⟩ := s
              obtain ⟨H19, v21, h23, h24, h25, h27, R22, R6, S⟩ := hI
              refine WP.seq ?_
              refine WP.region ?_
              refine WL.valw (R.lss h27 h25) ?_
              refine WL.nil ?_
              refine WP.seq ?_
              rcases condE hy34 with ⟨hc38, hy34⟩ | ⟨hc38, hy34⟩
              · refine WP.condT rfl hc38 ?_
                refine WP.skip ?_
                refine WP.seq ?_
                refine WP.block ?_
                refine WP.seq ?_
                refine WP.region ?_
                obtain ⟨x39, hx39, hy34⟩ := bindE hy34
                refine W.idx (α := Str) R6 h24 h27 el31 hx39 ?_
                rintro a40 _ hA41 rfl
                refine WL.valw (R.loadH (v := (str x39)) S rfl hA41 lay9 rfl) ?_
                refine WL.valw (R.as (v := (str x39)) rfl) ?_
                refine WL.nil ?_
                refine WP.seq ?_
                refine WP.region ?_
                refine WL.valw (R.mv (v := (str x39)) rfl) ?_
                obtain ⟨r42, hr42, hy34⟩ := bindE hy34
                refine W.call S rfl (etag_Parse_ok S.holds x39 hr42) ?_
                rintro v43 w44 H45 hle46 S rfl
                have R22 := Sl.mono R22 hle46
                have R6 := Sl.mono R6 hle46
                have hA41 := At.mono hA41 hle46 (by simp)
                refine WL.valw (R.mv (v := (.tuple ⟨[(agg [(boo r42.1.fWeak), (str r42.1.fTag)]), (boo r42.2)]⟩)) rfl) ?_
                refine WL.valw (R.ext rfl rfl) ?_
                refine WL.valw (R.ext rfl rfl) ?_
                refine W.alloc [(boo false), (str [])] S zer45 ?_
                intro b47 w48 S
                refine W.store (i := 0) [(boo r42.1.fWeak), (str r42.1.fTag)] S rfl rfl rfl lay45 rfl rfl (Nat.le_of_ble_eq_true rfl) rfl ?_
                intro w49 S
                refine WL.valw (R.as (v := (boo r42.2)) rfl) ?_
                refine WL.nil ?_
                refine WP.seq ?_
                refine WP.seq ?_
                refine WP.region ?_
                refine WL.valw (R.mv (v := (boo r42.2)) rfl) ?_
                refine WL.valw (R.not rfl) ?_
                refine WL.nil ?_
                rcases condE hy34 with ⟨hc50, hy34⟩ | ⟨hc50, hy34⟩
                · refine WP.condT rfl hc50 ?_
                  refine WP.seq ?_
                  refine WP.region ?_
                  refine WL.valw (R.as (v := (.slice none 0 0)) rfl) ?_
                  refine WL.valw (R.as (v := (boo false)) rfl) ?_
                  refine WL.valw (R.as (v := (boo false)) rfl) ?_
                  refine WL.nil ?_
                  obtain rfl := Option.some.inj hy34
                  obtain rfl := hy35
                  obtain rfl := Option.some.inj h
                  refine WP.ret (Out.three rfl S rfl rfl rfl ?_)
                  exact ⟨_, rfl, Sl.nil⟩
                · refine WP.condF rfl hc50 ?_
                  refine WP.skip ?_
                  refine WP.region ?_
                  refine WL.valw (R.mv (v := v21) h23) ?_
                  refine WL.valw (R.loadBN (i := 0) (vs := [(boo r42.1.fWeak), (str r42.1.fTag)]) S rfl rfl lay45 rfl rfl) ?_
                  refine W.bslice (α := GETag) [(agg [(boo r42.1.fWeak), (str r42.1.fTag)])] ([r42.1] : List GETag) S el47 rfl rfl rfl (by decide) (encS ⟨rfl, rfl⟩ enc0) ?_
                  intro u51 w52 H53 hle54 R55 S
                  have R22 := Sl.mono R22 hle54
                  have R6 := Sl.mono R6 hle54
                  have hA41 := At.mono hA41 hle54 (by simp)
                  obtain ⟨l56, hl56, hy34⟩ := bindE hy34
                  refine W.app (α := GETag) (i := 2) S el47 rfl rfl rfl R22 R55 hl56 ?_
                  intro v57 w58 H59 hle60 R61 S
                  have R22 := Sl.mono R22 hle60
                  have R6 := Sl.mono R6 hle60
                  have hA41 := At.mono hA41 hle60 (by simp)
                  have R55 := Sl.mono R55 hle60
                  refine WL.valw (R.as (v := v57) rfl) ?_
                  refine WL.nil ?_
                  refine WP.region ?_
                  refine WL.valw (R.add h27 rfl) ?_
                  refine WL.valw (R.mv (v := (int (wr (y_26 + 1)))) rfl) ?_
                  refine WL.nil ?_
                  obtain rfl := Option.some.inj hy34
                  exact ⟨rfl, ⟨H59, v57, rfl, h24, h25, rfl, R61, R6, (S.drop _ (.cons _ (.cons _ (.cons_cons _ .slnil))))⟩⟩
              · refine WP.condF rfl hc38 ?_
                refine WP.exit ?_
                obtain rfl := Option.some.inj hy34
                obtain rfl := hy35
                exact ⟨H19, v21, h23, R22, S⟩
          · intro f w hM
            rcases r36 with out_29 | e
            · obtain ⟨H28, v30, h32, R31, S⟩ := hM
              refine WP.seq ?_
              refine WP.region ?_
              refine WL.valw (R.mv (v := v30) h32) ?_
              refine WL.valw (R.as (v := v30) rfl) ?_
              refine WL.valw (R.as (v := (boo false)) rfl) ?_
              refine WL.valw (R.as (v := (boo true)) rfl) ?_
              refine WL.nil ?_
              obtain rfl := Option.some.inj h
              refine WP.ret (Out.three rfl S rfl rfl rfl ?_)
              exact ⟨_, rfl, R31⟩
            · exact hM.elim
set_option maxHeartbeats 4000000 in
theorem etag_both_ok {w0 : World} {H0 : Hp} (hw : Holds w0 H0) (p_a : GETag) (p_b : GETag) (p_test : (GETag → Option Bool)) {kp_test : FuncId} {cp_test : List Value} (Fp_test : ∀ {w : World} {H : Hp}, H0.le H → Holds w H → ∀ (x0 : GETag) (rr : Bool), p_test x0 = some rr → Con Tryd.prog kp_test ([(agg [(boo x0.fWeak), (str x0.fTag)])] ++ cp_test) w H (fun H' v => v = (boo rr))) {r : Bool} (h : etag_both p_a p_b p_test = some r) :
    Con Tryd.prog 68 [(agg [(boo p_a.fWeak), (str p_a.fTag)]), (agg [(boo p_b.fWeak), (str p_b.fTag)]), (.func (.func kp_test) #[] cp_test.toArray)] w0 H0 (fun H' v => v = (boo r)) := by
  refine Con.mk (N := 22) Tryd.func68 rfl rfl (by kernel_rfl) rfl ?_
  have S := St.start hw
  refine WP.seq ?_
  refine WP.region ?_
  refine W.box [(boo p_a.fWeak), (str p_a.fTag)] S rfl rfl ?_
  intro b1 w2 S
  refine W.box [(boo p_b.fWeak), (str p_b.fTag)] S rfl rfl ?_
  intro b3 w4 S
  refine WL.valw (R.as (v := (boo false)) rfl) ?_
  refine WL.nil ?_
  refine WP.seq ?_
  refine WP.region ?_
  refine WL.valw (R.mv (v := (.func (.func kp_test) #[] cp_test.toArray)) rfl) ?_
  refine WL.valw (R.loadBN (i := 1) (vs := [(boo p_a.fWeak), (str p_a.fTag)]) S rfl rfl lay45 rfl rfl) ?_
  obtain ⟨r5, hr5, h⟩ := bindE h
  refine W.callv S rfl rfl (Fp_test (S.post.le) S.holds p_a _ hr5) ?_
  rintro v6 w7 H8 hle9 S rfl
  refine WL.valw (R.mv (v := (boo r5)) rfl) ?_
  obtain ⟨b17, hg11, h⟩ := bindE h
  refine WL.grpw 4 [11, 12, 13] 14 (boo b17) (fun w => ∃ H' : Hp, H8.le H' ∧ St w0 H0 w H' [.box b3 45 [(boo p_b.fWeak), (str p_b.fTag)], .box b1 45 [(boo p_a.fWeak), (str p_a.fTag)]]) ?_ ?_
  · rcases boolE r5 with hb10 | hb10
    · replace hg11 := condT hg11 hb10
      refine WL.gyes rfl rfl hb10 ?_
      refine WL.valw (R.mv (v := (.func (.func kp_test) #[] cp_test.toArray)) rfl) ?_
      refine WL.gyes rfl rfl hb10 ?_
      refine WL.valw (R.loadBN (i := 0) (vs := [(boo p_b.fWeak), (str p_b.fTag)]) S rfl rfl lay45 rfl rfl) ?_
      refine WL.gyes rfl rfl hb10 ?_
      obtain ⟨r12, hr12, hg11⟩ := bindE hg11
      refine W.callv S rfl rfl (Fp_test (S.post.le) S.holds p_b _ hr12) ?_
      rintro v13 w14 H15 hle16 S rfl
      refine WL.valw (R.pickT rfl hb10 rfl) ?_
      exact WL.nil ⟨(congrArg boo (Option.some.inj hg11)), (by repeat (first | refine agree_upd rfl ?_ | refine agree_upds' rfl ?_ | exact agree_refl)), ⟨H15, hle16, S⟩⟩
    · replace hg11 := condF hg11 hb10
      refine WL.gno rfl rfl hb10 ?_
      refine WL.gno rfl rfl hb10 ?_
      refine WL.gno rfl rfl hb10 ?_
      refine WL.valw (R.pickF rfl hb10 rfl) ?_
      exact WL.nil ⟨(congrArg boo (Option.some.inj hg11)), (by repeat (first | refine agree_upd rfl ?_ | refine agree_upds' rfl ?_ | exact agree_refl)), ⟨H8, (Hp.le.refl _), S⟩⟩
  · intro us w19 ⟨H18, hle20, S⟩
    refine WL.valw (R.mv (v := (boo b17)) rfl) ?_
    refine WL.grp 6 [16, 17, 18, 19, 20] 21 (boo (b17 && (p_a.fTag == p_b.fTag))) ?_ ?_
    · rcases boolE b17 with hb21 | hb21
      · refine WL.gyes rfl rfl hb21 ?_
        refine WL.valw (R.fieldB rfl fld45_1) ?_
        refine WL.gyes rfl rfl hb21 ?_
        refine WL.valw (R.loadB (i := 1) (v := (str p_a.fTag)) S rfl rfl lay9 rfl) ?_
        refine WL.gyes rfl rfl hb21 ?_
        refine WL.valw (R.fieldB rfl fld45_1) ?_
        refine WL.gyes rfl rfl hb21 ?_
        refine WL.valw (R.loadB (i := 0) (v := (str p_b.fTag)) S rfl rfl lay9 rfl) ?_
        refine WL.gyes rfl rfl hb21 ?_
        refine WL.valw (R.eqlS (a := p_a.fTag) (b := p_b.fTag) rfl rfl) ?_
        refine WL.valw (R.pickT rfl hb21 rfl) ?_
        exact WL.nil ⟨(andT hb21), (by repeat (first | refine agree_upd rfl ?_ | refine agree_upds' rfl ?_ | exact agree_refl)), rfl⟩
      · refine WL.gno rfl rfl hb21 ?_
        refine WL.gno rfl rfl hb21 ?_
        refine WL.gno rfl rfl hb21 ?_
        refine WL.gno rfl rfl hb21 ?_
        refine WL.gno rfl rfl hb21 ?_
        refine WL.valw (R.pickF rfl hb21 rfl) ?_
        exact WL.nil ⟨(andF hb21), (by repeat (first | refine agree_upd rfl ?_ | refine agree_upds' rfl ?_ | exact agree_refl)), rfl⟩
    · intro us
      refine WL.valw (R.as (v := (boo (b17 && (p_a.fTag == p_b.fTag)))) rfl) ?_
      refine WL.nil ?_
      obtain rfl := Option.some.inj h
      refine WP.ret (Out.one rfl S rfl ?_)
      exact rfl
set_option maxHeartbeats 4000000 in
theorem etag_Weak_1_ok {w0 : World} {H0 : Hp} (hw : Holds w0 H0) (p_e : GETag) {r : Bool} (h : etag_Weak_1 p_e = some r) :
    Con Tryd.prog 69 [(agg [(boo p_e.fWeak), (str p_e.fTag)])] w0 H0 (fun H' v => v = (boo r)) := by
  refine Con.mk (N := 3) Tryd.func69 rfl rfl (by kernel_rfl) rfl ?_
  have S := St.start hw
  refine WP.seq ?_
  refine WP.region ?_
  refine W.box [(boo p_e.fWeak), (str p_e.fTag)] S rfl rfl ?_
  intro b1 w2 S
  refine WL.valw (R.as (v := (boo false)) rfl) ?_
  refine WL.nil ?_
  refine WP.seq ?_
  refine WP.region ?_
  refine WL.valw (R.as (v := (boo true)) rfl) ?_
  refine WL.nil ?_
  obtain rfl := Option.some.inj h
  refine WP.ret (Out.one rfl S rfl ?_)
  exact rfl
set_option maxHeartbeats 4000000 in
theorem etag_Weak_ok {w0 : World} {H0 : Hp} (hw : Holds w0 H0) (p_a : GETag) (p_b : GETag) {r : Bool} (h : etag_Weak p_a p_b = some r) :
    Con Tryd.prog 50 [(agg [(boo p_a.fWeak), (str p_a.fTag)]), (agg [(boo p_b.fWeak), (str p_b.fTag)])] w0 H0 (fun H' v => v = (boo r)) := by
  refine Con.mk (N := 8) Tryd.func50 rfl rfl (by kernel_rfl) rfl ?_
  have S := St.start hw
  refine WP.seq ?_
  refine WP.region ?_
  refine W.box [(boo p_a.fWeak), (str p_a.fTag)] S rfl rfl ?_
  intro b1 w2 S
  refine W.box [(boo p_b.fWeak), (str p_b.fTag)] S rfl rfl ?_
  intro b3 w4 S
  refine WL.valw (R.as (v := (boo false)) rfl) ?_
  refine WL.nil ?_
  refine WP.seq ?_
  refine WP.region ?_
  refine WL.valw (R.loadBN (i := 1) (vs := [(boo p_a.fWeak), (str p_a.fTag)]) S rfl rfl lay45 rfl rfl) ?_
  refine WL.valw (R.loadBN (i := 0) (vs := [(boo p_b.fWeak), (str p_b.fTag)]) S rfl rfl lay45 rfl rfl) ?_
  obtain ⟨r5, hr5, h⟩ := bindE h
  refine W.call S rfl (etag_both_ok S.holds p_a p_b etag_Weak_1 (fun hle hw x0 r h => etag_Weak_1_ok hw x0 h) hr5) ?_
  rintro v6 w7 H8 hle9 S rfl
  refine WL.valw (R.as (v := (boo r5)) rfl) ?_
  refine WL.nil ?_
  obtain rfl := Option.some.inj h
  refine WP.ret (Out.one rfl S rfl ?_)
  exact rfl
set_option maxHeartbeats 4000000 in
theorem etag_Strong_1_ok {w0 : World} {H0 : Hp} (hw : Holds w0 H0) (p_e : GETag) {r : Bool} (h : etag_Strong_1 p_e = some r) :
    Con Tryd.prog 70 [(agg [(boo p_e.fWeak), (str p_e.fTag)])] w0 H0 (fun H' v => v = (boo r)) := by
  refine Con.mk (N := 6) Tryd.func70 rfl rfl (by kernel_rfl) rfl ?_
  have S := St.start hw
  refine WP.seq ?_
  refine WP.region ?_
  refine W.box [(boo p_e.fWeak), (str p_e.fTag)] S rfl rfl ?_
  intro b1 w2 S
  refine WL.valw (R.as (v := (boo false)) rfl) ?_
  refine WL.nil ?_
  refine WP.seq ?_
  refine WP.region ?_
  refine WL.valw (R.fieldB rfl fld45_0) ?_
  refine WL.valw (R.loadB (i := 0) (v := (boo p_e.fWeak)) S rfl rfl lay4 rfl) ?_
  refine WL.valw (R.not rfl) ?_
  refine WL.valw (R.as (v := (boo (!p_e.fWeak))) rfl) ?_
  refine WL.nil ?_
  obtain rfl := Option.some.inj h
  refine WP.ret (Out.one rfl S rfl ?_)
  exact rfl
set_option maxHeartbeats 4000000 in
theorem etag_Strong_ok {w0 : World} {H0 : Hp} (hw : Holds w0 H0) (p_a : GETag) (p_b : GETag) {r : Bool} (h : etag_Strong p_a p_b = some r) :
    Con Tryd.prog 51 [(agg [(boo p_a.fWeak), (str p_a.fTag)]), (agg [(boo p_b.fWeak), (str p_b.fTag)])] w0 H0 (fun H' v => v = (boo r)) := by
  refine Con.mk (N := 8) Tryd.func51 rfl rfl (by kernel_rfl) rfl ?_
  have S := St.start hw
  refine WP.seq ?_
  refine WP.region ?_
  refine W.box [(boo p_a.fWeak), (str p_a.fTag)] S rfl rfl ?_
  intro b1 w2 S
  refine W.box [(boo p_b.fWeak), (str p_b.fTag)] S rfl rfl ?_
  intro b3 w4 S
  refine WL.valw (R.as (v := (boo false)) rfl) ?_
  refine WL.nil ?_
  refine WP.seq ?_
  refine WP.region ?_
  refine WL.valw (R.loadBN (i := 1) (vs := [(boo p_a.fWeak), (str p_a.fTag)]) S rfl rfl lay45 rfl rfl) ?_
  refine WL.valw (R.loadBN (i := 0) (vs := [(boo p_b.fWeak), (str p_b.fTag)]) S rfl rfl lay45 rfl rfl) ?_
  obtain ⟨r5, hr5, h⟩ := bindE h
  refine W.call S rfl (etag_both_ok S.holds p_a p_b etag_Strong_1 (fun hle hw x0 r h => etag_Strong_1_ok hw x0 h) hr5) ?_
  rintro v6 w7 H8 hle9 S rfl
  refine WL.valw (R.as (v := (boo r5)) rfl) ?_
  refine WL.nil ?_
  obtain rfl := Option.some.inj h
  refine WP.ret (Out.one rfl S rfl ?_)
  exact rfl
set_option maxHeartbeats 4000000 in
theorem law21_awake_ok {w0 : World} {H0 : Hp} (hw : Holds w0 H0) {r : Bool} (h : law21_awake = some r) :
    Con Tryd.prog 32 [] w0 H0 (fun H' v => v = (boo r)) := by
  refine Con.mk (N := 37) Tryd.func32 rfl rfl (by kernel_rfl) rfl ?_
  have S := St.start hw
  refine WP.seq ?_
  refine WP.region ?_
  refine WL.valw (R.as (v := (boo false)) rfl) ?_
  refine WL.nil ?_
  refine WP.seq ?_
  refine WP.region ?_
  obtain ⟨r1, hr1, h⟩ := bindE h
  refine W.call S rfl (etag_Parse_ok S.holds [87, 47, 34, 97, 34] hr1) ?_
  rintro v2 w3 H4 hle5 S rfl
  refine WL.valw (R.mv (v := (.tuple ⟨[(agg [(boo r1.1.fWeak), (str r1.1.fTag)]), (boo r1.2)]⟩)) rfl) ?_
  refine WL.valw (R.ext rfl rfl) ?_
  refine WL.valw (R.ext rfl rfl) ?_
  refine W.alloc [(boo false), (str [])] S zer45 ?_
  intro b6 w7 S
  refine W.store (i := 0) [(boo r1.1.fWeak), (str r1.1.fTag)] S rfl rfl rfl lay45 rfl rfl (Nat.le_of_ble_eq_true rfl) rfl ?_
  intro w8 S
  refine WL.valw (R.as (v := (boo r1.2)) rfl) ?_
  refine WL.nil ?_
  refine WP.seq ?_
  refine WP.region ?_
  obtain ⟨r9, hr9, h⟩ := bindE h
  refine W.call S rfl (etag_Parse_ok S.holds [34, 97, 34] hr9) ?_
  rintro v10 w11 H12 hle13 S rfl
  refine WL.valw (R.mv (v := (.tuple ⟨[(agg [(boo r9.1.fWeak), (str r9.1.fTag)]), (boo r9.2)]⟩)) rfl) ?_
  refine WL.valw (R.ext rfl rfl) ?_
  refine WL.valw (R.ext rfl rfl) ?_
  refine W.alloc [(boo false), (str [])] S zer45 ?_
  intro b14 w15 S
  refine W.store (i := 0) [(boo r9.1.fWeak), (str r9.1.fTag)] S rfl rfl rfl lay45 rfl rfl (Nat.le_of_ble_eq_true rfl) rfl ?_
  intro w16 S
  refine WL.valw (R.as (v := (boo r9.2)) rfl) ?_
  refine WL.nil ?_
  refine WP.seq ?_
  refine WP.region ?_
  refine WL.valw (R.mv (v := (boo r1.2)) rfl) ?_
  refine WL.valw (R.mv (v := (boo r1.2)) rfl) ?_
  refine WL.grp 2 [15] 16 (boo (r1.2 && r9.2)) ?_ ?_
  · rcases boolE r1.2 with hb17 | hb17
    · refine WL.gyes rfl rfl hb17 ?_
      refine WL.valw (R.mv (v := (boo r9.2)) rfl) ?_
      refine WL.valw (R.pickT rfl hb17 rfl) ?_
      exact WL.nil ⟨(andT hb17), (by repeat (first | refine agree_upd rfl ?_ | refine agree_upds' rfl ?_ | exact agree_refl)), rfl⟩
    · refine WL.gno rfl rfl hb17 ?_
      refine WL.valw (R.pickF rfl hb17 rfl) ?_
      exact WL.nil ⟨(andF hb17), (by repeat (first | refine agree_upd rfl ?_ | refine agree_upds' rfl ?_ | exact agree_refl)), rfl⟩
  · intro us
    refine WL.valw (R.mv (v := (boo (r1.2 && r9.2))) rfl) ?_
    refine WL.grp 3 [18, 19] 20 (boo ((r1.2 && r9.2) && r1.1.fWeak)) ?_ ?_
    · rcases boolE (r1.2 && r9.2) with hb19 | hb19
      · refine WL.gyes rfl rfl hb19 ?_
        refine WL.valw (R.fieldB rfl fld45_0) ?_
        refine WL.gyes rfl rfl hb19 ?_
        refine WL.valw (R.loadB (i := 1) (v := (boo r1.1.fWeak)) S rfl rfl lay4 rfl) ?_
        refine WL.valw (R.pickT rfl hb19 rfl) ?_
        exact WL.nil ⟨(andT hb19), (by repeat (first | refine agree_upd rfl ?_ | refine agree_upds' rfl ?_ | exact agree_refl)), rfl⟩
      · refine WL.gno rfl rfl hb19 ?_
        refine WL.gno rfl rfl hb19 ?_
        refine WL.valw (R.pickF rfl hb19 rfl) ?_
        exact WL.nil ⟨(andF hb19), (by repeat (first | refine agree_upd rfl ?_ | refine agree_upds' rfl ?_ | exact agree_refl)), rfl⟩
    · intro us
      refine WL.valw (R.mv (v := (boo ((r1.2 && r9.2) && r1.1.fWeak))) rfl) ?_
      obtain ⟨b28, hg22, h⟩ := bindE h
      refine WL.grpw 4 [22, 23, 24] 25 (boo b28) (fun w => ∃ H' : Hp, H12.le H' ∧ St w0 H0 w H' [.box b14 45 [(boo r9.1.fWeak), (str r9.1.fTag)], .box b6 45 [(boo r1.1.fWeak), (str r1.1.fTag)]]) ?_ ?_
      · rcases boolE ((r1.2 && r9.2) && r1.1.fWeak) with hb21 | hb21
        · replace hg22 := condT hg22 hb21
          refine WL.gyes rfl rfl hb21 ?_
          refine WL.valw (R.loadBN (i := 1) (vs := [(boo r1.1.fWeak), (str r1.1.fTag)]) S rfl rfl lay45 rfl rfl) ?_
          refine WL.gyes rfl rfl hb21 ?_
          refine WL.valw (R.loadBN (i := 0) (vs := [(boo r9.1.fWeak), (str r9.1.fTag)]) S rfl rfl lay45 rfl rfl) ?_
          refine WL.gyes rfl rfl hb21 ?_
          obtain ⟨r23, hr23, hg22⟩ := bindE hg22
          refine W.call S rfl (etag_Weak_ok S.holds r1.1 r9.1 hr23) ?_
          rintro v24 w25 H26 hle27 S rfl
          refine WL.valw (R.pickT rfl hb21 rfl) ?_
          exact WL.nil ⟨(congrArg boo (Option.some.inj hg22)), (by repeat (first | refine agree_upd rfl ?_ | refine agree_upds' rfl ?_ | exact agree_refl)), ⟨H26, hle27, S⟩⟩
        · replace hg22 := condF hg22 hb21
          refine WL.gno rfl rfl hb21 ?_
          refine WL.gno rfl rfl hb21 ?_
          refine WL.gno rfl rfl hb21 ?_
          refine WL.valw (R.pickF rfl hb21 rfl) ?_
          exact WL.nil ⟨(congrArg boo (Option.some.inj hg22)), (by repeat (first | refine agree_upd rfl ?_ | refine agree_upds' rfl ?_ | exact agree_refl)), ⟨H12, (Hp.le.refl _), S⟩⟩
      · intro us w30 ⟨H29, hle31, S⟩
        refine WL.valw (R.mv (v := (boo b28)) rfl) ?_
        obtain ⟨b39, hg33, h⟩ := bindE h
        refine WL.grpw 5 [27, 28, 29, 30] 31 (boo b39) (fun w => ∃ H' : Hp, H29.le H' ∧ St w0 H0 w H' [.box b14 45 [(boo r9.1.fWeak), (str r9.1.fTag)], .box b6 45 [(boo r1.1.fWeak), (str r1.1.fTag)]]) ?_ ?_
        · rcases boolE b28 with hb32 | hb32
          · replace hg33 := condT hg33 hb32
            refine WL.gyes rfl rfl hb32 ?_
            refine WL.valw (R.loadBN (i := 1) (vs := [(boo r1.1.fWeak), (str r1.1.fTag)]) S rfl rfl lay45 rfl rfl) ?_
            refine WL.gyes rfl rfl hb32 ?_
            refine WL.valw (R.loadBN (i := 0) (vs := [(boo r9.1.fWeak), (str r9.1.fTag)]) S rfl rfl lay45 rfl rfl) ?_
            refine WL.gyes rfl rfl hb32 ?_
            obtain ⟨r34, hr34, hg33⟩ := bindE hg33
            refine W.call S rfl (etag_Strong_ok S.holds r1.1 r9.1 hr34) ?_
            rintro v35 w36 H37 hle38 S rfl
            refine WL.gyes rfl rfl hb32 ?_
            refine WL.valw (R.not rfl) ?_
            refine WL.valw (R.pickT rfl hb32 rfl) ?_
            exact WL.nil ⟨(congrArg boo (Option.some.inj hg33)), (by repeat (first | refine agree_upd rfl ?_ | refine agree_upds' rfl ?_ | exact agree_refl)), ⟨H37, hle38, S⟩⟩
          · replace hg33 := condF hg33 hb32
            refine WL.gno rfl rfl hb32 ?_
            refine WL.gno rfl rfl hb32 ?_
            refine WL.gno rfl rfl hb32 ?_
            refine WL.gno rfl rfl hb32 ?_
            refine WL.valw (R.pickF rfl hb32 rfl) ?_
            exact WL.nil ⟨(congrArg boo (Option.some.inj hg33)), (by repeat (first | refine agree_upd rfl ?_ | refine agree_upds' rfl ?_ | exact agree_refl)), ⟨H29, (Hp.le.refl _), S⟩⟩
        · intro us w41 ⟨H40, hle42, S⟩
          refine WL.valw (R.mv (v := (boo b39)) rfl) ?_
          obtain ⟨b50, hg44, h⟩ := bindE h
          refine WL.grpw 4 [33, 34, 35] 36 (boo b50) (fun w => ∃ H' : Hp, H40.le H' ∧ St w0 H0 w H' [.box b14 45 [(boo r9.1.fWeak), (str r9.1.fTag)], .box b6 45 [(boo r1.1.fWeak), (str r1.1.fTag)]]) ?_ ?_
          · rcases boolE b39 with hb43 | hb43
            · replace hg44 := condT hg44 hb43
              refine WL.gyes rfl rfl hb43 ?_
              refine WL.valw (R.loadBN (i := 0) (vs := [(boo r9.1.fWeak), (str r9.1.fTag)]) S rfl rfl lay45 rfl rfl) ?_
              refine WL.gyes rfl rfl hb43 ?_
              refine WL.valw (R.loadBN (i := 0) (vs := [(boo r9.1.fWeak), (str r9.1.fTag)]) S rfl rfl lay45 rfl rfl) ?_
              refine WL.gyes rfl rfl hb43 ?_
              obtain ⟨r45, hr45, hg44⟩ := bindE hg44
              refine W.call S rfl (etag_Strong_ok S.holds r9.1 r9.1 hr45) ?_
              rintro v46 w47 H48 hle49 S rfl
              refine WL.valw (R.pickT rfl hb43 rfl) ?_
              exact WL.nil ⟨(congrArg boo (Option.some.inj hg44)), (by repeat (first | refine agree_upd rfl ?_ | refine agree_upds' rfl ?_ | exact agree_refl)), ⟨H48, hle49, S⟩⟩
            · replace hg44 := condF hg44 hb43
              refine WL.gno rfl rfl hb43 ?_
              refine WL.gno rfl rfl hb43 ?_
              refine WL.gno rfl rfl hb43 ?_
              refine WL.valw (R.pickF rfl hb43 rfl) ?_
              exact WL.nil ⟨(congrArg boo (Option.some.inj hg44)), (by repeat (first | refine agree_upd rfl ?_ | refine agree_upds' rfl ?_ | exact agree_refl)), ⟨H40, (Hp.le.refl _), S⟩⟩
          · intro us w52 ⟨H51, hle53, S⟩
            refine WL.valw (R.as (v := (boo b50)) rfl) ?_
            refine WL.nil ?_
            obtain rfl := Option.some.inj h
            refine WP.ret (Out.one rfl S rfl ?_)
            exact rfl
set_option maxHeartbeats 4000000 in
theorem fieldline_First_ok {w0 : World} {H0 : Hp} (hw : Holds w0 H0) (p_l : (List GField)) (p_name : Str) {vp_l : Value} (Rp_l : Sl (α := GField) H0 vp_l p_l) {r : (Str × Bool)} (h : fieldline_First p_l p_name = some r) :
    Con Tryd.prog 52 [vp_l, (str p_name)] w0 H0 (fun H' v => v = (.tuple ⟨[(str r.1), (boo r.2)]⟩)) := by
  refine Con.mk (N := 16) Tryd.func52 rfl rfl (by kernel_rfl) rfl ?_
  have S := St.start hw
  refine WP.seq ?_
  refine WP.region ?_
  refine WL.valw (R.as (v := (str [])) rfl) ?_
  refine WL.valw (R.as (v := (boo false)) rfl) ?_
  refine WL.nil ?_
  refine WP.seq ?_
  refine WP.region ?_
  refine WL.valw (R.mv (v := vp_l) rfl) ?_
  refine WL.valw (R.mv (v := (str p_name)) rfl) ?_
  obtain ⟨r1, hr1, h⟩ := bindE h
  refine W.call S rfl (fieldline_Get_ok S.holds p_l p_name Rp_l hr1) ?_
  rintro v2 w3 H4 hle5 S R6
  have Rp_l := Sl.mono Rp_l hle5
  refine WL.valw (R.as (v := v2) rfl) ?_
  refine WL.nil ?_
  refine WP.seq ?_
  refine WP.seq ?_
  refine WP.region ?_
  refine WL.valw (R.mv (v := v2) rfl) ?_
  refine WL.valw (R.lenL (α := Str) (xs := r1) (H := H4) R6 rfl Tryd.underlying31) ?_
  refine WL.valw (R.eql rfl rfl) ?_
  refine WL.nil ?_
  rcases condE h with ⟨hc7, h⟩ | ⟨hc7, h⟩
  · refine WP.condT rfl hc7 ?_
    refine WP.seq ?_
    refine WP.region ?_
    refine WL.valw (R.as (v := (str [])) rfl) ?_
    refine WL.valw (R.as (v := (boo false)) rfl) ?_
    refine WL.nil ?_
    obtain rfl := Option.some.inj h
    refine WP.ret (Out.two rfl S rfl rfl ?_)
    exact rfl
  · refine WP.condF rfl hc7 ?_
    refine WP.skip ?_
    refine WP.seq ?_
    refine WP.region ?_
    refine WL.valw (R.mv (v := v2) rfl) ?_
    obtain ⟨x8, hx8, h⟩ := bindE h
    refine W.idx (α := Str) R6 rfl rfl el31 hx8 ?_
    rintro a9 _ hA10 rfl
    refine WL.valw (R.loadH (v := (str x8)) S rfl hA10 lay9 rfl) ?_
    refine WL.valw (R.as (v := (str x8)) rfl) ?_
    refine WL.valw (R.as (v := (boo true)) rfl) ?_
    refine WL.nil ?_
    obtain rfl := Option.some.inj h
    refine WP.ret (Out.two rfl S rfl rfl ?_)
    exact rfl
set_option maxHeartbeats 4000000 in
theorem etag_Of_ok {w0 : World} {H0 : Hp} (hw : Holds w0 H0) (p_l : (List GField)) {vp_l : Value} (Rp_l : Sl (α := GField) H0 vp_l p_l) {r : (GETag × Bool)} (h : etag_Of p_l = some r) :
    Con Tryd.prog 33 [vp_l] w0 H0 (fun H' v => v = (.tuple ⟨[(agg [(boo r.1.fWeak), (str r.1.fTag)]), (boo r.2)]⟩)) := by
  refine Con.mk (N := 18) Tryd.func33 rfl rfl (by kernel_rfl) rfl ?_
  have S := St.start hw
  refine WP.seq ?_
  refine WP.region ?_
  refine W.alloc [(boo false), (str [])] S zer45 ?_
  intro b1 w2 S
  refine WL.valw (R.as (v := (boo false)) rfl) ?_
  refine WL.nil ?_
  refine WP.seq ?_
  refine WP.region ?_
  refine WL.valw (R.mv (v := vp_l) rfl) ?_
  obtain ⟨r3, hr3, h⟩ := bindE h
  refine W.call S rfl (fieldline_First_ok S.holds p_l [69, 84, 97, 103] Rp_l hr3) ?_
  rintro v4 w5 H6 hle7 S rfl
  have Rp_l := Sl.mono Rp_l hle7
  refine WL.valw (R.mv (v := (.tuple ⟨[(str r3.1), (boo r3.2)]⟩)) rfl) ?_
  refine WL.valw (R.ext rfl rfl) ?_
  refine WL.valw (R.ext rfl rfl) ?_
  refine WL.valw (R.as (v := (str r3.1)) rfl) ?_
  refine WL.valw (R.as (v := (boo r3.2)) rfl) ?_
  refine WL.nil ?_
  refine WP.seq ?_
  refine WP.seq ?_
  refine WP.region ?_
  refine WL.valw (R.mv (v := (boo r3.2)) rfl) ?_
  refine WL.valw (R.not rfl) ?_
  refine WL.nil ?_
  rcases condE h with ⟨hc8, h⟩ | ⟨hc8, h⟩
  · refine WP.condT rfl hc8 ?_
    refine WP.seq ?_
    refine WP.region ?_
    refine WL.valw (R.build [] [(boo false), (str [])] bp45 zer45 rfl rfl) ?_
    refine W.store (i := 0) [(boo false), (str [])] S rfl rfl rfl lay45 rfl rfl (Nat.le_of_ble_eq_true rfl) rfl ?_
    intro w9 S
    refine WL.valw (R.as (v := (boo false)) rfl) ?_
    refine WL.nil ?_
    obtain rfl := Option.some.inj h
    refine WP.ret (Out.two rfl S (Res.cellB (i := 0) (cs := [(boo false), (str [])]) S rfl rfl lay45 rfl rfl) rfl ?_)
    exact rfl
  · refine WP.condF rfl hc8 ?_
    refine WP.skip ?_
    refine WP.seq ?_
    refine WP.region ?_
    refine WL.valw (R.mv (v := (str r3.1)) rfl) ?_
    obtain ⟨r10, hr10, h⟩ := bindE h
    refine W.call S rfl (etag_Parse_ok S.holds r3.1 hr10) ?_
    rintro v11 w12 H13 hle14 S rfl
    have Rp_l := Sl.mono Rp_l hle14
    refine WL.valw (R.ext rfl rfl) ?_
    refine WL.valw (R.ext rfl rfl) ?_
    refine W.store (i := 0) [(boo r10.1.fWeak), (str r10.1.fTag)] S rfl rfl rfl lay45 rfl rfl (Nat.le_of_ble_eq_true rfl) rfl ?_
    intro w15 S
    refine WL.valw (R.as (v := (boo r10.2)) rfl) ?_
    refine WL.nil ?_
    obtain rfl := Option.some.inj h
    refine WP.ret (Out.two rfl S (Res.cellB (i := 0) (cs := [(boo r10.1.fWeak), (str r10.1.fTag)]) S rfl rfl lay45 rfl rfl) rfl ?_)
    exact rfl
set_option maxHeartbeats 4000000 in
theorem ref01_First_ok {w0 : World} {H0 : Hp} (hw : Holds w0 H0) (p_l : (List GField)) (p_name : Str) {vp_l : Value} (Rp_l : Sl (α := GField) H0 vp_l p_l) {r : (Str × Bool)} (h : ref01_First p_l p_name = some r) :
    Con Tryd.prog 53 [vp_l, (str p_name)] w0 H0 (fun H' v => v = (.tuple ⟨[(str r.1), (boo r.2)]⟩)) := by
  refine Con.mk (N := 16) Tryd.func53 rfl rfl (by kernel_rfl) rfl ?_
  have S := St.start hw
  refine WP.seq ?_
  refine WP.region ?_
  refine WL.valw (R.as (v := (str [])) rfl) ?_
  refine WL.valw (R.as (v := (boo false)) rfl) ?_
  refine WL.nil ?_
  refine WP.seq ?_
  refine WP.seq ?_
  refine WP.region ?_
  refine WL.valw (R.mv (v := vp_l) rfl) ?_
  refine WL.valw (R.mv (v := (str p_name)) rfl) ?_
  obtain ⟨r1, hr1, h⟩ := bindE h
  refine W.call S rfl (ref01_Get_ok S.holds p_l p_name Rp_l hr1) ?_
  rintro v2 w3 H4 hle5 S R6
  have Rp_l := Sl.mono Rp_l hle5
  refine WL.valw (R.as (v := v2) rfl) ?_
  refine WL.nil ?_
  refine WP.seq ?_
  refine WP.region ?_
  refine WL.valw (R.mv (v := v2) rfl) ?_
  refine WL.valw (R.lenL (α := Str) (xs := r1) (H := H4) R6 rfl Tryd.underlying31) ?_
  refine WL.valw (R.gtr rfl rfl) ?_
  refine WL.nil ?_
  rcases condE h with ⟨hc7, h⟩ | ⟨hc7, h⟩
  · refine WP.condT rfl hc7 ?_
    refine WP.seq ?_
    refine WP.region ?_
    refine WL.valw (R.mv (v := v2) rfl) ?_
    obtain ⟨x8, hx8, h⟩ := bindE h
    refine W.idx (α := Str) R6 rfl rfl el31 hx8 ?_
    rintro a9 _ hA10 rfl
    refine WL.valw (R.loadH (v := (str x8)) S rfl hA10 lay9 rfl) ?_
    refine WL.valw (R.as (v := (str x8)) rfl) ?_
    refine WL.valw (R.as (v := (boo true)) rfl) ?_
    refine WL.nil ?_
    obtain rfl := Option.some.inj h
    refine WP.ret (Out.two rfl S rfl rfl ?_)
    exact rfl
  · refine WP.condF rfl hc7 ?_
    refine WP.skip ?_
    refine WP.seq ?_
    refine WP.region ?_
    refine WL.valw (R.as (v := (str [])) rfl) ?_
    refine WL.valw (R.as (v := (boo false)) rfl) ?_
    refine WL.nil ?_
    obtain rfl := Option.some.inj h
    refine WP.ret (Out.two rfl S rfl rfl ?_)
    exact rfl
set_option maxHeartbeats 4000000 in
theorem ref19_ParseETag_ok {w0 : World} {H0 : Hp} (hw : Holds w0 H0) (p_s : Str) {r : (GETag × Bool)} (h : ref19_ParseETag p_s = some r) :
    Con Tryd.prog 54 [(str p_s)] w0 H0 (fun H' v => v = (.tuple ⟨[(agg [(boo r.1.fWeak), (str r.1.fTag)]), (boo r.2)]⟩)) := by
  refine Con.mk (N := 49) Tryd.func54 rfl rfl (by kernel_rfl) rfl ?_
  have S := St.start hw
  refine WP.seq ?_
  refine WP.region ?_
  refine W.alloc [(boo false), (str [])] S zer45 ?_
  intro b1 w2 S
  refine WL.valw (R.as (v := (boo false)) rfl) ?_
  refine WL.nil ?_
  refine WP.seq ?_
  refine WP.region ?_
  refine W.alloc [(boo false), (str [])] S zer45 ?_
  intro b3 w4 S
  refine WL.nil ?_
  refine WP.seq ?_
  refine WP.seq ?_
  refine WP.region ?_
  refine WL.valw (R.mv (v := (str p_s)) rfl) ?_
  refine WL.valw (R.lenS (a := p_s) rfl Tryd.underlying9) ?_
  refine WL.valw (R.gtr rfl rfl) ?_
  refine WL.valw (R.mv (v := (boo (decide (2 < (p_s.length : Int))))) rfl) ?_
  obtain ⟨b8, hg6, h⟩ := bindE h
  refine WL.grp 4 [9, 10, 11] 12 (boo b8) ?_ ?_
  · rcases boolE (decide (2 < (p_s.length : Int))) with hb5 | hb5
    · replace hg6 := condT hg6 hb5
      refine WL.gyes rfl rfl hb5 ?_
      refine WL.valw (R.mv (v := (str p_s)) rfl) ?_
      refine WL.gyes rfl rfl hb5 ?_
      obtain ⟨s7, hs7, hg6⟩ := bindE hg6
      refine WL.valw (R.subShi rfl rfl Tryd.underlying9 hs7) ?_
      refine WL.gyes rfl rfl hb5 ?_
      refine WL.valw (R.eqlS (a := s7) (b := [87, 47]) rfl rfl) ?_
      refine WL.valw (R.pickT rfl hb5 rfl) ?_
      exact WL.nil ⟨(congrArg boo (Option.some.inj hg6)), (by repeat (first | refine agree_upd rfl ?_ | refine agree_upds' rfl ?_ | exact agree_refl)), rfl⟩
    · replace hg6 := condF hg6 hb5
      refine WL.gno rfl rfl hb5 ?_
      refine WL.gno rfl rfl hb5 ?_
      refine WL.gno rfl rfl hb5 ?_
      refine WL.valw (R.pickF rfl hb5 rfl) ?_
      exact WL.nil ⟨(congrArg boo (Option.some.inj hg6)), (by repeat (first | refine agree_upd rfl ?_ | refine agree_upds' rfl ?_ | exact agree_refl)), rfl⟩
  · intro us
    refine WL.nil ?_
    obtain ⟨⟨s_10, m14, m15⟩, hj16, h⟩ := bindE h
    refine WP.cut (fun f w => ∃ (H9 : Hp), f 0 = (str s_10) ∧ f 2 = (ptr b1 0) ∧ f 4 = (ptr b3 0) ∧ St w0 H0 w H9 [.box b3 45 [(boo m14), (str m15)], .box b1 45 [(boo false), (str [])]]) ?_ ?_
    · rcases condE hj16 with ⟨hc18, hj16⟩ | ⟨hc18, hj16⟩
      · refine WP.condT rfl hc18 ?_
        refine WP.draw (by kernel_rfl) 5 rfl #[false, false, false, false, false] rfl ?_
        have S := S.drew
        refine WA.take (i := 0) #[true, false, false, false, false] rfl (by kernel_rfl) (by kernel_rfl) (by kernel_rfl) rfl (fun _ => (R.mv (v := (str p_s)) rfl)) ?_
        obtain ⟨s19, hs19, hj16⟩ := bindE hj16
        refine WA.take (i := 1) #[true, true, false, false, false] rfl (by kernel_rfl) (by kernel_rfl) (by kernel_rfl) rfl (fun _ => (R.subSlo rfl rfl Tryd.underlying9 hs19)) ?_
        refine WA.take (i := 2) #[true, true, true, false, false] rfl (by kernel_rfl) (by kernel_rfl) (by kernel_rfl) rfl (fun _ => (R.fieldB rfl fld45_0)) ?_
        refine WA.one (i := 3) #[true, true, true, true, false] rfl (by kernel_rfl) rfl ?_
        refine W.store (i := 0) [(boo true), (str [])] S rfl rfl rfl lay4 rfl rfl (Nat.le_of_ble_eq_true rfl) rfl ?_
        intro w20 S
        refine WL.nil ?_
        refine WA.take (i := 4) #[true, true, true, true, true] rfl (by kernel_rfl) (by kernel_rfl) (by kernel_rfl) rfl (fun _ => (R.as (v := (str s19)) rfl)) ?_
        refine WA.done (by kernel_rfl) ?_
        cases Option.some.inj hj16
        exact ⟨H0, rfl, rfl, rfl, S⟩
      · refine WP.condF rfl hc18 ?_
        refine WP.skip ?_
        cases Option.some.inj hj16
        exact ⟨H0, rfl, rfl, rfl, S⟩
    · rintro f w ⟨H9, h11, h12, h13, S⟩
      refine WP.seq ?_
      refine WP.seq ?_
      refine WP.region ?_
      refine WL.valw (R.mv (v := (str s_10)) h11) ?_
      refine WL.valw (R.lenS (a := s_10) rfl Tryd.underlying9) ?_
      refine WL.valw (R.lss rfl rfl) ?_
      refine WL.valw (R.mv (v := (boo (decide ((s_10.length : Int) < 2)))) rfl) ?_
      obtain ⟨b24, hg22, h⟩ := bindE h
      refine WL.grp 4 [20, 21, 22] 23 (boo b24) ?_ ?_
      · rcases boolE (decide ((s_10.length : Int) < 2)) with hb21 | hb21
        · replace hg22 := condT hg22 hb21
          refine WL.gno rfl rfl hb21 ?_
          refine WL.gno rfl rfl hb21 ?_
          refine WL.gno rfl rfl hb21 ?_
          refine WL.valw (R.pickT rfl hb21 rfl) ?_
          exact WL.nil ⟨(congrArg boo (Option.some.inj hg22)), (by repeat (first | refine agree_upd rfl ?_ | refine agree_upds' rfl ?_ | exact agree_refl)), rfl⟩
        · replace hg22 := condF hg22 hb21
          refine WL.gyes rfl rfl hb21 ?_
          refine WL.valw (R.mv (v := (str s_10)) h11) ?_
          refine WL.gyes rfl rfl hb21 ?_
          obtain ⟨c23, hc23, hg22⟩ := bindE hg22
          refine WL.valw (R.idxS rfl rfl Tryd.underlying9 hc23) ?_
          refine WL.gyes rfl rfl hb21 ?_
          refine WL.valw (R.neq8 (a := c23) (b := 34) rfl rfl) ?_
          refine WL.valw (R.pickF rfl hb21 rfl) ?_
          exact WL.nil ⟨(congrArg boo (Option.some.inj hg22)), (by repeat (first | refine agree_upd rfl ?_ | refine agree_upds' rfl ?_ | exact agree_refl)), rfl⟩
      · intro us
        refine WL.valw (R.mv (v := (boo b24)) rfl) ?_
        obtain ⟨b28, hg26, h⟩ := bindE h
        refine WL.grp 7 [25, 26, 27, 28, 29, 30] 31 (boo b28) ?_ ?_
        · rcases boolE b24 with hb25 | hb25
          · replace hg26 := condT hg26 hb25
            refine WL.gno rfl rfl hb25 ?_
            refine WL.gno rfl rfl hb25 ?_
            refine WL.gno rfl rfl hb25 ?_
            refine WL.gno rfl rfl hb25 ?_
            refine WL.gno rfl rfl hb25 ?_
            refine WL.gno rfl rfl hb25 ?_
            refine WL.valw (R.pickT rfl hb25 rfl) ?_
            exact WL.nil ⟨(congrArg boo (Option.some.inj hg26)), (by repeat (first | refine agree_upd rfl ?_ | refine agree_upds' rfl ?_ | exact agree_refl)), rfl⟩
          · replace hg26 := condF hg26 hb25
            refine WL.gyes rfl rfl hb25 ?_
            refine WL.valw (R.mv (v := (str s_10)) h11) ?_
            refine WL.gyes rfl rfl hb25 ?_
            refine WL.valw (R.mv (v := (str s_10)) h11) ?_
            refine WL.gyes rfl rfl hb25 ?_
            refine WL.valw (R.lenS (a := s_10) rfl Tryd.underlying9) ?_
            refine WL.gyes rfl rfl hb25 ?_
            refine WL.valw (R.sub rfl rfl) ?_
            refine WL.gyes rfl rfl hb25 ?_
            obtain ⟨c27, hc27, hg26⟩ := bindE hg26
            refine WL.valw (R.idxS rfl rfl Tryd.underlying9 hc27) ?_
            refine WL.gyes rfl rfl hb25 ?_
            refine WL.valw (R.neq8 (a := c27) (b := 34) rfl rfl) ?_
            refine WL.valw (R.pickF rfl hb25 rfl) ?_
            exact WL.nil ⟨(congrArg boo (Option.some.inj hg26)), (by repeat (first | refine agree_upd rfl ?_ | refine agree_upds' rfl ?_ | exact agree_refl)), rfl⟩
        · intro us
          refine WL.valw (R.mv (v := (boo b28)) rfl) ?_
          obtain ⟨b37, hg30, h⟩ := bindE h
          refine WL.grpw 8 [33, 34, 35, 36, 37, 38, 39] 40 (boo b37) (fun w => ∃ H' : Hp, H9.le H' ∧ St w0 H0 w H' [.box b3 45 [(boo m14), (str m15)], .box b1 45 [(boo false), (str [])]]) ?_ ?_
          · rcases boolE b28 with hb29 | hb29
            · replace hg30 := condT hg30 hb29
              refine WL.gno rfl rfl hb29 ?_
              refine WL.gno rfl rfl hb29 ?_
              refine WL.gno rfl rfl hb29 ?_
              refine WL.gno rfl rfl hb29 ?_
              refine WL.gno rfl rfl hb29 ?_
              refine WL.gno rfl rfl hb29 ?_
              refine WL.gno rfl rfl hb29 ?_
              refine WL.valw (R.pickT rfl hb29 rfl) ?_
              exact WL.nil ⟨(congrArg boo (Option.some.inj hg30)), (by repeat (first | refine agree_upd rfl ?_ | refine agree_upds' rfl ?_ | exact agree_refl)), ⟨H9, (Hp.le.refl _), S⟩⟩
            · replace hg30 := condF hg30 hb29
              refine WL.gyes rfl rfl hb29 ?_
              refine WL.valw (R.mv (v := (str s_10)) h11) ?_
              refine WL.gyes rfl rfl hb29 ?_
              refine WL.valw (R.mv (v := (str s_10)) h11) ?_
              refine WL.gyes rfl rfl hb29 ?_
              refine WL.valw (R.lenS (a := s_10) rfl Tryd.underlying9) ?_
              refine WL.gyes rfl rfl hb29 ?_
              refine WL.valw (R.sub rfl rfl) ?_
              refine WL.gyes rfl rfl hb29 ?_
              obtain ⟨s31, hs31, hg30⟩ := bindE hg30
              refine WL.valw (R.subS rfl rfl rfl Tryd.underlying9 hs31) ?_
              refine WL.gyes rfl rfl hb29 ?_
              obtain ⟨r32, hr32, hg30⟩ := bindE hg30
              refine W.call S rfl (ref19_tagText_ok S.holds s31 hr32) ?_
              rintro v33 w34 H35 hle36 S rfl
              refine WL.gyes rfl rfl hb29 ?_
              refine WL.valw (R.not rfl) ?_
              refine WL.valw (R.pickF rfl hb29 rfl) ?_
              exact WL.nil ⟨(congrArg boo (Option.some.inj hg30)), (by repeat (first | refine agree_upd rfl ?_ | refine agree_upds' rfl ?_ | exact agree_refl)), ⟨H35, hle36, S⟩⟩
          · intro us w39 ⟨H38, hle40, S⟩
            refine WL.nil ?_
            rcases condE h with ⟨hc41, h⟩ | ⟨hc41, h⟩
            · refine WP.condT rfl hc41 ?_
              refine WP.seq ?_
              refine WP.region ?_
              refine WL.valw (R.build [] [(boo false), (str [])] bp45 zer45 rfl rfl) ?_
              refine W.store (i := 1) [(boo false), (str [])] S h12 rfl rfl lay45 rfl rfl (Nat.le_of_ble_eq_true rfl) rfl ?_
              intro w42 S
              refine WL.valw (R.as (v := (boo false)) rfl) ?_
              refine WL.nil ?_
              obtain rfl := Option.some.inj h
              refine WP.ret (Out.two rfl S (Res.cellB (i := 1) (cs := [(boo false), (str [])]) S h12 rfl lay45 rfl rfl) rfl ?_)
              exact rfl
            · refine WP.condF rfl hc41 ?_
              refine WP.skip ?_
              refine WP.seq ?_
              refine WP.region ?_
              refine WL.valw (R.mv (v := (str s_10)) h11) ?_
              refine WL.valw (R.mv (v := (str s_10)) h11) ?_
              refine WL.valw (R.lenS (a := s_10) rfl Tryd.underlying9) ?_
              refine WL.valw (R.sub rfl rfl) ?_
              obtain ⟨s43, hs43, h⟩ := bindE h
              refine WL.valw (R.subS rfl rfl rfl Tryd.underlying9 hs43) ?_
              refine WL.valw (R.fieldB h13 fld45_1) ?_
              refine W.store (i := 0) [(boo m14), (str s43)] S rfl rfl rfl lay9 rfl rfl (Nat.le_of_ble_eq_true rfl) rfl ?_
              intro w44 S
              refine WL.nil ?_
              refine WP.seq ?_
              refine WP.region ?_
              refine WL.valw (R.loadBN (i := 0) (vs := [(boo m14), (str s43)]) S h13 rfl lay45 rfl rfl) ?_
              refine W.store (i := 1) [(boo m14), (str s43)] S h12 rfl rfl lay45 rfl rfl (Nat.le_of_ble_eq_true rfl) rfl ?_
              intro w45 S
              refine WL.valw (R.as (v := (boo true)) rfl) ?_
              refine WL.nil ?_
              obtain rfl := Option.some.inj h
              refine WP.ret (Out.two rfl S (Res.cellB (i := 1) (cs := [(boo m14), (str s43)]) S h12 rfl lay45 rfl rfl) rfl ?_)
              exact rfl
set_option maxHeartbeats 4000000 in
theorem ref19_ETagOf_ok {w0 : World} {H0 : Hp} (hw : Holds w0 H0) (p_l : (List GField)) {vp_l : Value} (Rp_l : Sl (α := GField) H0 vp_l p_l) {r : (GETag × Bool)} (h : ref19_ETagOf p_l = some r) :
    Con Tryd.prog 34 [vp_l] w0 H0 (fun H' v => v = (.tuple ⟨[(agg [(boo r.1.fWeak), (str r.1.fTag)]), (boo r.2)]⟩)) := by
  refine Con.mk (N := 18) Tryd.func34 rfl rfl (by kernel_rfl) rfl ?_
  have S := St.start hw
  refine WP.seq ?_
  refine WP.region ?_
  refine W.alloc [(boo false), (str [])] S zer45 ?_
  intro b1 w2 S
  refine WL.valw (R.as (v := (boo false)) rfl) ?_
  refine WL.nil ?_
  refine WP.seq ?_
  refine WP.region ?_
  refine WL.valw (R.mv (v := vp_l) rfl) ?_
  obtain ⟨r3, hr3, h⟩ := bindE h
  refine W.call S rfl (ref01_First_ok S.holds p_l [69, 84, 97, 103] Rp_l hr3) ?_
  rintro v4 w5 H6 hle7 S rfl
  have Rp_l := Sl.mono Rp_l hle7
  refine WL.valw (R.mv (v := (.tuple ⟨[(str r3.1), (boo r3.2)]⟩)) rfl) ?_
  refine WL.valw (R.ext rfl rfl) ?_
  refine WL.valw (R.ext rfl rfl) ?_
  refine WL.valw (R.as (v := (str r3.1)) rfl) ?_
  refine WL.valw (R.as (v := (boo r3.2)) rfl) ?_
  refine WL.nil ?_
  refine WP.seq ?_
  refine WP.seq ?_
  refine WP.region ?_
  refine WL.valw (R.mv (v := (boo r3.2)) rfl) ?_
  refine WL.valw (R.not rfl) ?_
  refine WL.nil ?_
  rcases condE h with ⟨hc8, h⟩ | ⟨hc8, h⟩
  · refine WP.condT rfl hc8 ?_
    refine WP.seq ?_
    refine WP.region ?_
    refine WL.valw (R.build [] [(boo false), (str [])] bp45 zer45 rfl rfl) ?_
    refine W.store (i := 0) [(boo false), (str [])] S rfl rfl rfl lay45 rfl rfl (Nat.le_of_ble_eq_true rfl) rfl ?_
    intro w9 S
    refine WL.valw (R.as (v := (boo false)) rfl) ?_
    refine WL.nil ?_
    obtain rfl := Option.some.inj h
    refine WP.ret (Out.two rfl S (Res.cellB (i := 0) (cs := [(boo false), (str [])]) S rfl rfl lay45 rfl rfl) rfl ?_)
    exact rfl
  · refine WP.condF rfl hc8 ?_
    refine WP.skip ?_
    refine WP.seq ?_
    refine WP.region ?_
    refine WL.valw (R.mv (v := (str r3.1)) rfl) ?_
    obtain ⟨r10, hr10, h⟩ := bindE h
    refine W.call S rfl (ref19_ParseETag_ok S.holds r3.1 hr10) ?_
    rintro v11 w12 H13 hle14 S rfl
    have Rp_l := Sl.mono Rp_l hle14
    refine WL.valw (R.ext rfl rfl) ?_
    refine WL.valw (R.ext rfl rfl) ?_
    refine W.store (i := 0) [(boo r10.1.fWeak), (str r10.1.fTag)] S rfl rfl rfl lay45 rfl rfl (Nat.le_of_ble_eq_true rfl) rfl ?_
    intro w15 S
    refine WL.valw (R.as (v := (boo r10.2)) rfl) ?_
    refine WL.nil ?_
    obtain rfl := Option.some.inj h
    refine WP.ret (Out.two rfl S (Res.cellB (i := 0) (cs := [(boo r10.1.fWeak), (str r10.1.fTag)]) S rfl rfl lay45 rfl rfl) rfl ?_)
    exact rfl
set_option maxHeartbeats 4000000 in
theorem ref19_ETagList_ok {w0 : World} {H0 : Hp} (hw : Holds w0 H0) (p_l : (List GField)) (p_name : Str) {vp_l : Value} (Rp_l : Sl (α := GField) H0 vp_l p_l) {r : ((List GETag) × Bool × Bool)} (h : ref19_ETagList p_l p_name = some r) :
    Con Tryd.prog 35 [vp_l, (str p_name)] w0 H0 (fun H' v => ∃ u1 : Value, v = (.tuple ⟨[u1, (boo r.2.1), (boo r.2.2)]⟩) ∧ Sl (α := GETag) H' u1 r.1) := by
  refine Con.mk (N := 53) Tryd.func35 rfl rfl (by kernel_rfl) rfl ?_
  have S := St.start hw
  refine WP.seq ?_
  refine WP.region ?_
  refine WL.valw (R.as (v := (.slice none 0 0)) rfl) ?_
  refine WL.valw (R.as (v := (boo false)) rfl) ?_
  refine WL.valw (R.as (v := (boo false)) rfl) ?_
  refine WL.nil ?_
  refine WP.seq ?_
  refine WP.region ?_
  refine WL.valw (R.mv (v := vp_l) rfl) ?_
  refine WL.valw (R.mv (v := (str p_name)) rfl) ?_
  obtain ⟨r1, hr1, h⟩ := bindE h
  refine W.call S rfl (ref01_All_ok S.holds p_l p_name Rp_l hr1) ?_
  rintro v2 w3 H4 hle5 S R6
  have Rp_l := Sl.mono Rp_l hle5
  refine WL.valw (R.as (v := v2) rfl) ?_
  refine WL.nil ?_
  refine WP.seq ?_
  refine WP.seq ?_
  refine WP.region ?_
  refine WL.valw (R.mv (v := v2) rfl) ?_
  refine WL.valw (R.lenL (α := Str) (xs := r1) (H := H4) R6 rfl Tryd.underlying31) ?_
  refine WL.valw (R.eql rfl rfl) ?_
  refine WL.valw (R.mv (v := (boo ((r1.length : Int) == 1))) rfl) ?_
  obtain ⟨b12, hg8, h⟩ := bindE h
  refine WL.grp 5 [19, 20, 21, 22] 23 (boo b12) ?_ ?_
  · rcases boolE ((r1.length : Int) == 1) with hb7 | hb7
    · replace hg8 := condT hg8 hb7
      refine WL.gyes rfl rfl hb7 ?_
      refine WL.valw (R.mv (v := v2) rfl) ?_
      refine WL.gyes rfl rfl hb7 ?_
      obtain ⟨x9, hx9, hg8⟩ := bindE hg8
      refine W.idx (α := Str) R6 rfl rfl el31 hx9 ?_
      rintro a10 _ hA11 rfl
      refine WL.gyes rfl rfl hb7 ?_
      refine WL.valw (R.loadH (v := (str x9)) S rfl hA11 lay9 rfl) ?_
      refine WL.gyes rfl rfl hb7 ?_
      refine WL.valw (R.eqlS (a := x9) (b := [42]) rfl rfl) ?_
      refine WL.valw (R.pickT rfl hb7 rfl) ?_
      exact WL.nil ⟨(congrArg boo (Option.some.inj hg8)), (by repeat (first | refine agree_upd rfl ?_ | refine agree_upds' rfl ?_ | exact agree_refl)), rfl⟩
    · replace hg8 := condF hg8 hb7
      refine WL.gno rfl rfl hb7 ?_
      refine WL.gno rfl rfl hb7 ?_
      refine WL.gno rfl rfl hb7 ?_
      refine WL.gno rfl rfl hb7 ?_
      refine WL.valw (R.pickF rfl hb7 rfl) ?_
      exact WL.nil ⟨(congrArg boo (Option.some.inj hg8)), (by repeat (first | refine agree_upd rfl ?_ | refine agree_upds' rfl ?_ | exact agree_refl)), rfl⟩
  · intro us
    refine WL.nil ?_
    rcases condE h with ⟨hc13, h⟩ | ⟨hc13, h⟩
    · refine WP.condT rfl hc13 ?_
      refine WP.seq ?_
      refine WP.region ?_
      refine WL.valw (R.as (v := (.slice none 0 0)) rfl) ?_
      refine WL.valw (R.as (v := (boo true)) rfl) ?_
      refine WL.valw (R.as (v := (boo true)) rfl) ?_
      refine WL.nil ?_
      obtain rfl := Option.some.inj h
      refine WP.ret (Out.three rfl S rfl rfl rfl ?_)
      exact ⟨_, rfl, Sl.nil⟩
    · refine WP.condF rfl hc13 ?_
      refine WP.skip ?_
      refine WP.seq ?_
      refine WP.seq ?_
      refine WP.region ?_
      refine WL.valw (R.mv (v := v2) rfl) ?_
      refine WL.valw (R.lenL (α := Str) (xs := r1) (H := H4) R6 rfl Tryd.underlying31) ?_
      refine WL.valw (R.eql rfl rfl) ?_
      refine WL.valw (R.mv (v := (boo ((r1.length : Int) == 0))) rfl) ?_
      refine WL.grp 4 [28, 29, 30] 31 (boo (((r1.length : Int) == 0) || (decide (64 ≤ (r1.length : Int))))) ?_ ?_
      · rcases boolE ((r1.length : Int) == 0) with hb14 | hb14
        · refine WL.gno rfl rfl hb14 ?_
          refine WL.gno rfl rfl hb14 ?_
          refine WL.gno rfl rfl hb14 ?_
          refine WL.valw (R.pickT rfl hb14 rfl) ?_
          exact WL.nil ⟨(orT hb14), (by repeat (first | refine agree_upd rfl ?_ | refine agree_upds' rfl ?_ | exact agree_refl)), rfl⟩
        · refine WL.gyes rfl rfl hb14 ?_
          refine WL.valw (R.mv (v := v2) rfl) ?_
          refine WL.gyes rfl rfl hb14 ?_
          refine WL.valw (R.lenL (α := Str) (xs := r1) (H := H4) R6 rfl Tryd.underlying31) ?_
          refine WL.gyes rfl rfl hb14 ?_
          refine WL.valw (R.geq rfl rfl) ?_
          refine WL.valw (R.pickF rfl hb14 rfl) ?_
          exact WL.nil ⟨(orF hb14), (by repeat (first | refine agree_upd rfl ?_ | refine agree_upds' rfl ?_ | exact agree_refl)), rfl⟩
      · intro us
        refine WL.nil ?_
        rcases condE h with ⟨hc16, h⟩ | ⟨hc16, h⟩
        · refine WP.condT rfl hc16 ?_
          refine WP.seq ?_
          refine WP.region ?_
          refine WL.valw (R.as (v := (.slice none 0 0)) rfl) ?_
          refine WL.valw (R.as (v := (boo false)) rfl) ?_
          refine WL.valw (R.as (v := (boo false)) rfl) ?_
          refine WL.nil ?_
          obtain rfl := Option.some.inj h
          refine WP.ret (Out.three rfl S rfl rfl rfl ?_)
          exact ⟨_, rfl, Sl.nil⟩
        · refine WP.condF rfl hc16 ?_
          refine WP.skip ?_
          refine WP.seq ?_
          refine WP.region ?_
          refine WL.valw (R.as (v := (.slice none 0 0)) rfl) ?_
          refine WL.nil ?_
          refine WP.seq ?_
          refine WP.seq ?_
          refine WP.region ?_
          refine WL.valw (R.as (v := (int 0)) rfl) ?_
          refine WL.nil ?_
          have S := S.addNil 45 2
          obtain ⟨r35, hr36, h⟩ := bindE h
          refine WP.cut (fun f w => match r35 with | .inl out_28 => ∃ (H27 : Hp) (v29 : Value), f 8 = v29 ∧ Sl (α := GETag) H27 v29 out_28 ∧ St w0 H0 w H27 [.row v29 45 2 out_28.length] | .inr _ => False) ?_ ?_
          · refine WP.block ?_
            refine WP.loopM (ref19_ETagList_L0 r1) (fun s f w => match s with | (out_21, i_25) => ∃ (H19 : Hp) (v22 : Value), f 7 = v2 ∧ f 8 = v22 ∧ f 9 = (int i_25) ∧ Sl (α := Str) H19 v2 r1 ∧ Sl (α := GETag) H19 v22 out_21 ∧ St w0 H0 w H19 [.row v22 45 2 out_21.length]) (([] : List GETag), 0) r35 hr36 ?_ ?_
            · exact ⟨H4, .slice none 0 0, rfl, rfl, rfl, R6, Sl.nil, S⟩
            · intro s f w hI y32 hy33 hy34
              obtain ⟨out_21, i_25⟩ := s
              obtain ⟨H19, v22, h20, h24, h26, R6, R23, S⟩ := hI
              refine WP.seq ?_
              refine WP.seq ?_
              refine WP.region ?_
              refine WL.valw (R.mv (v := (int i_25)) h26) ?_
              refine WL.valw (R.mv (v := v2) h20) ?_
              refine WL.valw (R.lenL (α := Str) (xs := r1) (H := H19) R6 rfl Tryd.underlying31) ?_
              refine WL.valw (R.lss rfl rfl) ?_
              refine WL.nil ?_
              rcases condE hy33 with ⟨hc37, hy33⟩ | ⟨hc37, hy33⟩
              · refine WP.condT rfl hc37 ?_
                refine WP.skip ?_
                refine WP.seq ?_
                refine WP.block ?_
                refine WP.seq ?_
                refine WP.region ?_
                refine WL.valw (R.mv (v := v2) h20) ?_
                refine WL.valw (R.mv (v := (int i_25)) h26) ?_
                obtain ⟨x38, hx38, hy33⟩ := bindE hy33
                refine W.idx (α := Str) R6 rfl rfl el31 hx38 ?_
                rintro a39 _ hA40 rfl
                refine WL.valw (R.loadH (v := (str x38)) S rfl hA40 lay9 rfl) ?_
                obtain ⟨r41, hr41, hy33⟩ := bindE hy33
                refine W.call S rfl (ref19_ParseETag_ok S.holds x38 hr41) ?_
                rintro v42 w43 H44 hle45 S rfl
                have R6 := Sl.mono R6 hle45
                have R23 := Sl.mono R23 hle45
                have hA40 := At.mono hA40 hle45 (by simp)
                refine WL.valw (R.mv (v := (.tuple ⟨[(agg [(boo r41.1.fWeak), (str r41.1.fTag)]), (boo r41.2)]⟩)) rfl) ?_
                refine WL.valw (R.ext rfl rfl) ?_
                refine WL.valw (R.ext rfl rfl) ?_
                refine W.alloc [(boo false), (str [])] S zer45 ?_
                intro b46 w47 S
                refine W.store (i := 0) [(boo r41.1.fWeak), (str r41.1.fTag)] S rfl rfl rfl lay45 rfl rfl (Nat.le_of_ble_eq_true rfl) rfl ?_
                intro w48 S
                refine WL.valw (R.as (v := (boo r41.2)) rfl) ?_
                refine WL.nil ?_
                refine WP.seq ?_
                refine WP.seq ?_
                refine WP.region ?_
                refine WL.valw (R.mv (v := (boo r41.2)) rfl) ?_
                refine WL.valw (R.not rfl) ?_
                refine WL.nil ?_
                rcases condE hy33 with ⟨hc49, hy33⟩ | ⟨hc49, hy33⟩
                · refine WP.condT rfl hc49 ?_
                  refine WP.seq ?_
                  refine WP.region ?_
                  refine WL.valw (R.as (v := (.slice none 0 0)) rfl) ?_
                  refine WL.valw (R.as (v := (boo false)) rfl) ?_
                  refine WL.valw (R.as (v := (boo false)) rfl) ?_
                  refine WL.nil ?_
                  obtain rfl := Option.some.inj hy33
                  obtain rfl := hy34
                  obtain rfl := Option.some.inj h
                  refine WP.ret (Out.three rfl S rfl rfl rfl ?_)
                  exact ⟨_, rfl, Sl.nil⟩
                · refine WP.condF rfl hc49 ?_
                  refine WP.skip ?_
                  refine WP.region ?_
                  refine WL.valw (R.mv (v := v22) h24) ?_
                  refine WL.valw (R.loadBN (i := 0) (vs := [(boo r41.1.fWeak), (str r41.1.fTag)]) S rfl rfl lay45 rfl rfl) ?_
                  refine W.bslice (α := GETag) [(agg [(boo r41.1.fWeak), (str r41.1.fTag)])] ([r41.1] : List GETag) S el47 rfl rfl rfl (by decide) (encS ⟨rfl, rfl⟩ enc0) ?_
                  intro u50 w51 H52 hle53 R54 S
                  have R6 := Sl.mono R6 hle53
                  have R23 := Sl.mono R23 hle53
                  have hA40 := At.mono hA40 hle53 (by simp)
                  obtain ⟨l55, hl55, hy33⟩ := bindE hy33
                  refine W.app (α := GETag) (i := 2) S el47 rfl rfl rfl R23 R54 hl55 ?_
                  intro v56 w57 H58 hle59 R60 S
                  have R6 := Sl.mono R6 hle59
                  have R23 := Sl.mono R23 hle59
                  have hA40 := At.mono hA40 hle59 (by simp)
                  have R54 := Sl.mono R54 hle59
                  refine WL.valw (R.as (v := v56) rfl) ?_
                  refine WL.nil ?_
                  refine WP.region ?_
                  refine WL.valw (R.mv (v := (int i_25)) h26) ?_
                  refine WL.valw (R.add rfl rfl) ?_
                  refine WL.valw (R.as (v := (int (wr (i_25 + 1)))) rfl) ?_
                  refine WL.nil ?_
                  obtain rfl := Option.some.inj hy33
                  exact ⟨rfl, ⟨H58, v56, h20, rfl, rfl, R6, R60, (S.drop _ (.cons _ (.cons _ (.cons_cons _ .slnil))))⟩⟩
              · refine WP.condF rfl hc37 ?_
                refine WP.exit ?_
                obtain rfl := Option.some.inj hy33
                obtain rfl := hy34
                exact ⟨H19, v22, h24, R23, S⟩
          · intro f w hM
            rcases r35 with out_28 | e
            · obtain ⟨H27, v29, h31, R30, S⟩ := hM
              refine WP.seq ?_
              refine WP.region ?_
              refine WL.valw (R.mv (v := v29) h31) ?_
              refine WL.valw (R.as (v := v29) rfl) ?_
              refine WL.valw (R.as (v := (boo false)) rfl) ?_
              refine WL.valw (R.as (v := (boo true)) rfl) ?_
              refine WL.nil ?_
              obtain rfl := Option.some.inj h
              refine WP.ret (Out.three rfl S rfl rfl rfl ?_)
              exact ⟨_, rfl, R30⟩
            · exact hM.elim
set_option maxHeartbeats 4000000 in
theorem keep_SameTags_ok {w0 : World} {H0 : Hp} (hw : Holds w0 H0) (p_a : (List GETag)) (p_b : (List GETag)) {vp_a : Value} {vp_b : Value} (Rp_a : Sl (α := GETag) H0 vp_a p_a) (Rp_b : Sl (α := GETag) H0 vp_b p_b) {r : Bool} (h : keep_SameTags p_a p_b = some r) :
    Con Tryd.prog 36 [vp_a, vp_b] w0 H0 (fun H' v => v = (boo r)) := by
  refine Con.mk (N := 26) Tryd.func36 rfl rfl (by kernel_rfl) rfl ?_
  have S := St.start hw
  refine WP.seq ?_
  refine WP.region ?_
  refine WL.valw (R.as (v := (boo false)) rfl) ?_
  refine WL.nil ?_
  refine WP.seq ?_
  refine WP.seq ?_
  refine WP.region ?_
  refine WL.valw (R.mv (v := vp_a) rfl) ?_
  refine WL.valw (R.lenL (α := GETag) (xs := p_a) (H := H0) Rp_a rfl Tryd.underlying47) ?_
  refine WL.valw (R.mv (v := vp_b) rfl) ?_
  refine WL.valw (R.lenL (α := GETag) (xs := p_b) (H := H0) Rp_b rfl Tryd.underlying47) ?_
  refine WL.valw (R.neq rfl rfl) ?_
  refine WL.nil ?_
  rcases condE h with ⟨hc1, h⟩ | ⟨hc1, h⟩
  · refine WP.condT rfl hc1 ?_
    refine WP.seq ?_
    refine WP.region ?_
    refine WL.valw (R.as (v := (boo false)) rfl) ?_
    refine WL.nil ?_
    obtain rfl := Option.some.inj h
    refine WP.ret (Out.one rfl S rfl ?_)
    exact rfl
  · refine WP.condF rfl hc1 ?_
    refine WP.skip ?_
    refine WP.seq ?_
    refine WP.seq ?_
    refine WP.region ?_
    refine WL.valw (R.as (v := (int 0)) rfl) ?_
    refine WL.nil ?_
    obtain ⟨r11, hr12, h⟩ := bindE h
    refine WP.cut (fun f w => match r11 with | .inl _ => ∃ (H7 : Hp), St w0 H0 w H7 [] | .inr _ => False) ?_ ?_
    · refine WP.block ?_
      refine WP.loopM (keep_SameTags_L0 p_a p_b) (fun s f w => match s with | i_5 => ∃ (H2 : Hp), f 0 = vp_a ∧ f 1 = vp_b ∧ f 5 = (int i_5) ∧ Sl (α := GETag) H2 vp_a p_a ∧ Sl (α := GETag) H2 vp_b p_b ∧ St w0 H0 w H2 []) 0 r11 hr12 ?_ ?_
      · exact ⟨H0, rfl, rfl, rfl, Rp_a, Rp_b, S⟩
      · intro i_5 f w hI y8 hy9 hy10
        obtain ⟨H2, h3, h4, h6, Rp_a, Rp_b, S⟩ := hI
        refine WP.seq ?_
        refine WP.seq ?_
        refine WP.region ?_
        refine WL.valw (R.mv (v := (int i_5)) h6) ?_
        refine WL.valw (R.mv (v := vp_a) h3) ?_
        refine WL.valw (R.lenL (α := GETag) (xs := p_a) (H := H2) Rp_a rfl Tryd.underlying47) ?_
        refine WL.valw (R.lss rfl rfl) ?_
        refine WL.nil ?_
        rcases condE hy9 with ⟨hc13, hy9⟩ | ⟨hc13, hy9⟩
        · refine WP.condT rfl hc13 ?_
          refine WP.skip ?_
          refine WP.seq ?_
          refine WP.block ?_
          refine WP.seq ?_
          refine WP.quiet S (by kernel_rfl) (by kernel_rfl) ?_
          refine WQ.val (fun _ _ => (R.mv (v := vp_a) h3)) ?_
          refine WQ.val (fun _ _ => (R.mv (v := (int i_5)) h6)) ?_
          obtain ⟨x17, hx17, hy9⟩ := bindE hy9
          refine WQ.idx (α := GETag) Rp_a rfl rfl el47 hx17 ?_
          rintro a18 _ hA19 rfl
          refine WQ.val (fun w hw => by obtain ⟨_, hq, S⟩ := hw; exact (R.loadHN (vs := [(boo x17.fWeak), (str x17.fTag)]) S rfl (At.mono hA19 hq (by simp)) lay45 rfl rfl)) ?_
          refine WQ.val (fun _ _ => (R.mv (v := vp_b) h4)) ?_
          refine WQ.val (fun _ _ => (R.mv (v := (int i_5)) h6)) ?_
          obtain ⟨x20, hx20, hy9⟩ := bindE hy9
          refine WQ.idx (α := GETag) Rp_b rfl rfl el47 hx20 ?_
          rintro a21 _ hA22 rfl
          refine WQ.val (fun w hw => by obtain ⟨_, hq, S⟩ := hw; exact (R.loadHN (vs := [(boo x20.fWeak), (str x20.fTag)]) S rfl (At.mono hA22 hq (by simp)) lay45 rfl rfl)) ?_
          refine WQ.val (fun _ _ => (R.neqA (!((x17.fWeak == x20.fWeak) && ((x17.fTag == x20.fTag) && true))) rfl rfl ps45 fk45 rfl rfl rfl)) ?_
          refine WQ.nil ?_
          intro w14 H15 hle16 S
          have Rp_a := Sl.mono Rp_a hle16
          have Rp_b := Sl.mono Rp_b hle16
          have hA19 := At.mono hA19 hle16 (by simp)
          have hA22 := At.mono hA22 hle16 (by simp)
          rcases condE hy9 with ⟨hc23, hy9⟩ | ⟨hc23, hy9⟩
          · refine WP.condT rfl hc23 ?_
            refine WP.seq ?_
            refine WP.region ?_
            refine WL.valw (R.as (v := (boo false)) rfl) ?_
            refine WL.nil ?_
            obtain rfl := Option.some.inj hy9
            obtain rfl := hy10
            obtain rfl := Option.some.inj h
            refine WP.ret (Out.one rfl S rfl ?_)
            exact rfl
          · refine WP.condF rfl hc23 ?_
            refine WP.skip ?_
            refine WP.region ?_
            refine WL.valw (R.mv (v := (int i_5)) h6) ?_
            refine WL.valw (R.add rfl rfl) ?_
            refine WL.valw (R.as (v := (int (wr (i_5 + 1)))) rfl) ?_
            refine WL.nil ?_
            obtain rfl := Option.some.inj hy9
            exact ⟨rfl, ⟨H15, h3, h4, rfl, Rp_a, Rp_b, S⟩⟩
        · refine WP.condF rfl hc13 ?_
          refine WP.exit ?_
          obtain rfl := Option.some.inj hy9
          obtain rfl := hy10
          exact ⟨H2, S⟩
    · intro f w hM
      rcases r11 with _ | e
      · obtain ⟨H7, S⟩ := hM
        refine WP.seq ?_
        refine WP.region ?_
        refine WL.valw (R.as (v := (boo true)) rfl) ?_
        refine WL.nil ?_
        obtain rfl := Option.some.inj h
        refine WP.ret (Out.one rfl S rfl ?_)
        exact rfl
      · exact hM.elim
end Go.Proofs
