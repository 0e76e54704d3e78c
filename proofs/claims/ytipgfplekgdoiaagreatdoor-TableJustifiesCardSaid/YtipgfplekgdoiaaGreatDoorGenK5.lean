/- A part of the proof of laws of the seat: written by program over the translation. -/
import Derived.Test.YtipgfplekgdoiaaGreatDoorEng38
import Derived.Test.YtipgfplekgdoiaaGreatDoorEng32
import Derived.Test.YtipgfplekgdoiaaGreatDoorGenK4
namespace Go.Proofs
set_option maxHeartbeats 4000000
set_option maxRecDepth 10000
open Go.Eng Go.Eng.Pure
set_option linter.unusedVariables false
theorem zJd {w0:World} {H0:Hp} (hw:Holds w0 H0) (p_s:Str) {r:Str} (h:zHU p_s=some r) :
  Con Tryz.prog 265 [(str p_s)] w0 H0 (fun H' v=>v=(str r)):=by
 refine Con.mk (N:=35) Tryz.func265 rfl rfl kr rfl ?_
 have S:=St.start hw
 refine Ws<|Wg<|A<|We<|Ws<|Wg<|W.bslice (α:=UInt8) [(byt 34)] ([34]:List UInt8) S el128 rfl rfl rfl (by decide) (Go.Eng.encS ⟨rfl,rfl⟩ enc0) ?_
 intro u1 w2 H3 hle4 R5 S
 refine A<|We<|Ws<|Ws<|Wg<|M<|Ns<|M<|We<|B h fun out_16 hr24 h=>WP.cut (fun f w=>∃ (H15:Hp) (v17:Value),f 3=v17∧Sl (α:=UInt8) H15 v17 out_16∧St w0 H0 w H15 [.row v17 5 1 out_16.length]) ?_ ?_
 ·refine Wb ?_
  refine WP.loopM (zHK p_s) (fun s f w=>match s with | (out_8,y_13)=>∃ (H6:Hp) (v9:Value),f 0=(str p_s)∧f 3=v9∧f 7=(int (p_s.length:Int))∧f 8=(int y_13)∧Sl (α:=UInt8) H6 v9 out_8∧St w0 H0 w H6 [.row v9 5 1 out_8.length]) (([34]:List UInt8),0) out_16 hr24 ?_ ?_
  ·exact ⟨H3,u1,rfl,rfl,rfl,rfl,R5,S⟩
  intro s f w hI y20 hy21 hy22
  obtain ⟨out_8,y_13⟩:=s
  obtain ⟨H6,v9,h7,h11,h12,h14,R10,S⟩:=hI
  refine Ws<|Wg<|La' h14 h12<|We<|Ws ?_
  rcases condE hy21 with ⟨hc25,hy21⟩ | ⟨hc25,hy21⟩
  ·refine CT hc25<|Wk<|Ws<|Wb<|Ws<|Wg<|M' h14<|A<|We<|Ws<|Ws<|Wg ?_
   refine M' h7<|M<|B hy21 fun c26 hc26 hy21=>Ja hc26<|Me c26 34<|M<|B hy21 fun b30 hg28 hy21=>WL.grp 5 [16,17,18,19] 20 (boo b30) ?_ ?_
   ·rcases boolE (c26==34) with hb27 | hb27
    ·replace hg28:=condT hg28 hb27
     refine Gn hb27<|Gn hb27<|Gn hb27<|Gn hb27<|Pt hb27 ?_
     exact We ⟨(congrArg boo (oi hg28)),ag,rfl⟩
    replace hg28:=condF hg28 hb27
    refine Gy hb27<|M' h7<|Gy hb27<|M<|Gy hb27<|B hg28 fun c29 hc29 hg28=>Ja hc29<|Gy hb27<|Me c29 92<|Pf hb27 ?_
    exact We ⟨(congrArg boo (oi hg28)),ag,rfl⟩
   intro us
   refine We<|B hy21 fun out_33 hj40 hy21=>WP.cut (fun f w=>∃ (H31:Hp) (v34:Value),f 0=(str p_s)∧f 3=v34∧f 4=(int y_13)∧f 7=(int (p_s.length:Int))∧f 8=(int y_13)∧Sl (α:=UInt8) H31 v34 out_33∧St w0 H0 w H31 [.row v34 5 1 out_33.length]) ?_ ?_
   ·rcases condE hj40 with ⟨hc42,hj40⟩ | ⟨hc42,hj40⟩
    ·refine CT hc42<|Wg<|M' h11<|W.bslice (α:=UInt8) [(byt 92)] ([92]:List UInt8) S el128 rfl rfl rfl (by decide) (Go.Eng.encS ⟨rfl,rfl⟩ enc0) ?_
     intro u43 w44 H45 hle46 R47 S
     have R10:=Sl.mono R10 hle46
     refine B hj40 fun l48 hl48 hj40=>W.app (α:=UInt8) (i:=1) S el128 rfl rfl rfl R10 R47 hl48 ?_
     intro v49 w50 H51 hle52 R53 S
     have R10:=Sl.mono R10 hle52
     refine A<|We ?_
     obtain rfl:=oi hj40
     exact ⟨H51,v49,h7,rfl,rfl,h12,h14,R53,(S.drop _ (.cons _ (.cons_cons _ .slnil)))⟩
    refine CF hc42<|Wk ?_
    obtain rfl:=oi hj40
    exact ⟨H6,v9,h7,h11,rfl,h12,h14,R10,S⟩
   rintro f w ⟨H31,v34,h32,h36,h37,h38,h39,R35,S⟩
   refine Wg<|M' h36<|M' h32<|M' h37<|B hy21 fun c54 hc54 hy21=>Ja hc54<|W.bslice (α:=UInt8) [(byt c54)] ([c54]:List UInt8) S el128 rfl rfl rfl (by decide) (Go.Eng.encS ⟨rfl,rfl⟩ enc0) ?_
   intro u55 w56 H57 hle58 R59 S
   have R35:=Sl.mono R35 hle58
   refine B hy21 fun l60 hl60 hy21=>W.app (α:=UInt8) (i:=1) S el128 rfl rfl rfl R35 R59 hl60 ?_
   intro v61 w62 H63 hle64 R65 S
   refine A<|We<|Wg<|Lg' h39 rfl<|M<|We ?_
   obtain rfl:=oi hy21
   exact ⟨rfl,⟨H63,v61,h32,rfl,h38,rfl,R65,(S.drop _ (.cons _ (.cons_cons _ .slnil)))⟩⟩
  refine CF hc25<|Wx ?_
  obtain rfl:=oi hy21
  obtain rfl:=hy22
  exact ⟨H6,v9,h11,R10,S⟩
 rintro f w ⟨H15,v17,h19,R18,S⟩
 refine Ws<|Wg<|M' h19<|W.bslice (α:=UInt8) [(byt 34)] ([34]:List UInt8) S el128 rfl rfl rfl (by decide) (Go.Eng.encS ⟨rfl,rfl⟩ enc0) ?_
 intro u66 w67 H68 hle69 R70 S
 have R18:=Sl.mono R18 hle69
 refine B h fun l71 hl71 h=>W.app (α:=UInt8) (i:=1) S el128 rfl rfl rfl R18 R70 hl71 ?_
 intro v72 w73 H74 hle75 R76 S
 refine WL.w (R.strL S R76 rfl Tryz.underlying128 Tryz.underlying9 Tryz.underlying5)<|A<|We ?_
 obtain rfl:=oi h
 refine WP.ret (Out.one rfl S rfl ?_)
 exact rfl
theorem zDh {w0 ws:World} {H0 Hs:Hp} {L2:List Ent} (s0_buf:(List UInt8)) {v0_1:Value} {b0:Nat} (S:St w0 H0 ws Hs (.box b0 186 [(.pointer none),v0_1] :: .row v0_1 5 1 s0_buf.length :: L2)) (R0_1:Sl (α:=UInt8) Hs v0_1 s0_buf) {r:Unit} (h:zEY s0_buf=some r) :
  ConS Tryz.prog 213 [(ptr b0 0)] w0 H0 ws Hs L2 (fun H' v L'=>∃ u1:Value,L'=[.box b0 186 [(ptr b0 0),u1],.row u1 5 1 s0_buf.length]∧v=(.tuple #[])∧Sl (α:=UInt8) H' u1 s0_buf):=by
 refine ConS.mk (N:=20) Tryz.func213 rfl rfl kr rfl<|Ws<|Wg<|M<|Nn<|Fb ?_
 refine Lo 0 S ?_
 refine WL.w (v:=boo true) (R.ofEq (R.eqlPN rfl rfl Tryz.underlying184) rfl)<|We<|WP.condT (b:=true) rfl rfl<|Wg<|M ?_
 refine M ?_
 refine WL.w (R.toUnsafe (i:=0) S rfl rfl Tryz.underlying184 Tryz.underlying232 zPI (by decide) (by simp))<|W.noEscape Tryz.func239 rfl rfl kr kr rfl ?_
 refine WL.w (R.fromUnsafe (i:=0) S rfl rfl Tryz.underlying232 Tryz.underlying184 zPN zP5 (by simp))<|Nn<|Fb ?_
 refine W.store (i:=0) [(ptr b0 0),v0_1] S rfl rfl rfl zPJ rfl rfl (Nat.le_of_ble_eq_true rfl) rfl ?_
 intro w1 S
 refine We ?_
 obtain rfl:=oi h
 have S3:=S
 have S3:=S3.front 1 rfl
 have S3:=S3.front 1 rfl
 replace S3:St w0 H0 _ Hs (.box b0 186 [(ptr b0 0),v0_1] :: .row v0_1 5 1 s0_buf.length :: L2):=S3
 replace S3:St w0 H0 _ Hs (.box b0 186 [(ptr b0 0),v0_1] :: .row v0_1 5 1 s0_buf.length :: L2):=S3.drop _ (.cons_cons _ (.cons_cons _ (.refl _)))
 refine (OutS.zero (L':=[.box b0 186 [(ptr b0 0),v0_1],.row v0_1 5 1 s0_buf.length]) (.inr rfl) rfl (Hp.le.refl _) S3 ?_)
 exact ⟨_,rfl,rfl,R0_1⟩
theorem zDX {w0 ws:World} {H0 Hs:Hp} {L2:List Ent} (s0_buf:(List UInt8)) {v0_1:Value} {b0:Nat} (S:St w0 H0 ws Hs (.box b0 186 [(ptr b0 0),v0_1] :: .row v0_1 5 1 s0_buf.length :: L2)) (R0_1:Sl (α:=UInt8) Hs v0_1 s0_buf) {r:Unit} (h:zEC s0_buf=some r) :
  ConS Tryz.prog 213 [(ptr b0 0)] w0 H0 ws Hs L2 (fun H' v L'=>∃ u1:Value,L'=[.box b0 186 [(ptr b0 0),u1],.row u1 5 1 s0_buf.length]∧v=(.tuple #[])∧Sl (α:=UInt8) H' u1 s0_buf):=by
 refine ConS.mk (N:=20) Tryz.func213 rfl rfl kr rfl<|Ws<|Wg<|M<|Nn<|Fb ?_
 refine Lo 0 S ?_
 refine WL.w (v:=boo false) (R.ofEq (R.eqlPN rfl rfl Tryz.underlying184) rfl)<|We<|WP.condF (b:=false) rfl rfl<|Ws<|Wg ?_
 refine M<|Nn<|Fb ?_
 refine Lo 0 S<|M ?_
 refine WL.w (R.neqPS rfl rfl Tryz.underlying184 zPN)<|We<|WP.condF (b:=false) rfl rfl<|Wk ?_
 obtain rfl:=oi h
 have S3:=S
 have S3:=S3.front 1 rfl
 have S3:=S3.front 1 rfl
 replace S3:St w0 H0 _ Hs (.box b0 186 [(ptr b0 0),v0_1] :: .row v0_1 5 1 s0_buf.length :: L2):=S3
 replace S3:St w0 H0 _ Hs (.box b0 186 [(ptr b0 0),v0_1] :: .row v0_1 5 1 s0_buf.length :: L2):=S3.drop _ (.cons_cons _ (.cons_cons _ (.refl _)))
 refine (OutS.zero (L':=[.box b0 186 [(ptr b0 0),v0_1],.row v0_1 5 1 s0_buf.length]) (.inr rfl) rfl (Hp.le.refl _) S3 ?_)
 exact ⟨_,rfl,rfl,R0_1⟩
theorem zCw {w0 ws:World} {H0 Hs:Hp} {L2:List Ent} (s0_buf:List UInt8) {v0_1 va0:Value} {b0:Nat} (S:St w0 H0 ws Hs (.box b0 186 [va0,v0_1] :: .row v0_1 5 1 s0_buf.length :: L2)) (R0_1:Sl (α:=UInt8) Hs v0_1 s0_buf) (hva0:va0=Value.pointer none∨va0=ptr b0 0) {r:Unit} (h:zAt s0_buf=some r) :
  ConS Tryz.prog 213 [(ptr b0 0)] w0 H0 ws Hs L2 (fun H' v L'=>∃ u1 u2:Value,L'=[.box b0 186 [u1,u2],.row u2 5 1 s0_buf.length]∧v=(.tuple #[])∧(u1=Value.pointer none∨u1=ptr b0 0)∧Sl (α:=UInt8) H' u2 s0_buf):=by
 rcases hva0 with rfl | rfl
 ·exact ConS.mono (zDh s0_buf S R0_1 rfl) fun H' v L' ⟨u,h1,h2,h3⟩=>⟨_,u,h1,h2,.inr rfl,h3⟩
 exact ConS.mono (zDX s0_buf S R0_1 rfl) fun H' v L' ⟨u,h1,h2,h3⟩=>⟨_,u,h1,h2,.inr rfl,h3⟩
theorem zAZ {w0 ws:World} {H0 Hs:Hp} {L2:List Ent} (p_s:Str) (s0_buf:(List UInt8)) {v0_1:Value} {va0:Value} {b0:Nat} (S:St w0 H0 ws Hs (.box b0 186 [va0,v0_1] :: .row v0_1 5 1 s0_buf.length :: L2)) (R0_1:Sl (α:=UInt8) Hs v0_1 s0_buf) (hva0:va0=Value.pointer none∨va0=ptr b0 0) {r:(Int×Unit×(List UInt8))} (h:zAN p_s s0_buf=some r) :
  ConS Tryz.prog 180 [(ptr b0 0),(str p_s)] w0 H0 ws Hs L2 (fun H' v L'=>∃ u1 u2:Value,L'=[.box b0 186 [u1,u2],.row u2 5 1 r.2.2.length]∧v=(.tuple ⟨[(int r.1),.nilIface]⟩)∧(u1=Value.pointer none∨u1=ptr b0 0)∧Sl (α:=UInt8) H' u2 r.2.2):=by
 refine ConS.mk (N:=19) Tryz.func180 rfl rfl kr rfl<|Ws<|Wg<|A<|A<|We<|Ws<|Wg<|M ?_
 replace S:=S.front 1 rfl
 replace S:=S.front 1 rfl
 replace S:St w0 H0 _ Hs (.box b0 186 [va0,v0_1] :: .row v0_1 5 1 s0_buf.length :: L2):=S
 refine B h fun r1 hr1 h=>W.callS rfl (zCw s0_buf S R0_1 hva0 hr1) ?_
 rintro v2 w3 H4 L6 hle5 S ⟨u7,u9,rfl,rfl,hv8,R10⟩
 replace S:St w0 H0 _ H4 (.box b0 186 [u7,u9] :: .row u9 5 1 s0_buf.length :: L2):=S
 refine We<|Ws<|Wg<|M<|M<|Nn<|Fb ?_
 refine Lo 0 S<|M<|B h fun l11 hl11 h=>W.appStr (i:=1) S el128 Tryz.underlying9 rfl rfl rfl R10 hl11 ?_
 intro v12 w13 H14 hle15 R16 S
 refine Nn<|Fb ?_
 refine W.storeSl (α:=UInt8) (i:=0) [u7,v12] S R16 rfl rfl rfl zPU (Nat.le_of_ble_eq_true rfl) rfl ?_
 intro w17 S
 refine We<|Ws<|Wg<|M<|Ns<|A<|A<|We ?_
 obtain rfl:=oi h
 have S3:=S
 have S3:=S3.front 1 rfl
 have S3:=S3.front 1 rfl
 replace S3:St w0 H0 _ H14 (.box b0 186 [u7,v12] :: .row v12 5 1 l11.length :: L2):=S3
 replace S3:St w0 H0 _ H14 (.box b0 186 [u7,v12] :: .row v12 5 1 l11.length :: L2):=S3.drop _ (.cons_cons _ (.cons_cons _ (.refl _)))
 refine WP.ret (OutS.two (L':=[.box b0 186 [u7,v12],.row v12 5 1 l11.length]) rfl (hle5.trans hle15) S3 rfl rfl ?_)
 exact ⟨_,_,rfl,rfl,hv8,R16⟩
theorem zDV {w0 ws:World} {H0 Hs:Hp} {L2:List Ent} (s0_buf:(List UInt8)) {v0_1:Value} {va0:Value} {b0:Nat} (S:St w0 H0 ws Hs (.box b0 186 [va0,v0_1] :: .row v0_1 5 1 s0_buf.length :: L2)) (R0_1:Sl (α:=UInt8) Hs v0_1 s0_buf) (hva0:va0=Value.pointer none∨va0=ptr b0 0) {r:Str} (h:zA7 s0_buf=some r) :
  ConS Tryz.prog 181 [(ptr b0 0)] w0 H0 ws Hs L2 (fun H' v L'=>L'=[.box b0 186 [va0,v0_1]]∧v=(str r)):=by
 refine ConS.mk (N:=14) Tryz.func181 rfl rfl kr rfl<|Ws<|Wg<|A<|We<|Ws<|WP.draw kr 12 rfl (bm 12 0) rfl ?_
 have S:=S.drew
 refine WA.take (i:=0) (bm 12 1) rfl kr kr kr rfl (fun _=>(R.mv (v:=ptr b0 0) rfl)) ?_
 refine WA.take (i:=5) (bm 12 33) rfl kr kr kr rfl (fun _=>(R.mv (v:=ptr b0 0) rfl)) ?_
 refine WA.two (i:=1) (j:=6) (bm 12 35) (bm 12 97) rfl rfl kr rfl rfl ?_ ?_
 ·refine Nn<|We ?_
  refine WA.take (i:=2) (bm 12 39) rfl kr kr kr rfl (fun _=>(R.fieldB rfl zFa)) ?_
  refine WA.two (i:=3) (j:=6) (bm 12 47) (bm 12 103) rfl rfl kr rfl rfl ?_ ?_
  ·refine Lo 0 S<|We ?_
   refine WA.two (i:=4) (j:=6) (bm 12 63) (bm 12 111) rfl rfl kr rfl rfl ?_ ?_
   ·refine W.sliceData (i:=1) S rfl rfl Tryz.underlying212 ?_
    intro v1 w3 hp2 S
    refine We<|WA.one (i:=6) (bm 12 127) rfl kr rfl<|Nn<|We ?_
    refine WA.take (i:=7) (bm 12 255) rfl kr kr kr rfl (fun _=>(R.fieldB rfl zFa))<|WA.one (i:=8) (bm 12 511) rfl kr rfl ?_
    refine Lo 0 S<|We ?_
    refine WA.take (i:=9) (bm 12 1023) rfl kr kr kr rfl (fun _=>(R.lenL (α:=UInt8) (xs:=s0_buf) (H:=Hs) R0_1 rfl Tryz.underlying128))<|WA.one (i:=10) (bm 12 2047) rfl kr rfl ?_
    refine W.strOf (i:=1) S rfl R0_1 hp2 rfl rfl Tryz.underlying212 ceo5 ?_
    intro w4 S
    refine We ?_
    refine WA.take (i:=11) (bm 12 4095) rfl kr kr kr rfl (fun _=>(R.as (v:=str s0_buf) rfl))<|WA.done kr ?_
    obtain rfl:=oi h
    have S3:=S
    have S3:=S3.front 0 rfl
    replace S3:St w0 H0 _ Hs (.box b0 186 [va0,v0_1] :: L2):=S3
    replace S3:St w0 H0 _ Hs (.box b0 186 [va0,v0_1] :: L2):=S3.drop _ (.cons_cons _ (.refl _))
    refine WP.ret (OutS.one (L':=[.box b0 186 [va0,v0_1]]) rfl (Hp.le.refl _) S3 rfl ?_)
    exact ⟨rfl,rfl⟩
   refine Nn<|We ?_
   refine WA.take (i:=7) (bm 12 239) rfl kr kr kr rfl (fun _=>(R.fieldB rfl zFa)) ?_
   refine WA.two (i:=4) (j:=8) (bm 12 255) (bm 12 495) rfl rfl kr rfl rfl ?_ ?_
   ·refine W.sliceData (i:=1) S rfl rfl Tryz.underlying212 ?_
    intro v1 w3 hp2 S
    refine We<|WA.one (i:=8) (bm 12 511) rfl kr rfl ?_
    refine Lo 0 S<|We ?_
    refine WA.take (i:=9) (bm 12 1023) rfl kr kr kr rfl (fun _=>(R.lenL (α:=UInt8) (xs:=s0_buf) (H:=Hs) R0_1 rfl Tryz.underlying128))<|WA.one (i:=10) (bm 12 2047) rfl kr rfl ?_
    refine W.strOf (i:=1) S rfl R0_1 hp2 rfl rfl Tryz.underlying212 ceo5 ?_
    intro w4 S
    refine We ?_
    refine WA.take (i:=11) (bm 12 4095) rfl kr kr kr rfl (fun _=>(R.as (v:=str s0_buf) rfl))<|WA.done kr ?_
    obtain rfl:=oi h
    have S3:=S
    have S3:=S3.front 0 rfl
    replace S3:St w0 H0 _ Hs (.box b0 186 [va0,v0_1] :: L2):=S3
    replace S3:St w0 H0 _ Hs (.box b0 186 [va0,v0_1] :: L2):=S3.drop _ (.cons_cons _ (.refl _))
    refine WP.ret (OutS.one (L':=[.box b0 186 [va0,v0_1]]) rfl (Hp.le.refl _) S3 rfl ?_)
    exact ⟨rfl,rfl⟩
   refine Lo 0 S<|We ?_
   refine WA.take (i:=9) (bm 12 1007) rfl kr kr kr rfl (fun _=>(R.lenL (α:=UInt8) (xs:=s0_buf) (H:=Hs) R0_1 rfl Tryz.underlying128))<|WA.one (i:=4) (bm 12 1023) rfl kr rfl<|W.sliceData (i:=1) S rfl rfl Tryz.underlying212 ?_
   intro v1 w3 hp2 S
   refine We<|WA.one (i:=10) (bm 12 2047) rfl kr rfl ?_
   refine W.strOf (i:=1) S rfl R0_1 hp2 rfl rfl Tryz.underlying212 ceo5 ?_
   intro w4 S
   refine We ?_
   refine WA.take (i:=11) (bm 12 4095) rfl kr kr kr rfl (fun _=>(R.as (v:=str s0_buf) rfl))<|WA.done kr ?_
   obtain rfl:=oi h
   have S3:=S
   have S3:=S3.front 0 rfl
   replace S3:St w0 H0 _ Hs (.box b0 186 [va0,v0_1] :: L2):=S3
   replace S3:St w0 H0 _ Hs (.box b0 186 [va0,v0_1] :: L2):=S3.drop _ (.cons_cons _ (.refl _))
   refine WP.ret (OutS.one (L':=[.box b0 186 [va0,v0_1]]) rfl (Hp.le.refl _) S3 rfl ?_)
   exact ⟨rfl,rfl⟩
  refine Nn<|We ?_
  refine WA.take (i:=7) (bm 12 231) rfl kr kr kr rfl (fun _=>(R.fieldB rfl zFa)) ?_
  refine WA.two (i:=3) (j:=8) (bm 12 239) (bm 12 487) rfl rfl kr rfl rfl ?_ ?_
  ·refine Lo 0 S<|We ?_
   refine WA.two (i:=4) (j:=8) (bm 12 255) (bm 12 495) rfl rfl kr rfl rfl ?_ ?_
   ·refine W.sliceData (i:=1) S rfl rfl Tryz.underlying212 ?_
    intro v1 w3 hp2 S
    refine We<|WA.one (i:=8) (bm 12 511) rfl kr rfl ?_
    refine Lo 0 S<|We ?_
    refine WA.take (i:=9) (bm 12 1023) rfl kr kr kr rfl (fun _=>(R.lenL (α:=UInt8) (xs:=s0_buf) (H:=Hs) R0_1 rfl Tryz.underlying128))<|WA.one (i:=10) (bm 12 2047) rfl kr rfl ?_
    refine W.strOf (i:=1) S rfl R0_1 hp2 rfl rfl Tryz.underlying212 ceo5 ?_
    intro w4 S
    refine We ?_
    refine WA.take (i:=11) (bm 12 4095) rfl kr kr kr rfl (fun _=>(R.as (v:=str s0_buf) rfl))<|WA.done kr ?_
    obtain rfl:=oi h
    have S3:=S
    have S3:=S3.front 0 rfl
    replace S3:St w0 H0 _ Hs (.box b0 186 [va0,v0_1] :: L2):=S3
    replace S3:St w0 H0 _ Hs (.box b0 186 [va0,v0_1] :: L2):=S3.drop _ (.cons_cons _ (.refl _))
    refine WP.ret (OutS.one (L':=[.box b0 186 [va0,v0_1]]) rfl (Hp.le.refl _) S3 rfl ?_)
    exact ⟨rfl,rfl⟩
   refine Lo 0 S<|We ?_
   refine WA.take (i:=9) (bm 12 1007) rfl kr kr kr rfl (fun _=>(R.lenL (α:=UInt8) (xs:=s0_buf) (H:=Hs) R0_1 rfl Tryz.underlying128))<|WA.one (i:=4) (bm 12 1023) rfl kr rfl<|W.sliceData (i:=1) S rfl rfl Tryz.underlying212 ?_
   intro v1 w3 hp2 S
   refine We<|WA.one (i:=10) (bm 12 2047) rfl kr rfl ?_
   refine W.strOf (i:=1) S rfl R0_1 hp2 rfl rfl Tryz.underlying212 ceo5 ?_
   intro w4 S
   refine We ?_
   refine WA.take (i:=11) (bm 12 4095) rfl kr kr kr rfl (fun _=>(R.as (v:=str s0_buf) rfl))<|WA.done kr ?_
   obtain rfl:=oi h
   have S3:=S
   have S3:=S3.front 0 rfl
   replace S3:St w0 H0 _ Hs (.box b0 186 [va0,v0_1] :: L2):=S3
   replace S3:St w0 H0 _ Hs (.box b0 186 [va0,v0_1] :: L2):=S3.drop _ (.cons_cons _ (.refl _))
   refine WP.ret (OutS.one (L':=[.box b0 186 [va0,v0_1]]) rfl (Hp.le.refl _) S3 rfl ?_)
   exact ⟨rfl,rfl⟩
  refine Lo 0 S<|We ?_
  refine WA.take (i:=9) (bm 12 999) rfl kr kr kr rfl (fun _=>(R.lenL (α:=UInt8) (xs:=s0_buf) (H:=Hs) R0_1 rfl Tryz.underlying128))<|WA.one (i:=3) (bm 12 1007) rfl kr rfl ?_
  refine Lo 0 S<|We<|WA.one (i:=4) (bm 12 1023) rfl kr rfl<|W.sliceData (i:=1) S rfl rfl Tryz.underlying212 ?_
  intro v1 w3 hp2 S
  refine We<|WA.one (i:=10) (bm 12 2047) rfl kr rfl ?_
  refine W.strOf (i:=1) S rfl R0_1 hp2 rfl rfl Tryz.underlying212 ceo5 ?_
  intro w4 S
  refine We ?_
  refine WA.take (i:=11) (bm 12 4095) rfl kr kr kr rfl (fun _=>(R.as (v:=str s0_buf) rfl))<|WA.done kr ?_
  obtain rfl:=oi h
  have S3:=S
  have S3:=S3.front 0 rfl
  replace S3:St w0 H0 _ Hs (.box b0 186 [va0,v0_1] :: L2):=S3
  replace S3:St w0 H0 _ Hs (.box b0 186 [va0,v0_1] :: L2):=S3.drop _ (.cons_cons _ (.refl _))
  refine WP.ret (OutS.one (L':=[.box b0 186 [va0,v0_1]]) rfl (Hp.le.refl _) S3 rfl ?_)
  exact ⟨rfl,rfl⟩
 refine Nn<|We ?_
 refine WA.take (i:=7) (bm 12 225) rfl kr kr kr rfl (fun _=>(R.fieldB rfl zFa)) ?_
 refine WA.two (i:=1) (j:=8) (bm 12 227) (bm 12 481) rfl rfl kr rfl rfl ?_ ?_
 ·refine Nn<|We ?_
  refine WA.take (i:=2) (bm 12 231) rfl kr kr kr rfl (fun _=>(R.fieldB rfl zFa)) ?_
  refine WA.two (i:=3) (j:=8) (bm 12 239) (bm 12 487) rfl rfl kr rfl rfl ?_ ?_
  ·refine Lo 0 S<|We ?_
   refine WA.two (i:=4) (j:=8) (bm 12 255) (bm 12 495) rfl rfl kr rfl rfl ?_ ?_
   ·refine W.sliceData (i:=1) S rfl rfl Tryz.underlying212 ?_
    intro v1 w3 hp2 S
    refine We<|WA.one (i:=8) (bm 12 511) rfl kr rfl ?_
    refine Lo 0 S<|We ?_
    refine WA.take (i:=9) (bm 12 1023) rfl kr kr kr rfl (fun _=>(R.lenL (α:=UInt8) (xs:=s0_buf) (H:=Hs) R0_1 rfl Tryz.underlying128))<|WA.one (i:=10) (bm 12 2047) rfl kr rfl ?_
    refine W.strOf (i:=1) S rfl R0_1 hp2 rfl rfl Tryz.underlying212 ceo5 ?_
    intro w4 S
    refine We ?_
    refine WA.take (i:=11) (bm 12 4095) rfl kr kr kr rfl (fun _=>(R.as (v:=str s0_buf) rfl))<|WA.done kr ?_
    obtain rfl:=oi h
    have S3:=S
    have S3:=S3.front 0 rfl
    replace S3:St w0 H0 _ Hs (.box b0 186 [va0,v0_1] :: L2):=S3
    replace S3:St w0 H0 _ Hs (.box b0 186 [va0,v0_1] :: L2):=S3.drop _ (.cons_cons _ (.refl _))
    refine WP.ret (OutS.one (L':=[.box b0 186 [va0,v0_1]]) rfl (Hp.le.refl _) S3 rfl ?_)
    exact ⟨rfl,rfl⟩
   refine Lo 0 S<|We ?_
   refine WA.take (i:=9) (bm 12 1007) rfl kr kr kr rfl (fun _=>(R.lenL (α:=UInt8) (xs:=s0_buf) (H:=Hs) R0_1 rfl Tryz.underlying128))<|WA.one (i:=4) (bm 12 1023) rfl kr rfl<|W.sliceData (i:=1) S rfl rfl Tryz.underlying212 ?_
   intro v1 w3 hp2 S
   refine We<|WA.one (i:=10) (bm 12 2047) rfl kr rfl ?_
   refine W.strOf (i:=1) S rfl R0_1 hp2 rfl rfl Tryz.underlying212 ceo5 ?_
   intro w4 S
   refine We ?_
   refine WA.take (i:=11) (bm 12 4095) rfl kr kr kr rfl (fun _=>(R.as (v:=str s0_buf) rfl))<|WA.done kr ?_
   obtain rfl:=oi h
   have S3:=S
   have S3:=S3.front 0 rfl
   replace S3:St w0 H0 _ Hs (.box b0 186 [va0,v0_1] :: L2):=S3
   replace S3:St w0 H0 _ Hs (.box b0 186 [va0,v0_1] :: L2):=S3.drop _ (.cons_cons _ (.refl _))
   refine WP.ret (OutS.one (L':=[.box b0 186 [va0,v0_1]]) rfl (Hp.le.refl _) S3 rfl ?_)
   exact ⟨rfl,rfl⟩
  refine Lo 0 S<|We ?_
  refine WA.take (i:=9) (bm 12 999) rfl kr kr kr rfl (fun _=>(R.lenL (α:=UInt8) (xs:=s0_buf) (H:=Hs) R0_1 rfl Tryz.underlying128))<|WA.one (i:=3) (bm 12 1007) rfl kr rfl ?_
  refine Lo 0 S<|We<|WA.one (i:=4) (bm 12 1023) rfl kr rfl<|W.sliceData (i:=1) S rfl rfl Tryz.underlying212 ?_
  intro v1 w3 hp2 S
  refine We<|WA.one (i:=10) (bm 12 2047) rfl kr rfl ?_
  refine W.strOf (i:=1) S rfl R0_1 hp2 rfl rfl Tryz.underlying212 ceo5 ?_
  intro w4 S
  refine We ?_
  refine WA.take (i:=11) (bm 12 4095) rfl kr kr kr rfl (fun _=>(R.as (v:=str s0_buf) rfl))<|WA.done kr ?_
  obtain rfl:=oi h
  have S3:=S
  have S3:=S3.front 0 rfl
  replace S3:St w0 H0 _ Hs (.box b0 186 [va0,v0_1] :: L2):=S3
  replace S3:St w0 H0 _ Hs (.box b0 186 [va0,v0_1] :: L2):=S3.drop _ (.cons_cons _ (.refl _))
  refine WP.ret (OutS.one (L':=[.box b0 186 [va0,v0_1]]) rfl (Hp.le.refl _) S3 rfl ?_)
  exact ⟨rfl,rfl⟩
 refine Lo 0 S<|We ?_
 refine WA.take (i:=9) (bm 12 993) rfl kr kr kr rfl (fun _=>(R.lenL (α:=UInt8) (xs:=s0_buf) (H:=Hs) R0_1 rfl Tryz.underlying128))<|WA.one (i:=1) (bm 12 995) rfl kr rfl<|Nn<|We ?_
 refine WA.take (i:=2) (bm 12 999) rfl kr kr kr rfl (fun _=>(R.fieldB rfl zFa))<|WA.one (i:=3) (bm 12 1007) rfl kr rfl ?_
 refine Lo 0 S<|We<|WA.one (i:=4) (bm 12 1023) rfl kr rfl<|W.sliceData (i:=1) S rfl rfl Tryz.underlying212 ?_
 intro v1 w3 hp2 S
 refine We<|WA.one (i:=10) (bm 12 2047) rfl kr rfl ?_
 refine W.strOf (i:=1) S rfl R0_1 hp2 rfl rfl Tryz.underlying212 ceo5 ?_
 intro w4 S
 refine We ?_
 refine WA.take (i:=11) (bm 12 4095) rfl kr kr kr rfl (fun _=>(R.as (v:=str s0_buf) rfl))<|WA.done kr ?_
 obtain rfl:=oi h
 have S3:=S
 have S3:=S3.front 0 rfl
 replace S3:St w0 H0 _ Hs (.box b0 186 [va0,v0_1] :: L2):=S3
 replace S3:St w0 H0 _ Hs (.box b0 186 [va0,v0_1] :: L2):=S3.drop _ (.cons_cons _ (.refl _))
 refine WP.ret (OutS.one (L':=[.box b0 186 [va0,v0_1]]) rfl (Hp.le.refl _) S3 rfl ?_)
 exact ⟨rfl,rfl⟩
theorem zI4 {w0:World} {H0:Hp} (hw:Holds w0 H0) (p_value:Str) (p_l:(List GParam)) {vp_l:Value} (Rp_l:Sl (α:=GParam) H0 vp_l p_l) {r:Str} (h:zFV p_value p_l=some r) :
  Con Tryz.prog 257 [(str p_value),vp_l] w0 H0 (fun H' v=>v=(str r)):=by
 refine Con.mk (N:=33) Tryz.func257 rfl rfl kr rfl ?_
 have S:=St.start hw
 refine Ws<|Wg<|A<|We<|Ws<|Wg ?_
 refine W.alloc [(.pointer none),(.slice none 0 0)] S zQC ?_
 intro b1 w2 S
 refine We<|Ws<|Wg<|M ?_
 obtain ⟨v3,hv4⟩:∃ v:Value,v=.slice none 0 0:=⟨_,rfl⟩
 have R5:Sl (α:=UInt8) H0 v3 []:=by rw [hv4]; exact Sl.nil
 replace S:=(show ∀ {w:World},St w0 H0 w H0 [.box b1 186 [(.pointer none),(.slice none 0 0)]]→St w0 H0 w H0 [.box b1 186 [(.pointer none),v3]] from fun S=>by rw [hv4]; exact S) S
 replace S:=St.addNilV hv4 S 5 1
 replace S:=S.front 1 rfl
 replace S:St w0 H0 _ H0 [.box b1 186 [(.pointer none),v3],.row v3 5 1 ([]:List UInt8).length]:=S
 refine B h fun r6 hr6 h=>W.callS rfl (zAZ p_value ([]:List UInt8) S R5 (Or.inl rfl) hr6) ?_
 rintro v7 w8 H9 L11 hle10 S ⟨u12,u14,rfl,rfl,hv13,R15⟩
 replace S:St w0 H0 _ H9 [.box b1 186 [u12,u14],.row u14 5 1 r6.2.2.length]:=S
 replace S:=S.front 1 rfl
 replace S:St w0 H0 _ H9 [.row u14 5 1 r6.2.2.length,.box b1 186 [u12,u14]]:=S
 have Rp_l:=Sl.mono Rp_l hle10
 refine We<|Ws<|Ws<|Wg<|M<|Nq Rp_l<|M<|We<|B h fun m31 hr38 h=>WP.cut (fun f w=>∃ (H27:Hp) (v29:Value) (v32:Value),f 5=(ptr b1 0)∧(v29=Value.pointer none∨v29=ptr b1 0)∧Sl (α:=UInt8) H27 v32 m31∧St w0 H0 w H27 [.row v32 5 1 m31.length,.box b1 186 [v29,v32]]) ?_ ?_
 ·refine Wb ?_
  refine WP.loopM (zCm p_l) (fun s f w=>match s with | (y_20,m24)=>∃ (H16:Hp) (v22:Value) (v25:Value),f 5=(ptr b1 0)∧f 10=vp_l∧f 11=(int (p_l.length:Int))∧f 12=(int y_20)∧Sl (α:=GParam) H16 vp_l p_l∧(v22=Value.pointer none∨v22=ptr b1 0)∧Sl (α:=UInt8) H16 v25 m24∧St w0 H0 w H16 [.row v25 5 1 m24.length,.box b1 186 [v22,v25]]) (0,r6.2.2) m31 hr38 ?_ ?_
  ·exact ⟨H9,u12,u14,rfl,rfl,rfl,rfl,Rp_l,hv13,R15,S⟩
  intro s f w hI y34 hy35 hy36
  obtain ⟨y_20,m24⟩:=s
  obtain ⟨H16,v22,v25,h17,h18,h19,h21,Rp_l,hv23,R26,S⟩:=hI
  refine Ws<|Wg<|La' h21 h19<|We<|Ws ?_
  rcases condE hy35 with ⟨hc39,hy35⟩ | ⟨hc39,hy35⟩
  ·refine CT hc39<|Wk<|Ws<|Wb<|Ws<|Wg<|B hy35 fun x40 hx40 hy35=>W.idx (α:=GParam) Rp_l h18 h21 el156 hx40 ?_
   rintro a41 _ hA42 rfl
   refine WL.w (R.loadHN (vs:=[(str x40.fName),(str x40.fValue)]) S rfl hA42 zGn rfl rfl) ?_
   refine W.alloc [(str []),(str [])] S zJr ?_
   intro b43 w44 S
   refine W.store (i:=0) [(str x40.fName),(str x40.fValue)] S rfl rfl rfl zGn rfl rfl (Nat.le_of_ble_eq_true rfl) rfl ?_
   intro w45 S
   refine We<|Ws<|Wg<|Fb ?_
   refine Lo 0 S<|B hy35 fun s46 hs46 hy35=>Je hs46<|B hy35 fun s47 hs47 hy35=>Je hs47 ?_
   replace S:=S.front 1 rfl
   replace S:=S.front 2 rfl
   replace S:St w0 H0 _ H16 [.box b1 186 [v22,v25],.row v25 5 1 m24.length,.box b43 161 [(str x40.fName),(str x40.fValue)]]:=S
   refine B hy35 fun r48 hr48 hy35=>W.callS (mapC h17 (mapC rfl mapN)) (zAZ s47 m24 S R26 hv23 hr48) ?_
   rintro v49 w50 H51 L53 hle52 S ⟨u54,u56,rfl,rfl,hv55,R57⟩
   replace S:St w0 H0 _ H51 [.box b1 186 [u54,u56],.row u56 5 1 r48.2.2.length,.box b43 161 [(str x40.fName),(str x40.fValue)]]:=S
   replace S:=S.front 1 rfl
   replace S:=S.front 2 rfl
   replace S:St w0 H0 _ H51 [.box b43 161 [(str x40.fName),(str x40.fValue)],.row u56 5 1 r48.2.2.length,.box b1 186 [u54,u56]]:=S
   have Rp_l:=Sl.mono Rp_l hle52
   refine We<|Ws<|Wg<|Fb ?_
   refine Lo 0 S<|B hy35 fun r58 hr58 hy35=>W.call S rfl (zAv S.holds x40.fValue hr58) ?_
   rintro v59 w60 H61 hle62 S rfl
   have Rp_l:=Sl.mono Rp_l hle62
   have R57:=Sl.mono R57 hle62
   refine We ?_
   rcases condE hy35 with ⟨hc63,hy35⟩ | ⟨hc63,hy35⟩
   ·refine CT hc63<|Wg<|Fb ?_
    refine Lo 0 S ?_
    replace S:=S.front 1 rfl
    replace S:=S.front 2 rfl
    replace S:St w0 H0 _ H61 [.box b1 186 [u54,u56],.row u56 5 1 r48.2.2.length,.box b43 161 [(str x40.fName),(str x40.fValue)]]:=S
    refine B hy35 fun r64 hr64 hy35=>W.callS (mapC h17 (mapC rfl mapN)) (zAZ x40.fValue r48.2.2 S R57 hv55 hr64) ?_
    rintro v65 w66 H67 L69 hle68 S ⟨u70,u72,rfl,rfl,hv71,R73⟩
    replace S:St w0 H0 _ H67 [.box b1 186 [u70,u72],.row u72 5 1 r64.2.2.length,.box b43 161 [(str x40.fName),(str x40.fValue)]]:=S
    replace S:=S.front 1 rfl
    replace S:=S.front 2 rfl
    replace S:St w0 H0 _ H67 [.box b43 161 [(str x40.fName),(str x40.fValue)],.row u72 5 1 r64.2.2.length,.box b1 186 [u70,u72]]:=S
    have Rp_l:=Sl.mono Rp_l hle68
    refine We<|Wg<|Lg' h21 rfl<|M<|We ?_
    obtain rfl:=oi hy35
    exact ⟨rfl,⟨H67,u70,u72,h17,h18,h19,rfl,Rp_l,hv71,R73,(S.drop _ (.cons _ (.cons_cons _ (.cons_cons _ .slnil))))⟩⟩
   refine CF hc63<|Wg<|Fb ?_
   refine Lo 0 S<|B hy35 fun r74 hr74 hy35=>W.call S rfl (zJd S.holds x40.fValue hr74) ?_
   rintro v75 w76 H77 hle78 S rfl
   have Rp_l:=Sl.mono Rp_l hle78
   have R57:=Sl.mono R57 hle78
   replace S:=S.front 1 rfl
   replace S:=S.front 2 rfl
   replace S:St w0 H0 _ H77 [.box b1 186 [u54,u56],.row u56 5 1 r48.2.2.length,.box b43 161 [(str x40.fName),(str x40.fValue)]]:=S
   refine B hy35 fun r79 hr79 hy35=>W.callS (mapC h17 (mapC rfl mapN)) (zAZ r74 r48.2.2 S R57 hv55 hr79) ?_
   rintro v80 w81 H82 L84 hle83 S ⟨u85,u87,rfl,rfl,hv86,R88⟩
   replace S:St w0 H0 _ H82 [.box b1 186 [u85,u87],.row u87 5 1 r79.2.2.length,.box b43 161 [(str x40.fName),(str x40.fValue)]]:=S
   replace S:=S.front 1 rfl
   replace S:=S.front 2 rfl
   replace S:St w0 H0 _ H82 [.box b43 161 [(str x40.fName),(str x40.fValue)],.row u87 5 1 r79.2.2.length,.box b1 186 [u85,u87]]:=S
   have Rp_l:=Sl.mono Rp_l hle83
   refine We<|Wg<|Lg' h21 rfl<|M<|We ?_
   obtain rfl:=oi hy35
   exact ⟨rfl,⟨H82,u85,u87,h17,h18,h19,rfl,Rp_l,hv86,R88,(S.drop _ (.cons _ (.cons_cons _ (.cons_cons _ .slnil))))⟩⟩
  refine CF hc39<|Wx ?_
  obtain rfl:=oi hy35
  obtain rfl:=hy36
  exact ⟨H16,v22,v25,h17,hv23,R26,S⟩
 rintro f w ⟨H27,v29,v32,h28,hv30,R33,S⟩
 refine Ws<|Wg ?_
 replace S:=S.front 1 rfl
 replace S:St w0 H0 _ H27 [.box b1 186 [v29,v32],.row v32 5 1 m31.length]:=S
 refine B h fun r89 hr89 h=>W.callS (mapC h28 mapN) (zDV m31 S R33 hv30 hr89) ?_
 rintro v90 w91 H92 L94 hle93 S ⟨rfl,rfl⟩
 replace S:St w0 H0 _ H92 [.box b1 186 [v29,v32]]:=S
 refine A<|We ?_
 obtain rfl:=oi h
 refine WP.ret (Out.one rfl S rfl ?_)
 exact rfl
theorem zHa {w0:World} {H0:Hp} (hw:Holds w0 H0) (p_t:GMediaType) {vp_t2:Value} (Rp_t2:Sl (α:=GParam) H0 vp_t2 p_t.fParams) {r:Str} (h:zDR p_t=some r) :
  Con Tryz.prog 245 [(agg [(str p_t.fType),(str p_t.fSub),vp_t2])] w0 H0 (fun H' v=>v=(str r)):=by
 refine Con.mk (N:=12) Tryz.func245 rfl rfl kr rfl ?_
 have S:=St.start hw
 refine Ws<|Wg ?_
 refine W.box [(str p_t.fType),(str p_t.fSub),vp_t2] S rfl rfl ?_
 intro b1 w2 S
 refine A<|We<|Ws<|Wg<|Fb ?_
 refine Lo 0 S<|B h fun s3 hs3 h=>Je hs3<|Fb ?_
 refine Lo 0 S<|B h fun s4 hs4 h=>Je hs4<|Fb ?_
 refine Lo 0 S<|B h fun r5 hr5 h=>W.call S rfl (zI4 S.holds s4 p_t.fParams Rp_t2 hr5) ?_
 rintro v6 w7 H8 hle9 S rfl
 refine A<|We ?_
 obtain rfl:=oi h
 refine WP.ret (Out.one rfl S rfl ?_)
 exact rfl
theorem zHy {w0:World} {H0:Hp} (hw:Holds w0 H0) (c_x0:Str) (c_x1:(List GParam)) {vc_x10:Value} {ac_x0:Addr} {ac_x1:Addr} (Ac_x0:At H0 ac_x0 [(str c_x0)]) (Ac_x1:At H0 ac_x1 [vc_x10]) (Rc_x10:Sl (α:=GParam) H0 vc_x10 c_x1) {r:(Str×Bool)} (h:zFP c_x0 c_x1=some r) :
  Con Tryz.prog 243 [(.pointer (some ac_x0)),(.pointer (some ac_x1))] w0 H0 (fun H' v=>v=(.tuple ⟨[(str r.1),(boo r.2)]⟩)):=by
 refine Con.mk (N:=16) Tryz.func243 rfl rfl kr rfl ?_
 have S:=St.start hw
 refine Ws<|Wg<|A<|A<|We<|Ws<|Wg ?_
 refine Lq S Ac_x0<|B h fun r1 hr1 h=>W.call S rfl (zB9 S.holds c_x0 hr1) ?_
 rintro v2 w3 H4 hle5 S ⟨u6,rfl,R7⟩
 have Ac_x1:=At.mono Ac_x1 hle5 (by simp)
 have Rc_x10:=Sl.mono Rc_x10 hle5
 refine M ?_
 refine Ex ?_
 refine Ex ?_
 refine W.alloc [(str []),(str []),(.slice none 0 0)] S zC7 ?_
 intro b8 w9 S
 refine W.store (i:=0) [(str r1.1.fType),(str r1.1.fSub),u6] S rfl rfl rfl zAw rfl (AllOne.all (l:=[(str r1.1.fType),(str r1.1.fSub),u6]) (.cons rfl (.cons rfl (.cons (Sl.oneC R7) .nil)))) (Nat.le_of_ble_eq_true rfl) rfl ?_
 intro w10 S
 refine A<|We<|Ws<|Wg ?_
 refine Lq S Ac_x1<|Fb ?_
 refine W.storeSl (α:=GParam) (i:=0) [(str r1.1.fType),(str r1.1.fSub),vc_x10] S Rc_x10 rfl rfl rfl zGh (Nat.le_of_ble_eq_true rfl) rfl ?_
 intro w11 S
 refine We<|Ws<|Wg ?_
 refine WL.w (R.loadBN (i:=0) (vs:=[(str r1.1.fType),(str r1.1.fSub),vc_x10]) S rfl rfl zAw rfl rfl)<|B h fun r12 hr12 h=>W.call S rfl (zHa S.holds (⟨r1.1.fType,r1.1.fSub,c_x1⟩:GMediaType) Rc_x10 hr12) ?_
 rintro v13 w14 H15 hle16 S rfl
 refine M<|A<|A<|We ?_
 obtain rfl:=oi h
 refine WP.ret (Out.two rfl S rfl rfl ?_)
 exact rfl
theorem zF0 {w0:World} {H0:Hp} (hw:Holds w0 H0) (p_s:Str) {r:Bool} (h:zDD p_s=some r) :
  Con Tryz.prog 248 [(str p_s)] w0 H0 (fun H' v=>v=(boo r)):=by
 refine Con.mk (N:=9) Tryz.func248 rfl rfl kr rfl ?_
 have S:=St.start hw
 refine Ws<|Wg<|A<|We<|Ws<|Wg<|M<|Na<|M<|B h fun b8 hg2 h=>WL.grpw 3 [6,7] 8 (boo b8) (fun w=>∃ H':Hp,H0.le H'∧St w0 H0 w H' []) ?_ ?_
 ·rcases boolE (p_s==[42]) with hb1 | hb1
  ·replace hg2:=condT hg2 hb1
   refine Gn hb1<|Gn hb1<|Pt hb1 ?_
   exact We ⟨(congrArg boo (oi hg2)),ag,⟨H0,(Hp.le.refl _),S⟩⟩
  replace hg2:=condF hg2 hb1
  refine Gy hb1<|M<|Gy hb1<|B hg2 fun r3 hr3 hg2=>W.call S rfl (zFH S.holds p_s hr3) ?_
  rintro v4 w5 H6 hle7 S rfl
  refine Pf hb1 ?_
  exact We ⟨(congrArg boo (oi hg2)),ag,⟨H6,hle7,S⟩⟩
 intro us w10 ⟨H9,hle11,S⟩
 refine A<|We ?_
 obtain rfl:=oi h
 refine WP.ret (Out.one rfl S rfl ?_)
 exact rfl
theorem zH0 {w0:World} {H0:Hp} (hw:Holds w0 H0) (c_x0:Int) (c_x1:Str) (c_x2:(List GParam)) {vc_x20:Value} {ac_x0:Addr} {ac_x1:Addr} {ac_x2:Addr} (Ac_x0:At H0 ac_x0 [(int c_x0)]) (Ac_x1:At H0 ac_x1 [(str c_x1)]) (Ac_x2:At H0 ac_x2 [vc_x20]) (Rc_x20:Sl (α:=GParam) H0 vc_x20 c_x2) {r:(Str×Bool)} (h:zFJ c_x0 c_x1 c_x2=some r) :
  Con Tryz.prog 246 [(.pointer (some ac_x0)),(.pointer (some ac_x1)),(.pointer (some ac_x2))] w0 H0 (fun H' v=>v=(.tuple ⟨[(str r.1),(boo r.2)]⟩)):=by
 refine Con.mk (N:=15) Tryz.func246 rfl rfl kr rfl ?_
 have S:=St.start hw
 refine Ws<|Wg<|A<|A<|We<|Ws<|WP.quiet S kr kr ?_
 refine WQ.val (fun w hw=>by obtain ⟨_,hq,S⟩:=hw; exact (R.loadH (v:=int c_x0) S rfl (At.mono Ac_x0 hq (by simp)) lay3 rfl)) ?_
 refine WQ.val (fun w hw=>by obtain ⟨_,hq,S⟩:=hw; exact (R.loadH (v:=str c_x1) S rfl (At.mono Ac_x1 hq (by simp)) lay9 rfl))<|B h fun r4 hr4 h=>WQ.call (v:=str r4) rfl (fun w H' hq S=>zBe S.holds c_x0 c_x1 hr4) ?_
 refine WQ.val (fun w hw=>by obtain ⟨_,hq,S⟩:=hw; exact (R.loadH (v:=str c_x1) S rfl (At.mono Ac_x1 hq (by simp)) lay9 rfl))<|B h fun r9 hr9 h=>WQ.call (v:=boo r9) rfl (fun w H' hq S=>zF0 S.holds c_x1 hr9)<|QM ?_
 refine WQ.grp 4 [11,12,13] 14 (boo (r9&&((c_x2.length:Int)==0))) ?_ ?_
 ·rcases boolE r9 with hb14 | hb14
  ·refine QGy hb14 ?_
   refine WQ.val (fun w hw=>by obtain ⟨_,hq,S⟩:=hw; exact (R.loadH (v:=vc_x20) S rfl (At.mono Ac_x2 hq (by simp)) zGh rfl))<|QGy hb14<|QNq Rc_x20<|QGy hb14<|QLe<|QPt hb14 ?_
   exact WQ.nil ⟨(andT hb14),ag⟩
  refine QGn hb14<|QGn hb14<|QGn hb14<|QPf hb14 ?_
  exact WQ.nil ⟨(andF hb14),ag⟩
 intro us
 refine QA<|QA<|WQ.nil ?_
 intro w1 H2 hle3 S
 obtain rfl:=oi h
 refine WP.ret (Out.two rfl S rfl rfl ?_)
 exact rfl
theorem zIk {w0:World} {H0:Hp} (hw:Holds w0 H0) (p_kind:Int) (p_value:Str) (p_params:(List GParam)) {vp_params:Value} (Rp_params:Sl (α:=GParam) H0 vp_params p_params) {r:(Str×Bool)} (h:zEp p_kind p_value p_params=some r) :
  Con Tryz.prog 219 [(int p_kind),(str p_value),vp_params] w0 H0 (fun H' v=>v=(.tuple ⟨[(str r.1),(boo r.2)]⟩)):=by
 refine Con.mk (N:=36) Tryz.func219 rfl rfl kr rfl ?_
 have S:=St.start hw
 refine Ws<|Wg ?_
 refine W.box [(int p_kind)] S rfl rfl ?_
 intro b1 w2 S
 refine W.box [(str p_value)] S rfl rfl ?_
 intro b3 w4 S
 refine W.box [vp_params] S rfl (congrArg Array.toList (Sl.cellsOne Rp_params)) ?_
 intro b5 w6 S
 refine A<|A<|We<|Ws<|Wg<|W.makeMap S ?_
 intro b7 w8 S
 replace S:St w0 H0 _ H0 [.mp b7 (enci []),.box b5 156 [vp_params],.box b3 9 [(str p_value)],.box b1 3 [(int p_kind)]]:=S
 obtain ⟨H9,hle10,hs11,_,S⟩:=S.settle (i:=2) rfl
 replace S:St w0 H0 _ H9 [.mp b7 (enci []),.box b5 156 [vp_params],.box b1 3 [(int p_kind)]]:=S
 have hA12:At H9 ⟨b3,0,none⟩ [(str p_value)]:=⟨_,_,rfl,hs11,[],by simp⟩
 have Rp_params:=Sl.mono Rp_params hle10
 obtain ⟨H13,hle14,hs15,_,S⟩:=S.settle (i:=1) rfl
 replace S:St w0 H0 _ H13 [.mp b7 (enci []),.box b1 3 [(int p_kind)]]:=S
 have hA16:At H13 ⟨b5,0,none⟩ [vp_params]:=⟨_,_,rfl,hs15,[],by simp⟩
 have Rp_params:=Sl.mono Rp_params hle14
 have hA12:=At.mono hA12 hle14 (by simp)
 refine WL.w (R.mkFunc (vs:=[(.pointer (some ⟨b3,0,none⟩)),(.pointer (some ⟨b5,0,none⟩))]) rfl)<|W.insertI (i:=0) (m:=[]) (k:=1) (v:=.func (.func 243) #[] [(.pointer (some ⟨b3,0,none⟩)),(.pointer (some ⟨b5,0,none⟩))].toArray) S rfl rfl rfl rfl Tryz.underlying238 Tryz.underlying3 rfl ?_
 intro w17 S
 replace S:St w0 H0 _ H13 [.mp b7 (enci [(1,(.func (.func 243) #[] [(.pointer (some ⟨b3,0,none⟩)),(.pointer (some ⟨b5,0,none⟩))].toArray))]),.box b1 3 [(int p_kind)]]:=S
 obtain ⟨H18,hle19,hs20,_,S⟩:=S.settle (i:=1) rfl
 replace S:St w0 H0 _ H18 [.mp b7 (enci [(1,(.func (.func 243) #[] [(.pointer (some ⟨b3,0,none⟩)),(.pointer (some ⟨b5,0,none⟩))].toArray))])]:=S
 have hA21:At H18 ⟨b1,0,none⟩ [(int p_kind)]:=⟨_,_,rfl,hs20,[],by simp⟩
 have Rp_params:=Sl.mono Rp_params hle19
 have hA12:=At.mono hA12 hle19 (by simp)
 have hA16:=At.mono hA16 hle19 (by simp)
 refine WL.w (R.mkFunc (vs:=[(.pointer (some ⟨b1,0,none⟩)),(.pointer (some ⟨b3,0,none⟩)),(.pointer (some ⟨b5,0,none⟩))]) rfl)<|W.insertI (i:=0) (m:=[(1,(.func (.func 243) #[] [(.pointer (some ⟨b3,0,none⟩)),(.pointer (some ⟨b5,0,none⟩))].toArray))]) (k:=2) (v:=.func (.func 246) #[] [(.pointer (some ⟨b1,0,none⟩)),(.pointer (some ⟨b3,0,none⟩)),(.pointer (some ⟨b5,0,none⟩))].toArray) S rfl rfl rfl rfl Tryz.underlying238 Tryz.underlying3 rfl ?_
 intro w22 S
 replace S:St w0 H0 _ H18 [.mp b7 (enci [(1,(.func (.func 243) #[] [(.pointer (some ⟨b3,0,none⟩)),(.pointer (some ⟨b5,0,none⟩))].toArray)),(2,(.func (.func 246) #[] [(.pointer (some ⟨b1,0,none⟩)),(.pointer (some ⟨b3,0,none⟩)),(.pointer (some ⟨b5,0,none⟩))].toArray))])]:=S
 refine M<|A<|We<|Ws<|Ws<|Wg<|M ?_
 refine Lq S hA21 ?_
 rcases condE h with ⟨hc23,h⟩ | ⟨hc23,h⟩
 ·refine WL.w (v:=.tuple ⟨[(.func (.func 243) #[] [(.pointer (some ⟨b3,0,none⟩)),(.pointer (some ⟨b5,0,none⟩))].toArray),(boo true)]⟩) (R.lookupI (i:=0) (k:=p_kind) S rfl rfl rfl Tryz.underlying238 Tryz.underlying3 (zKl hc23))<|M ?_
  refine Ex ?_
  refine Ex<|A<|A<|We<|Ws<|Wg<|M<|We<|WP.condT (b:=true) rfl rfl ?_
  refine Ws<|Wg<|M<|B h fun r24 hr24 h=>W.callv S rfl rfl (zHy S.holds p_value p_params hA12 hA16 Rp_params hr24) ?_
  rintro v25 w26 H27 hle28 S rfl
  have Rp_params:=Sl.mono Rp_params hle28
  have hA21:=At.mono hA21 hle28 (by simp)
  have hA12:=At.mono hA12 hle28 (by simp)
  have hA16:=At.mono hA16 hle28 (by simp)
  refine Ex ?_
  refine Ex<|A<|A<|We ?_
  obtain rfl:=oi h
  refine WP.ret (Out.two rfl S rfl rfl ?_)
  exact rfl
 rcases condE h with ⟨hc29,h⟩ | ⟨hc29,h⟩
 ·refine WL.w (v:=.tuple ⟨[(.func (.func 246) #[] [(.pointer (some ⟨b1,0,none⟩)),(.pointer (some ⟨b3,0,none⟩)),(.pointer (some ⟨b5,0,none⟩))].toArray),(boo true)]⟩) (R.lookupI (i:=0) (k:=p_kind) S rfl rfl rfl Tryz.underlying238 Tryz.underlying3 (zIH hc23 (zKl hc29)))<|M ?_
  refine Ex ?_
  refine Ex<|A<|A<|We<|Ws<|Wg<|M<|We<|WP.condT (b:=true) rfl rfl ?_
  refine Ws<|Wg<|M<|B h fun r30 hr30 h=>W.callv S rfl rfl (zH0 S.holds p_kind p_value p_params hA21 hA12 hA16 Rp_params hr30) ?_
  rintro v31 w32 H33 hle34 S rfl
  have Rp_params:=Sl.mono Rp_params hle34
  have hA21:=At.mono hA21 hle34 (by simp)
  have hA12:=At.mono hA12 hle34 (by simp)
  have hA16:=At.mono hA16 hle34 (by simp)
  refine Ex ?_
  refine Ex<|A<|A<|We ?_
  obtain rfl:=oi h
  refine WP.ret (Out.two rfl S rfl rfl ?_)
  exact rfl
 refine WL.w (v:=.tuple ⟨[.nilFunc,(boo false)]⟩) (R.lookupIN (i:=0) (k:=p_kind) S rfl rfl rfl Tryz.underlying238 Tryz.underlying3 mz237 (zIH hc23 (zIH hc29 zNP)))<|M ?_
 refine Ex ?_
 refine Ex<|A<|A<|We<|Ws<|Wg<|M<|We<|WP.condF (b:=false) rfl rfl ?_
 refine Wk<|Ws<|WP.quiet S kr kr ?_
 refine WQ.val (fun w hw=>by obtain ⟨_,hq,S⟩:=hw; exact (R.loadH (v:=int p_kind) S rfl (At.mono hA21 hq (by simp)) lay3 rfl)) ?_
 refine WQ.val (fun w hw=>by obtain ⟨_,hq,S⟩:=hw; exact (R.loadH (v:=str p_value) S rfl (At.mono hA12 hq (by simp)) lay9 rfl))<|B h fun r38 hr38 h=>WQ.call (v:=str r38) rfl (fun w H' hq S=>zBe S.holds p_kind p_value hr38) ?_
 refine WQ.val (fun w hw=>by obtain ⟨_,hq,S⟩:=hw; exact (R.loadH (v:=str p_value) S rfl (At.mono hA12 hq (by simp)) lay9 rfl))<|B h fun r43 hr43 h=>WQ.call (v:=boo r43) rfl (fun w H' hq S=>zAv S.holds p_value hr43)<|QM ?_
 refine WQ.grp 4 [32,33,34] 35 (boo (r43&&((p_params.length:Int)==0))) ?_ ?_
 ·rcases boolE r43 with hb48 | hb48
  ·refine QGy hb48 ?_
   refine WQ.val (fun w hw=>by obtain ⟨_,hq,S⟩:=hw; exact (R.loadH (v:=vp_params) S rfl (At.mono hA16 hq (by simp)) zGh rfl))<|QGy hb48<|QNq Rp_params<|QGy hb48<|QLe<|QPt hb48 ?_
   exact WQ.nil ⟨(andT hb48),ag⟩
  refine QGn hb48<|QGn hb48<|QGn hb48<|QPf hb48 ?_
  exact WQ.nil ⟨(andF hb48),ag⟩
 intro us
 refine QA<|QA<|WQ.nil ?_
 intro w35 H36 hle37 S
 obtain rfl:=oi h
 refine WP.ret (Out.two rfl S rfl rfl ?_)
 exact rfl
theorem zJf {w0:World} {H0:Hp} (hw:Holds w0 H0) (p_kind:Int) (p_member:Str) {r:(GPref×Bool)} (h:zGC p_kind p_member=some r) :
  Con Tryz.prog 182 [(int p_kind),(str p_member)] w0 H0 (fun H' v=>v=(.tuple ⟨[(agg [(str r.1.fRange),(int r.1.fQ)]),(boo r.2)]⟩)):=by
 refine Con.mk (N:=51) Tryz.func182 rfl rfl kr rfl ?_
 have S:=St.start hw
 refine Ws<|Wg ?_
 refine W.alloc [(str []),(int 0)] S zGc ?_
 intro b1 w2 S
 refine A<|We<|Ws<|Wg<|M<|B h fun r3 hr3 h=>W.call S rfl (zHO S.holds p_member hr3) ?_
 rintro v4 w5 H6 hle7 S ⟨u8,rfl,R9⟩
 refine M ?_
 refine Ex ?_
 refine Ex ?_
 refine Ex<|A<|A<|A<|We<|Ws<|Ws<|Wg<|M ?_
 refine No<|We ?_
 rcases condE h with ⟨hc10,h⟩ | ⟨hc10,h⟩
 ·refine CT hc10<|Ws<|Wg ?_
  refine WL.w (R.build [] [(str []),(int 0)] bp147 zGc rfl rfl) ?_
  refine W.store (i:=0) [(str []),(int 0)] S rfl rfl rfl zDM rfl rfl (Nat.le_of_ble_eq_true rfl) rfl ?_
  intro w11 S
  refine A<|We ?_
  obtain rfl:=oi h
  refine WP.ret (Out.two rfl S (Res.cellB (i:=0) (cs:=[(str []),(int 0)]) S rfl rfl zDM rfl rfl) rfl ?_)
  exact rfl
 refine CF hc10<|Wk<|Ws<|Wg<|A<|We<|Ws<|Ws<|Wg<|M<|B h fun r12 hr12 h=>W.call S rfl (zBE S.holds r3.2.1 zCA R9 (fun hle hw x0 r h=>zIi hw x0 h) hr12) ?_
 rintro v13 w14 H15 hle16 S rfl
 have R9:=Sl.mono R9 hle16
 refine A<|We<|Ws<|Wg<|M<|Ld<|We<|B h fun j28 hj27 h=>WP.cut (fun f w=>match j28 with | .inl (params_21,q_25)=>∃ (H17:Hp) (v22:Value),f 0=(int p_kind)∧f 4=(ptr b1 0)∧f 6=(str r3.1)∧f 7=v22∧f 9=(int q_25)∧Sl (α:=GParam) H17 v22 params_21∧St w0 H0 w H17 [.box b1 147 [(str []),(int 0)]] | .inr _=>False) ?_ ?_
 ·rcases condE hj27 with ⟨hc29,hj27⟩ | ⟨hc29,hj27⟩
  ·refine CT hc29<|Ws<|Ws<|Wg<|M<|M<|B hj27 fun x30 hx30 hj27=>W.idx (α:=GParam) R9 rfl rfl el156 hx30 ?_
   rintro a31 _ hA32 rfl
   refine Fc ?_
   have hA33:=At.add hA32 1 (by simp)
   refine Lq S hA33<|B hj27 fun r34 hr34 hj27=>W.call S rfl (zI9 S.holds x30.fValue hr34) ?_
   rintro v35 w36 H37 hle38 S rfl
   have R9:=Sl.mono R9 hle38
   refine M ?_
   refine Ex ?_
   refine Ex<|A<|A<|We<|Ws<|Wg<|M<|No<|We ?_
   rcases condE hj27 with ⟨hc39,hj27⟩ | ⟨hc39,hj27⟩
   ·refine CT hc39<|Ws<|Wg ?_
    refine WL.w (R.build [] [(str []),(int 0)] bp147 zGc rfl rfl) ?_
    refine W.store (i:=0) [(str []),(int 0)] S rfl rfl rfl zDM rfl rfl (Nat.le_of_ble_eq_true rfl) rfl ?_
    intro w40 S
    refine A<|We ?_
    obtain rfl:=oi hj27
    obtain rfl:=oi h
    refine WP.ret (Out.two rfl S (Res.cellB (i:=0) (cs:=[(str []),(int 0)]) S rfl rfl zDM rfl rfl) rfl ?_)
    exact rfl
   refine CF hc39<|Wk<|Wg<|M<|M<|B hj27 fun l41 hl41 hj27=>W.subHi (α:=GParam) R9 rfl rfl el156 hl41 ?_
   intro v42 R43
   refine A<|We ?_
   obtain rfl:=oi hj27
   exact ⟨H37,v42,rfl,rfl,rfl,rfl,rfl,R43,S⟩
  refine CF hc29<|Wk ?_
  obtain rfl:=oi hj27
  exact ⟨H15,u8,rfl,rfl,rfl,rfl,rfl,R9,S⟩
 intro f w hM
 rcases j28 with ⟨params_21,q_25⟩ | e
 ·obtain ⟨H17,v22,h18,h19,h20,h24,h26,R23,S⟩:=hM
  refine Ws<|Wg<|M' h18<|M' h20<|M' h24<|B h fun r44 hr44 h=>W.call S rfl (zIk S.holds p_kind r3.1 params_21 R23 hr44) ?_
  rintro v45 w46 H47 hle48 S rfl
  refine M ?_
  refine Ex ?_
  refine Ex<|A<|A<|We<|Ws<|Wg<|M<|M' h26 ?_
  refine WL.w (R.build [(0,(str r44.1)),(1,(int q_25))] [(str r44.1),(int q_25)] bp147 zGc rfl rfl)<|M ?_
  refine W.store (i:=0) [(str r44.1),(int q_25)] S h19 rfl rfl zDM rfl rfl (Nat.le_of_ble_eq_true rfl) rfl ?_
  intro w49 S
  refine A<|We ?_
  obtain rfl:=oi h
  refine WP.ret (Out.two rfl S (Res.cellB (i:=0) (cs:=[(str r44.1),(int q_25)]) S h19 rfl zDM rfl rfl) rfl ?_)
  exact rfl
 exact hM.elim
theorem zJL {w0:World} {H0:Hp} (hw:Holds w0 H0) (p_kind:Int) (p_l:(List GField)) {vp_l:Value} (Rp_l:Sl (α:=GField) H0 vp_l p_l) {r:((List GPref)×Bool)} (h:zER p_kind p_l=some r) :
  Con Tryz.prog 142 [(int p_kind),vp_l] w0 H0 (fun H' v=>∃ u1:Value,v=(.tuple ⟨[u1,(boo r.2)]⟩)∧Sl (α:=GPref) H' u1 r.1):=by
 refine Con.mk (N:=43) Tryz.func142 rfl rfl kr rfl ?_
 have S:=St.start hw
 refine Ws<|Wg<|A<|A<|We<|Ws<|Wg<|M<|B h fun r1 hr1 h=>W.call S rfl (zDC S.holds p_kind hr1) ?_
 rintro v2 w3 H4 hle5 S rfl
 have Rp_l:=Sl.mono Rp_l hle5
 refine A<|We<|Ws<|Ws<|Wg<|M<|Na<|M<|B h fun b13 hg7 h=>WL.grpw 5 [17,18,19,20] 21 (boo b13) (fun w=>∃ H':Hp,H4.le H'∧St w0 H0 w H' []) ?_ ?_
 ·rcases boolE (r1==[]) with hb6 | hb6
  ·replace hg7:=condT hg7 hb6
   refine Gn hb6<|Gn hb6<|Gn hb6<|Gn hb6<|Pt hb6 ?_
   exact We ⟨(congrArg boo (oi hg7)),ag,⟨H4,(Hp.le.refl _),S⟩⟩
  replace hg7:=condF hg7 hb6
  refine Gy hb6<|M<|Gy hb6<|M<|Gy hb6<|B hg7 fun r8 hr8 hg7=>W.call S rfl (zGY S.holds p_l r1 Rp_l hr8) ?_
  rintro v9 w10 H11 hle12 S rfl
  have Rp_l:=Sl.mono Rp_l hle12
  refine Gy hb6<|No<|Pf hb6 ?_
  exact We ⟨(congrArg boo (oi hg7)),ag,⟨H11,hle12,S⟩⟩
 intro us w15 ⟨H14,hle16,S⟩
 have Rp_l:=Sl.mono Rp_l hle16
 refine We ?_
 rcases condE h with ⟨hc17,h⟩ | ⟨hc17,h⟩
 ·refine CT hc17<|Ws<|Wg<|A<|A<|We ?_
  obtain rfl:=oi h
  refine WP.ret (Out.two rfl S rfl rfl ?_)
  exact ⟨_,rfl,Sl.nil⟩
 refine CF hc17<|Wk<|Ws<|Wg<|A<|We<|Ws<|Ws<|Wg<|M<|M<|B h fun r18 hr18 h=>W.call S rfl (zHd S.holds p_l r1 Rp_l hr18) ?_
 rintro v19 w20 H21 hle22 S R23
 refine Nq R23<|M<|We ?_
 have S:=S.addNil 147 2
 refine B h fun out_35 hr43 h=>WP.cut (fun f w=>∃ (H34:Hp) (v36:Value),f 7=v36∧Sl (α:=GPref) H34 v36 out_35∧St w0 H0 w H34 [.row v36 147 2 out_35.length]) ?_ ?_
 ·refine Wb ?_
  refine WP.loopM (zCc p_kind r18) (fun s f w=>match s with | (out_26,y_32)=>∃ (H24:Hp) (v27:Value),f 0=(int p_kind)∧f 7=v27∧f 24=v19∧f 25=(int (r18.length:Int))∧f 26=(int y_32)∧Sl (α:=GPref) H24 v27 out_26∧Sl (α:=Str) H24 v19 r18∧St w0 H0 w H24 [.row v27 147 2 out_26.length]) (([]:List GPref),0) out_35 hr43 ?_ ?_
  ·exact ⟨H21,.slice none 0 0,rfl,rfl,rfl,rfl,rfl,Sl.nil,R23,S⟩
  intro s f w hI y39 hy40 hy41
  obtain ⟨out_26,y_32⟩:=s
  obtain ⟨H24,v27,h25,h29,h30,h31,h33,R28,R23,S⟩:=hI
  refine Ws<|Wg<|La' h33 h31<|We<|Ws ?_
  rcases condE hy40 with ⟨hc44,hy40⟩ | ⟨hc44,hy40⟩
  ·refine CT hc44<|Wk<|Ws<|Wb<|Ws<|Wg<|B hy40 fun x45 hx45 hy40=>W.idx (α:=Str) R23 h30 h33 el34 hx45 ?_
   rintro a46 _ hA47 rfl
   refine Lq S hA47<|A<|We<|Ws<|Wg<|M' h25<|M<|B hy40 fun r48 hr48 hy40=>W.call S rfl (zJf S.holds p_kind x45 hr48) ?_
   rintro v49 w50 H51 hle52 S rfl
   have R28:=Sl.mono R28 hle52
   have R23:=Sl.mono R23 hle52
   refine M ?_
   refine Ex ?_
   refine Ex ?_
   refine W.alloc [(str []),(int 0)] S zGc ?_
   intro b53 w54 S
   refine W.store (i:=0) [(str r48.1.fRange),(int r48.1.fQ)] S rfl rfl rfl zDM rfl rfl (Nat.le_of_ble_eq_true rfl) rfl ?_
   intro w55 S
   refine A<|We<|Ws<|Wg<|M<|We ?_
   rcases condE hy40 with ⟨hc56,hy40⟩ | ⟨hc56,hy40⟩
   ·refine CT hc56<|Wg<|M' h29 ?_
    refine WL.w (R.loadBN (i:=0) (vs:=[(str r48.1.fRange),(int r48.1.fQ)]) S rfl rfl zDM rfl rfl)<|W.bslice (α:=GPref) [(agg [(str r48.1.fRange),(int r48.1.fQ)])] ([r48.1]:List GPref) S el122 rfl rfl rfl (by decide) (Go.Eng.encS ⟨rfl,rfl⟩ enc0) ?_
    intro u57 w58 H59 hle60 R61 S
    have R28:=Sl.mono R28 hle60
    have R23:=Sl.mono R23 hle60
    refine B hy40 fun l62 hl62 hy40=>W.app (α:=GPref) (i:=2) S el122 rfl rfl rfl R28 R61 hl62 ?_
    intro v63 w64 H65 hle66 R67 S
    have R28:=Sl.mono R28 hle66
    have R23:=Sl.mono R23 hle66
    refine A<|We<|Wg<|Lg' h33 rfl<|M<|We ?_
    obtain rfl:=oi hy40
    exact ⟨rfl,⟨H65,v63,h25,rfl,h30,h31,rfl,R67,R23,(S.drop _ (.cons _ (.cons _ (.cons_cons _ .slnil))))⟩⟩
   refine CF hc56<|Wk<|Wg<|Lg' h33 rfl<|M<|We ?_
   obtain rfl:=oi hy40
   exact ⟨rfl,⟨H51,v27,h25,h29,h30,h31,rfl,R28,R23,(S.drop _ (.cons _ (.cons_cons _ .slnil)))⟩⟩
  refine CF hc44<|Wx ?_
  obtain rfl:=oi hy40
  obtain rfl:=hy41
  exact ⟨H24,v27,h29,R28,S⟩
 rintro f w ⟨H34,v36,h38,R37,S⟩
 refine Ws<|Wg<|M' h38<|A<|A<|We ?_
 obtain rfl:=oi h
 refine WP.ret (Out.two rfl S rfl rfl ?_)
 exact ⟨_,rfl,R37⟩
end Go.Proofs
