/- A part. -/
import Derived.Test.YtljjaiijlaeoeaaGreatDoorEng38
import Derived.Test.YtljjaiijlaeoeaaGreatDoorEng36
import Derived.Test.YtljjaiijlaeoeaaGreatDoorGenP20
namespace Go.Proofs
set_option maxHeartbeats 4000000
set_option maxRecDepth 10000
open Go.Eng Go.Eng.Pure
set_option linter.unusedVariables false
theorem zGY {d:World} {f:Hp} (hw:Holds d f) (hG:Tryz.Gl d) (j:Gvariantproxykeep_Step) (en:Bool) {r:Bool} (h:zD5 j en=some r) :
  Cb Tryz.prog 6 [(agg [(int j.fKind),(int j.fN),(str j.fText)]),(boo en)] d f r:=by
 refine CM 68 Tryz.func6 hw fun S=>?_
 refine Ws<|Wg ?_
 refine W.box [(int j.fKind),(int j.fN),(str j.fText)] S rfl rfl ?_
 intro b1 w2 S
 refine A<|We<|Ws<|Ws<|Wg ?_
 refine WL.w (R.loadBN (i:=0) (vs:=[(int j.fKind),(int j.fN),(str j.fText)]) S rfl rfl lay48 rfl rfl)<|W.bslice (α:=Gvariantproxykeep_Step) [(agg [(int j.fKind),(int j.fN),(str j.fText)])] ([j]:List Gvariantproxykeep_Step) S el50 rfl rfl rfl (by decide) (Go.Eng.encS ⟨rfl,rfl⟩ enc0) ?_
 intro u3 w4 H5 hz R7 S
 refine B h fun r8 fk h=>W.call S rfl (zHF S.holds (hG.post S.post) ([j]:List Gvariantproxykeep_Step) R7 fk) ?_
 rintro v9 h2 h3 h4 S rfl
 refine No<|We ?_
 rcases condE h with ⟨dt,h⟩ | ⟨dt,h⟩
 ·refine CT dt<|Ws<|Wg<|A<|We ?_
  exact WP.ret (Rb h S)
 refine CF dt<|Wk<|Ws<|Wg<|A<|We<|Ws<|Ws<|Wg<|M<|We ?_
 rcases condE h with ⟨du,h⟩ | ⟨du,h⟩
 ·refine CT du<|Wg ?_
  refine WL.w (R.build [] [(str []),(int 0),(int 0),(int 0),(boo false),(boo false),(.pointer none),(int 0),(.pointer none)] bp54 zer54 rfl rfl) ?_
  refine W.box [(str []),(int 0),(int 0),(int 0),(boo false),(boo false),(.pointer none),(int 0),(.pointer none)] S rfl rfl ?_
  intro c h5 S
  refine A<|We<|Ws<|Wg<|M ?_
  refine WL.w (R.loadBN (i:=2) (vs:=[(int j.fKind),(int j.fN),(str j.fText)]) S rfl rfl lay48 rfl rfl)<|W.inl (args:=[(ptr c 0),(agg [(int j.fKind),(int j.fN),(str j.fText)])]) rfl (N':=41) Tryz.func22 rfl rfl kr rfl<|Ws<|Wg ?_
  refine W.box [(int j.fKind),(int j.fN),(str j.fText)] S rfl rfl ?_
  intro b0 h6 S
  refine W.alloc [(str []),(str [])] S zer56 ?_
  intro bn h7 S
  refine A<|We<|Ws<|Ws<|Wg ?_
  refine WL.w (R.loadBN (i:=1) (vs:=[(int j.fKind),(int j.fN),(str j.fText)]) S rfl rfl lay48 rfl rfl)<|B h fun h8 fl h=>W.call S rfl (zD8 S.holds (hG.post S.post) j fl) ?_
  rintro h9 ia k ib S rfl
  refine We<|Wb<|Ws<|Wg<|Le<|A<|We ?_
  rcases condE h with ⟨dv,h⟩ | ⟨dv,h⟩
  ·refine CT dv<|Ws<|Wg<|M<|Fb ?_
   refine Lo 1 S<|W.inl (args:=[(ptr c 0),(str j.fText)]) rfl (N':=160) Tryz.func26 rfl rfl kr rfl<|Ws<|Wg ?_
   refine W.alloc [(str []),(str [])] S zer56 ?_
   intro fm ic S
   refine A<|We<|Ws<|Ws<|Wg<|M<|W.inl (args:=[(ptr c 0)]) rfl (N':=12) Tryz.func38 rfl rfl kr rfl<|Ws<|Wg<|A<|We<|Ws ?_
   refine Wg<|M ?_
   refine WL.w (v:=boo true) (R.ofEq (R.neqPN rfl rfl Tryz.underlying34) rfl)<|M<|Gy rfl<|M<|Gy rfl<|Nn<|Gy rfl<|Fb<|Gy rfl ?_
   refine Lo 3 S ?_
   refine Gy rfl ?_
   refine WL.w (v:=boo false) (R.ofEq (R.neqPN rfl rfl Tryz.underlying51) rfl)<|Pt rfl<|A<|We ?_
   refine WP.ret (In.one rfl rfl ?_)
   replace S:St d f _ k [.box fm 56 [(str []),(str [])],.box bn 56 [(str []),(str [])],.box b0 48 [(int j.fKind),(int j.fN),(str j.fText)],.box c 54 [(str []),(int 0),(int 0),(int 0),(boo false),(boo false),(.pointer none),(int 0),(.pointer none)]]:=(S.pk [0,1,2,3])
   refine WL.w (v:=boo true) (R.ofEq (R.not rfl) rfl)<|M<|Gn rfl<|Gn rfl<|Gn rfl<|Gn rfl<|Gn rfl<|Pt rfl<|We<|WP.condT (b:=true) rfl rfl<|Ws<|Wg ?_
   refine WL.w (R.build [] [(str []),(str [])] bp56 zer56 rfl rfl) ?_
   refine W.store (i:=0) [(str []),(str [])] S rfl rfl rfl lay56 rfl rfl (Nat.le_of_ble_eq_true rfl) rfl ?_
   intro id S
   refine A<|We ?_
   refine WP.ret (In.two rfl (Res.cellB (i:=0) (cs:=[(str []),(str [])]) S rfl rfl lay56 rfl rfl) rfl ?_)
   replace S:St d f _ k [.box bn 56 [(str []),(str [])],.box b0 48 [(int j.fKind),(int j.fN),(str j.fText)],.box c 54 [(str []),(int 0),(int 0),(int 0),(boo false),(boo false),(.pointer none),(int 0),(.pointer none)]]:=(S.pk [1,2,3])
   refine Ex ?_
   refine Ex ?_
   refine W.store (i:=0) [(str []),(str [])] S rfl rfl rfl lay56 rfl rfl (Nat.le_of_ble_eq_true rfl) rfl ?_
   intro ie S
   refine A<|We ?_
   refine WP.ret (In.two rfl (Res.cellB (i:=0) (cs:=[(str []),(str [])]) S rfl rfl lay56 rfl rfl) rfl ?_)
   replace S:St d f _ k [.box c 54 [(str []),(int 0),(int 0),(int 0),(boo false),(boo false),(.pointer none),(int 0),(.pointer none)]]:=(S.pk [2])
   refine M ?_
   refine Ex ?_
   refine Ex ?_
   refine W.alloc [(str []),(str [])] S zer56 ?_
   intro cn ig S
   refine W.store (i:=0) [(str []),(str [])] S rfl rfl rfl lay56 rfl rfl (Nat.le_of_ble_eq_true rfl) rfl ?_
   intro ih S
   refine A<|We<|Ws<|Wg<|M<|W.inl (args:=[(ptr c 0),(str [104,116,116,112,58,47,47,104,47,97])]) rfl (N':=18) Tryz.func23 rfl rfl kr rfl<|Ws<|Wg ?_
   refine W.alloc [(.slice none 0 0),(.slice none 0 0)] S zer62 ?_
   intro ii ij S
   refine A<|We<|Ws<|Ws<|Wg<|M<|W.inl (args:=[(ptr c 0)]) rfl (N':=12) Tryz.func38 rfl rfl kr rfl<|Ws<|Wg<|A<|We<|Ws ?_
   refine Wg<|M ?_
   refine WL.w (v:=boo true) (R.ofEq (R.neqPN rfl rfl Tryz.underlying34) rfl)<|M<|Gy rfl<|M<|Gy rfl<|Nn<|Gy rfl<|Fb<|Gy rfl ?_
   refine Lo 2 S ?_
   refine Gy rfl ?_
   refine WL.w (v:=boo false) (R.ofEq (R.neqPN rfl rfl Tryz.underlying51) rfl)<|Pt rfl<|A<|We ?_
   refine WP.ret (In.one rfl rfl ?_)
   refine WL.w (v:=boo true) (R.ofEq (R.not rfl) rfl)<|We<|WP.condT (b:=true) rfl rfl<|Ws<|Wg ?_
   refine WL.w (R.build [] [(.slice none 0 0),(.slice none 0 0)] bp62 zer62 rfl rfl) ?_
   refine W.store (i:=0) [(.slice none 0 0),(.slice none 0 0)] S rfl rfl rfl lay62 rfl (AllOne.all (l:=[(.slice none 0 0),(.slice none 0 0)]) (.cons rfl (.cons rfl .nil))) (Nat.le_of_ble_eq_true rfl) rfl ?_
   intro ik S
   refine A<|We ?_
   refine WP.ret (In.two rfl (Res.cellB (i:=0) (cs:=[(.slice none 0 0),(.slice none 0 0)]) S rfl rfl lay62 rfl rfl) rfl ?_)
   replace S:St d f _ k [.box cn 56 [(str []),(str [])],.box c 54 [(str []),(int 0),(int 0),(int 0),(boo false),(boo false),(.pointer none),(int 0),(.pointer none)]]:=(S.pk [1,2])
   refine M ?_
   refine Ex ?_
   refine Ex ?_
   refine W.alloc [(.slice none 0 0),(.slice none 0 0)] S zer62 ?_
   intro c8 il S
   refine W.store (i:=0) [(.slice none 0 0),(.slice none 0 0)] S rfl rfl rfl lay62 rfl (AllOne.all (l:=[(.slice none 0 0),(.slice none 0 0)]) (.cons rfl (.cons rfl .nil))) (Nat.le_of_ble_eq_true rfl) rfl ?_
   intro im S
   refine A<|We<|Ws<|Wg<|M ?_
   refine WL.w (v:=boo true) (R.ofEq (R.eql rfl rfl) rfl)<|M<|Gy rfl ?_
   refine WL.w (R.loadBN (i:=1) (vs:=[(str []),(str [])]) S rfl rfl lay56 rfl rfl)<|Gy rfl ?_
   refine WL.w (R.build [] [(str []),(str [])] bp56 zer56 rfl rfl)<|Gy rfl ?_
   refine WL.w (R.eqlA ((([]:Str)==[])&&((([]:Str)==[])&&true)) rfl rfl ps56 fk56 rfl rfl rfl)<|Pt rfl<|M ?_
   refine WL.grpw 4 [36,37,38] 39 (boo (((([]:Str)==[])&&((([]:Str)==[])&&true))&&true)) (fun w=>∃ H':Hp,k.le H'∧St d f w H' [.box c8 62 [(.slice none 0 0),(.slice none 0 0)],.box cn 56 [(str []),(str [])],.box c 54 [(str []),(int 0),(int 0),(int 0),(boo false),(boo false),(.pointer none),(int 0),(.pointer none)]]) ?_ ?_
   ·rcases boolE ((([]:Str)==[])&&((([]:Str)==[])&&true)) with ae | ae
    ·refine Gy ae<|M<|Gy ae<|W.inl (args:=[(ptr c 0)]) rfl (N':=12) Tryz.func18 rfl rfl kr rfl<|Ws<|Wg<|A<|We<|Ws<|Wg<|M<|W.inl (args:=[(ptr c 0)]) rfl (N':=12) Tryz.func38 rfl rfl kr rfl ?_
     refine Ws<|Wg<|A<|We<|Ws<|Wg<|M ?_
     refine WL.w (v:=boo true) (R.ofEq (R.neqPN rfl rfl Tryz.underlying34) rfl)<|M<|Gy rfl<|M<|Gy rfl ?_
     refine Nn<|Gy rfl<|Fb<|Gy rfl ?_
     refine Lo 2 S<|Gy rfl ?_
     refine WL.w (v:=boo false) (R.ofEq (R.neqPN rfl rfl Tryz.underlying51) rfl)<|Pt rfl<|A<|We ?_
     refine WP.ret (In.one rfl rfl ?_)
     refine M<|Gn rfl<|Gn rfl<|Gn rfl<|Gn rfl<|Gn rfl<|Pf rfl<|A<|We ?_
     refine WP.ret (In.one rfl rfl ?_)
     refine Gy ae ?_
     refine WL.w (v:=boo true) (R.ofEq (R.not rfl) rfl)<|Pt ae ?_
     exact We ⟨(andT ae),ag,⟨k,lr,S⟩⟩
    refine Gn ae<|Gn ae<|Gn ae<|Pf ae ?_
    exact We ⟨(andF ae),ag,⟨k,lr,S⟩⟩
   intro us io ⟨dw,ip,S⟩
   refine M ?_
   refine WL.grpw 4 [41,42,43] 44 (boo ((((([]:Str)==[])&&((([]:Str)==[])&&true))&&true)&&true)) (fun w=>∃ H':Hp,dw.le H'∧St d f w H' [.box c8 62 [(.slice none 0 0),(.slice none 0 0)],.box cn 56 [(str []),(str [])],.box c 54 [(str []),(int 0),(int 0),(int 0),(boo false),(boo false),(.pointer none),(int 0),(.pointer none)]]) ?_ ?_
   ·rcases boolE (((([]:Str)==[])&&((([]:Str)==[])&&true))&&true) with af | af
    ·refine Gy af<|M<|Gy af<|W.inl (args:=[(ptr c 0)]) rfl (N':=10) Tryz.func16 rfl rfl kr rfl<|Ws<|Wg<|A<|We<|Ws<|Ws<|Wg<|M ?_
     refine W.inl (args:=[(ptr c 0)]) rfl (N':=12) Tryz.func38 rfl rfl kr rfl<|Ws<|Wg<|A<|We<|Ws<|Wg<|M ?_
     refine WL.w (v:=boo true) (R.ofEq (R.neqPN rfl rfl Tryz.underlying34) rfl)<|M<|Gy rfl<|M ?_
     refine Gy rfl<|Nn<|Gy rfl<|Fb<|Gy rfl ?_
     refine Lo 2 S<|Gy rfl ?_
     refine WL.w (v:=boo false) (R.ofEq (R.neqPN rfl rfl Tryz.underlying51) rfl)<|Pt rfl<|A<|We ?_
     refine WP.ret (In.one rfl rfl ?_)
     refine WL.w (v:=boo true) (R.ofEq (R.not rfl) rfl)<|We<|WP.condT (b:=true) rfl rfl<|Ws<|Wg<|A<|We ?_
     refine WP.ret (In.one rfl rfl ?_)
     refine Gy af ?_
     refine WL.w (v:=boo true) (R.ofEq (R.eql rfl rfl) rfl)<|Pt af ?_
     exact We ⟨(andT af),ag,⟨dw,lr,S⟩⟩
    refine Gn af<|Gn af<|Gn af<|Pf af ?_
    exact We ⟨(andF af),ag,⟨dw,lr,S⟩⟩
   intro us iq ⟨dx,ir,S⟩
   refine M ?_
   refine WL.grpw 4 [46,47,48] 49 (boo (((((([]:Str)==[])&&((([]:Str)==[])&&true))&&true)&&true)&&true)) (fun w=>∃ H':Hp,dx.le H'∧St d f w H' [.box c8 62 [(.slice none 0 0),(.slice none 0 0)],.box cn 56 [(str []),(str [])],.box c 54 [(str []),(int 0),(int 0),(int 0),(boo false),(boo false),(.pointer none),(int 0),(.pointer none)]]) ?_ ?_
   ·rcases boolE ((((([]:Str)==[])&&((([]:Str)==[])&&true))&&true)&&true) with ah | ah
    ·refine Gy ah<|M<|Gy ah<|W.inl (args:=[(ptr c 0)]) rfl (N':=11) Tryz.func19 rfl rfl kr rfl<|Ws<|Wg<|A<|We<|Ws<|Ws<|Wg<|M ?_
     refine W.inl (args:=[(ptr c 0)]) rfl (N':=12) Tryz.func38 rfl rfl kr rfl<|Ws<|Wg<|A<|We<|Ws<|Wg<|M ?_
     refine WL.w (v:=boo true) (R.ofEq (R.neqPN rfl rfl Tryz.underlying34) rfl)<|M<|Gy rfl<|M ?_
     refine Gy rfl<|Nn<|Gy rfl<|Fb<|Gy rfl ?_
     refine Lo 2 S<|Gy rfl ?_
     refine WL.w (v:=boo false) (R.ofEq (R.neqPN rfl rfl Tryz.underlying51) rfl)<|Pt rfl<|A<|We ?_
     refine WP.ret (In.one rfl rfl ?_)
     refine WL.w (v:=boo true) (R.ofEq (R.not rfl) rfl)<|We<|WP.condT (b:=true) rfl rfl<|Ws<|Wg<|A<|We ?_
     refine WP.ret (In.one rfl rfl ?_)
     refine Gy ah ?_
     refine WL.w (v:=boo true) (R.ofEq (R.eql rfl rfl) rfl)<|Pt ah ?_
     exact We ⟨(andT ah),ag,⟨dx,lr,S⟩⟩
    refine Gn ah<|Gn ah<|Gn ah<|Pf ah ?_
    exact We ⟨(andF ah),ag,⟨dx,lr,S⟩⟩
   intro us is ⟨di,it,S⟩
   refine M ?_
   refine WL.grpw 5 [51,52,53,54] 55 (boo ((((((([]:Str)==[])&&((([]:Str)==[])&&true))&&true)&&true)&&true)&&((([]:List Str).length:Int)==0))) (fun w=>∃ H':Hp,di.le H'∧St d f w H' [.box c8 62 [(.slice none 0 0),(.slice none 0 0)],.box cn 56 [(str []),(str [])],.box c 54 [(str []),(int 0),(int 0),(int 0),(boo false),(boo false),(.pointer none),(int 0),(.pointer none)]]) ?_ ?_
   ·rcases boolE (((((([]:Str)==[])&&((([]:Str)==[])&&true))&&true)&&true)&&true) with p | p
    ·refine Gy p<|M<|Gy p<|W.inl (args:=[(ptr c 0)]) rfl (N':=11) Tryz.func20 rfl rfl kr rfl<|Ws<|Wg<|A<|We<|Ws<|Ws<|Wg<|M ?_
     refine W.inl (args:=[(ptr c 0)]) rfl (N':=12) Tryz.func38 rfl rfl kr rfl<|Ws<|Wg<|A<|We<|Ws<|Wg<|M ?_
     refine WL.w (v:=boo true) (R.ofEq (R.neqPN rfl rfl Tryz.underlying34) rfl)<|M<|Gy rfl<|M ?_
     refine Gy rfl<|Nn<|Gy rfl<|Fb<|Gy rfl ?_
     refine Lo 2 S<|Gy rfl ?_
     refine WL.w (v:=boo false) (R.ofEq (R.neqPN rfl rfl Tryz.underlying51) rfl)<|Pt rfl<|A<|We ?_
     refine WP.ret (In.one rfl rfl ?_)
     refine WL.w (v:=boo true) (R.ofEq (R.not rfl) rfl)<|We<|WP.condT (b:=true) rfl rfl<|Ws<|Wg<|A<|We ?_
     refine WP.ret (In.one rfl rfl ?_)
     refine Gy p<|Nq (Sl.nil (α:=Str) (H:=di))<|Gy p<|Le<|Pt p ?_
     exact We ⟨(andT p),ag,⟨di,lr,S⟩⟩
    refine Gn p<|Gn p<|Gn p<|Gn p<|Pf p ?_
    exact We ⟨(andF p),ag,⟨di,lr,S⟩⟩
   intro us iu ⟨eo,iv,S⟩
   refine M ?_
   refine WL.grp 3 [57,58] 59 (boo (((((((([]:Str)==[])&&((([]:Str)==[])&&true))&&true)&&true)&&true)&&((([]:List Str).length:Int)==0))&&true)) ?_ ?_
   ·rcases boolE ((((((([]:Str)==[])&&((([]:Str)==[])&&true))&&true)&&true)&&true)&&((([]:List Str).length:Int)==0)) with bo | bo
    ·refine Gy bo<|M<|Gy bo ?_
     refine WL.w (v:=boo true) (R.ofEq (R.not rfl) rfl)<|Pt bo ?_
     exact We ⟨(andT bo),ag,rfl⟩
    refine Gn bo<|Gn bo<|Pf bo ?_
    exact We ⟨(andF bo),ag,rfl⟩
   intro us
   refine M<|B h fun ep b2 h=>WL.grpw 4 [61,62,63] 64 (boo ep) (fun w=>∃ H':Hp,eo.le H'∧St d f w H' [.box c8 62 [(.slice none 0 0),(.slice none 0 0)],.box cn 56 [(str []),(str [])],.box c 54 [(str []),(int 0),(int 0),(int 0),(boo false),(boo false),(.pointer none),(int 0),(.pointer none)]]) ?_ ?_
   ·rcases boolE (((((((([]:Str)==[])&&((([]:Str)==[])&&true))&&true)&&true)&&true)&&((([]:List Str).length:Int)==0))&&true) with ai | ai
    ·replace b2:=condT b2 ai
     refine Gy ai ?_
     refine WL.w (R.loadBN (i:=0) (vs:=[(.slice none 0 0),(.slice none 0 0)]) S rfl rfl lay62 rfl rfl)<|Gy ai ?_
     refine WL.w (R.build [] [(.slice none 0 0),(.slice none 0 0)] bp62 zer62 rfl rfl)<|Gy ai<|B b2 fun iw fn b2=>W.call S rfl (zAI S.holds (hG.post S.post) (⟨([]:List GAxis),([]:List GEntry)⟩:GTable) (⟨([]:List GAxis),([]:List GEntry)⟩:GTable) Sl.nil Sl.nil Sl.nil Sl.nil fn) ?_
     rintro ix iy fo fp S rfl
     refine Pt ai ?_
     exact We ⟨(ob b2),ag,⟨fo,fp,S⟩⟩
    replace b2:=condF b2 ai
    refine Gn ai<|Gn ai<|Gn ai<|Pf ai ?_
    exact We ⟨(ob b2),ag,⟨eo,lr,S⟩⟩
   intro us iz ⟨eq,i0,S⟩
   refine M<|B h fun fq b3 h=>WL.grpw 2 [66] 67 (boo fq) (fun w=>∃ H':Hp,eq.le H'∧St d f w H' [.box c8 62 [(.slice none 0 0),(.slice none 0 0)],.box cn 56 [(str []),(str [])],.box c 54 [(str []),(int 0),(int 0),(int 0),(boo false),(boo false),(.pointer none),(int 0),(.pointer none)]]) ?_ ?_
   ·rcases boolE ep with co | co
    ·replace b3:=condT b3 co
     refine Gy co<|B b3 fun i1 fr b3=>W.call S rfl (zAR S.holds (hG.post S.post)  fr) ?_
     rintro i2 i3 fs ft S rfl
     refine Pt co ?_
     exact We ⟨(ob b3),ag,⟨fs,ft,S⟩⟩
    replace b3:=condF b3 co
    refine Gn co<|Pf co ?_
    exact We ⟨(ob b3),ag,⟨eq,lr,S⟩⟩
   intro us i4 ⟨i5,i6,S⟩
   refine A<|We ?_
   exact WP.ret (Rb h S)
  refine CF dv<|Ws<|Wg<|Le<|A<|We ?_
  rcases condE h with ⟨dy,h⟩ | ⟨dy,h⟩
  ·refine CT dy<|Ws<|Wg<|M<|Fb ?_
   refine Lo 1 S<|W.inl (args:=[(ptr c 0),(str j.fText)]) rfl (N':=109) Tryz.func27 rfl rfl kr rfl<|Ws<|Wg ?_
   refine W.alloc [(str []),(str [])] S zer56 ?_
   intro fu i7 S
   refine A<|We<|Ws<|Ws<|Wg<|M<|W.inl (args:=[(ptr c 0)]) rfl (N':=12) Tryz.func38 rfl rfl kr rfl<|Ws<|Wg<|A<|We<|Ws ?_
   refine Wg<|M ?_
   refine WL.w (v:=boo true) (R.ofEq (R.neqPN rfl rfl Tryz.underlying34) rfl)<|M<|Gy rfl<|M<|Gy rfl<|Nn<|Gy rfl<|Fb<|Gy rfl ?_
   refine Lo 3 S ?_
   refine Gy rfl ?_
   refine WL.w (v:=boo false) (R.ofEq (R.neqPN rfl rfl Tryz.underlying51) rfl)<|Pt rfl<|A<|We ?_
   refine WP.ret (In.one rfl rfl ?_)
   replace S:St d f _ k [.box fu 56 [(str []),(str [])],.box bn 56 [(str []),(str [])],.box b0 48 [(int j.fKind),(int j.fN),(str j.fText)],.box c 54 [(str []),(int 0),(int 0),(int 0),(boo false),(boo false),(.pointer none),(int 0),(.pointer none)]]:=(S.pk [0,1,2,3])
   refine WL.w (v:=boo true) (R.ofEq (R.not rfl) rfl)<|M<|Gn rfl<|Gn rfl<|Gn rfl<|Gn rfl<|Gn rfl<|Pt rfl<|We<|WP.condT (b:=true) rfl rfl<|Ws<|Wg ?_
   refine WL.w (R.build [] [(str []),(str [])] bp56 zer56 rfl rfl) ?_
   refine W.store (i:=0) [(str []),(str [])] S rfl rfl rfl lay56 rfl rfl (Nat.le_of_ble_eq_true rfl) rfl ?_
   intro i8 S
   refine A<|We ?_
   refine WP.ret (In.two rfl (Res.cellB (i:=0) (cs:=[(str []),(str [])]) S rfl rfl lay56 rfl rfl) rfl ?_)
   replace S:St d f _ k [.box bn 56 [(str []),(str [])],.box b0 48 [(int j.fKind),(int j.fN),(str j.fText)],.box c 54 [(str []),(int 0),(int 0),(int 0),(boo false),(boo false),(.pointer none),(int 0),(.pointer none)]]:=(S.pk [1,2,3])
   refine Ex ?_
   refine Ex ?_
   refine W.store (i:=0) [(str []),(str [])] S rfl rfl rfl lay56 rfl rfl (Nat.le_of_ble_eq_true rfl) rfl ?_
   intro i9 S
   refine A<|We ?_
   refine WP.ret (In.two rfl (Res.cellB (i:=0) (cs:=[(str []),(str [])]) S rfl rfl lay56 rfl rfl) rfl ?_)
   replace S:St d f _ k [.box c 54 [(str []),(int 0),(int 0),(int 0),(boo false),(boo false),(.pointer none),(int 0),(.pointer none)]]:=(S.pk [2])
   refine M ?_
   refine Ex ?_
   refine Ex ?_
   refine W.alloc [(str []),(str [])] S zer56 ?_
   intro cp ja S
   refine W.store (i:=0) [(str []),(str [])] S rfl rfl rfl lay56 rfl rfl (Nat.le_of_ble_eq_true rfl) rfl ?_
   intro jb S
   refine A<|We<|Ws<|Wg<|M<|W.inl (args:=[(ptr c 0),(str [104,116,116,112,58,47,47,104,47,97])]) rfl (N':=18) Tryz.func23 rfl rfl kr rfl<|Ws<|Wg ?_
   refine W.alloc [(.slice none 0 0),(.slice none 0 0)] S zer62 ?_
   intro jc jd S
   refine A<|We<|Ws<|Ws<|Wg<|M<|W.inl (args:=[(ptr c 0)]) rfl (N':=12) Tryz.func38 rfl rfl kr rfl<|Ws<|Wg<|A<|We<|Ws ?_
   refine Wg<|M ?_
   refine WL.w (v:=boo true) (R.ofEq (R.neqPN rfl rfl Tryz.underlying34) rfl)<|M<|Gy rfl<|M<|Gy rfl<|Nn<|Gy rfl<|Fb<|Gy rfl ?_
   refine Lo 2 S ?_
   refine Gy rfl ?_
   refine WL.w (v:=boo false) (R.ofEq (R.neqPN rfl rfl Tryz.underlying51) rfl)<|Pt rfl<|A<|We ?_
   refine WP.ret (In.one rfl rfl ?_)
   refine WL.w (v:=boo true) (R.ofEq (R.not rfl) rfl)<|We<|WP.condT (b:=true) rfl rfl<|Ws<|Wg ?_
   refine WL.w (R.build [] [(.slice none 0 0),(.slice none 0 0)] bp62 zer62 rfl rfl) ?_
   refine W.store (i:=0) [(.slice none 0 0),(.slice none 0 0)] S rfl rfl rfl lay62 rfl (AllOne.all (l:=[(.slice none 0 0),(.slice none 0 0)]) (.cons rfl (.cons rfl .nil))) (Nat.le_of_ble_eq_true rfl) rfl ?_
   intro je S
   refine A<|We ?_
   refine WP.ret (In.two rfl (Res.cellB (i:=0) (cs:=[(.slice none 0 0),(.slice none 0 0)]) S rfl rfl lay62 rfl rfl) rfl ?_)
   replace S:St d f _ k [.box cp 56 [(str []),(str [])],.box c 54 [(str []),(int 0),(int 0),(int 0),(boo false),(boo false),(.pointer none),(int 0),(.pointer none)]]:=(S.pk [1,2])
   refine M ?_
   refine Ex ?_
   refine Ex ?_
   refine W.alloc [(.slice none 0 0),(.slice none 0 0)] S zer62 ?_
   intro c9 jf S
   refine W.store (i:=0) [(.slice none 0 0),(.slice none 0 0)] S rfl rfl rfl lay62 rfl (AllOne.all (l:=[(.slice none 0 0),(.slice none 0 0)]) (.cons rfl (.cons rfl .nil))) (Nat.le_of_ble_eq_true rfl) rfl ?_
   intro jg S
   refine A<|We<|Ws<|Wg<|M ?_
   refine WL.w (v:=boo true) (R.ofEq (R.eql rfl rfl) rfl)<|M<|Gy rfl ?_
   refine WL.w (R.loadBN (i:=1) (vs:=[(str []),(str [])]) S rfl rfl lay56 rfl rfl)<|Gy rfl ?_
   refine WL.w (R.build [] [(str []),(str [])] bp56 zer56 rfl rfl)<|Gy rfl ?_
   refine WL.w (R.eqlA ((([]:Str)==[])&&((([]:Str)==[])&&true)) rfl rfl ps56 fk56 rfl rfl rfl)<|Pt rfl<|M ?_
   refine WL.grpw 4 [36,37,38] 39 (boo (((([]:Str)==[])&&((([]:Str)==[])&&true))&&true)) (fun w=>∃ H':Hp,k.le H'∧St d f w H' [.box c9 62 [(.slice none 0 0),(.slice none 0 0)],.box cp 56 [(str []),(str [])],.box c 54 [(str []),(int 0),(int 0),(int 0),(boo false),(boo false),(.pointer none),(int 0),(.pointer none)]]) ?_ ?_
   ·rcases boolE ((([]:Str)==[])&&((([]:Str)==[])&&true)) with aj | aj
    ·refine Gy aj<|M<|Gy aj<|W.inl (args:=[(ptr c 0)]) rfl (N':=12) Tryz.func18 rfl rfl kr rfl<|Ws<|Wg<|A<|We<|Ws<|Wg<|M<|W.inl (args:=[(ptr c 0)]) rfl (N':=12) Tryz.func38 rfl rfl kr rfl ?_
     refine Ws<|Wg<|A<|We<|Ws<|Wg<|M ?_
     refine WL.w (v:=boo true) (R.ofEq (R.neqPN rfl rfl Tryz.underlying34) rfl)<|M<|Gy rfl<|M<|Gy rfl ?_
     refine Nn<|Gy rfl<|Fb<|Gy rfl ?_
     refine Lo 2 S<|Gy rfl ?_
     refine WL.w (v:=boo false) (R.ofEq (R.neqPN rfl rfl Tryz.underlying51) rfl)<|Pt rfl<|A<|We ?_
     refine WP.ret (In.one rfl rfl ?_)
     refine M<|Gn rfl<|Gn rfl<|Gn rfl<|Gn rfl<|Gn rfl<|Pf rfl<|A<|We ?_
     refine WP.ret (In.one rfl rfl ?_)
     refine Gy aj ?_
     refine WL.w (v:=boo true) (R.ofEq (R.not rfl) rfl)<|Pt aj ?_
     exact We ⟨(andT aj),ag,⟨k,lr,S⟩⟩
    refine Gn aj<|Gn aj<|Gn aj<|Pf aj ?_
    exact We ⟨(andF aj),ag,⟨k,lr,S⟩⟩
   intro us jh ⟨dz,ji,S⟩
   refine M ?_
   refine WL.grpw 4 [41,42,43] 44 (boo ((((([]:Str)==[])&&((([]:Str)==[])&&true))&&true)&&true)) (fun w=>∃ H':Hp,dz.le H'∧St d f w H' [.box c9 62 [(.slice none 0 0),(.slice none 0 0)],.box cp 56 [(str []),(str [])],.box c 54 [(str []),(int 0),(int 0),(int 0),(boo false),(boo false),(.pointer none),(int 0),(.pointer none)]]) ?_ ?_
   ·rcases boolE (((([]:Str)==[])&&((([]:Str)==[])&&true))&&true) with ak | ak
    ·refine Gy ak<|M<|Gy ak<|W.inl (args:=[(ptr c 0)]) rfl (N':=10) Tryz.func16 rfl rfl kr rfl<|Ws<|Wg<|A<|We<|Ws<|Ws<|Wg<|M ?_
     refine W.inl (args:=[(ptr c 0)]) rfl (N':=12) Tryz.func38 rfl rfl kr rfl<|Ws<|Wg<|A<|We<|Ws<|Wg<|M ?_
     refine WL.w (v:=boo true) (R.ofEq (R.neqPN rfl rfl Tryz.underlying34) rfl)<|M<|Gy rfl<|M ?_
     refine Gy rfl<|Nn<|Gy rfl<|Fb<|Gy rfl ?_
     refine Lo 2 S<|Gy rfl ?_
     refine WL.w (v:=boo false) (R.ofEq (R.neqPN rfl rfl Tryz.underlying51) rfl)<|Pt rfl<|A<|We ?_
     refine WP.ret (In.one rfl rfl ?_)
     refine WL.w (v:=boo true) (R.ofEq (R.not rfl) rfl)<|We<|WP.condT (b:=true) rfl rfl<|Ws<|Wg<|A<|We ?_
     refine WP.ret (In.one rfl rfl ?_)
     refine Gy ak ?_
     refine WL.w (v:=boo true) (R.ofEq (R.eql rfl rfl) rfl)<|Pt ak ?_
     exact We ⟨(andT ak),ag,⟨dz,lr,S⟩⟩
    refine Gn ak<|Gn ak<|Gn ak<|Pf ak ?_
    exact We ⟨(andF ak),ag,⟨dz,lr,S⟩⟩
   intro us jj ⟨d0,jk,S⟩
   refine M ?_
   refine WL.grpw 4 [46,47,48] 49 (boo (((((([]:Str)==[])&&((([]:Str)==[])&&true))&&true)&&true)&&true)) (fun w=>∃ H':Hp,d0.le H'∧St d f w H' [.box c9 62 [(.slice none 0 0),(.slice none 0 0)],.box cp 56 [(str []),(str [])],.box c 54 [(str []),(int 0),(int 0),(int 0),(boo false),(boo false),(.pointer none),(int 0),(.pointer none)]]) ?_ ?_
   ·rcases boolE ((((([]:Str)==[])&&((([]:Str)==[])&&true))&&true)&&true) with al | al
    ·refine Gy al<|M<|Gy al<|W.inl (args:=[(ptr c 0)]) rfl (N':=11) Tryz.func19 rfl rfl kr rfl<|Ws<|Wg<|A<|We<|Ws<|Ws<|Wg<|M ?_
     refine W.inl (args:=[(ptr c 0)]) rfl (N':=12) Tryz.func38 rfl rfl kr rfl<|Ws<|Wg<|A<|We<|Ws<|Wg<|M ?_
     refine WL.w (v:=boo true) (R.ofEq (R.neqPN rfl rfl Tryz.underlying34) rfl)<|M<|Gy rfl<|M ?_
     refine Gy rfl<|Nn<|Gy rfl<|Fb<|Gy rfl ?_
     refine Lo 2 S<|Gy rfl ?_
     refine WL.w (v:=boo false) (R.ofEq (R.neqPN rfl rfl Tryz.underlying51) rfl)<|Pt rfl<|A<|We ?_
     refine WP.ret (In.one rfl rfl ?_)
     refine WL.w (v:=boo true) (R.ofEq (R.not rfl) rfl)<|We<|WP.condT (b:=true) rfl rfl<|Ws<|Wg<|A<|We ?_
     refine WP.ret (In.one rfl rfl ?_)
     refine Gy al ?_
     refine WL.w (v:=boo true) (R.ofEq (R.eql rfl rfl) rfl)<|Pt al ?_
     exact We ⟨(andT al),ag,⟨d0,lr,S⟩⟩
    refine Gn al<|Gn al<|Gn al<|Pf al ?_
    exact We ⟨(andF al),ag,⟨d0,lr,S⟩⟩
   intro us jl ⟨dj,jm,S⟩
   refine M ?_
   refine WL.grpw 5 [51,52,53,54] 55 (boo ((((((([]:Str)==[])&&((([]:Str)==[])&&true))&&true)&&true)&&true)&&((([]:List Str).length:Int)==0))) (fun w=>∃ H':Hp,dj.le H'∧St d f w H' [.box c9 62 [(.slice none 0 0),(.slice none 0 0)],.box cp 56 [(str []),(str [])],.box c 54 [(str []),(int 0),(int 0),(int 0),(boo false),(boo false),(.pointer none),(int 0),(.pointer none)]]) ?_ ?_
   ·rcases boolE (((((([]:Str)==[])&&((([]:Str)==[])&&true))&&true)&&true)&&true) with q | q
    ·refine Gy q<|M<|Gy q<|W.inl (args:=[(ptr c 0)]) rfl (N':=11) Tryz.func20 rfl rfl kr rfl<|Ws<|Wg<|A<|We<|Ws<|Ws<|Wg<|M ?_
     refine W.inl (args:=[(ptr c 0)]) rfl (N':=12) Tryz.func38 rfl rfl kr rfl<|Ws<|Wg<|A<|We<|Ws<|Wg<|M ?_
     refine WL.w (v:=boo true) (R.ofEq (R.neqPN rfl rfl Tryz.underlying34) rfl)<|M<|Gy rfl<|M ?_
     refine Gy rfl<|Nn<|Gy rfl<|Fb<|Gy rfl ?_
     refine Lo 2 S<|Gy rfl ?_
     refine WL.w (v:=boo false) (R.ofEq (R.neqPN rfl rfl Tryz.underlying51) rfl)<|Pt rfl<|A<|We ?_
     refine WP.ret (In.one rfl rfl ?_)
     refine WL.w (v:=boo true) (R.ofEq (R.not rfl) rfl)<|We<|WP.condT (b:=true) rfl rfl<|Ws<|Wg<|A<|We ?_
     refine WP.ret (In.one rfl rfl ?_)
     refine Gy q<|Nq (Sl.nil (α:=Str) (H:=dj))<|Gy q<|Le<|Pt q ?_
     exact We ⟨(andT q),ag,⟨dj,lr,S⟩⟩
    refine Gn q<|Gn q<|Gn q<|Gn q<|Pf q ?_
    exact We ⟨(andF q),ag,⟨dj,lr,S⟩⟩
   intro us jn ⟨er,jp,S⟩
   refine M ?_
   refine WL.grp 3 [57,58] 59 (boo (((((((([]:Str)==[])&&((([]:Str)==[])&&true))&&true)&&true)&&true)&&((([]:List Str).length:Int)==0))&&true)) ?_ ?_
   ·rcases boolE ((((((([]:Str)==[])&&((([]:Str)==[])&&true))&&true)&&true)&&true)&&((([]:List Str).length:Int)==0)) with bp | bp
    ·refine Gy bp<|M<|Gy bp ?_
     refine WL.w (v:=boo true) (R.ofEq (R.not rfl) rfl)<|Pt bp ?_
     exact We ⟨(andT bp),ag,rfl⟩
    refine Gn bp<|Gn bp<|Pf bp ?_
    exact We ⟨(andF bp),ag,rfl⟩
   intro us
   refine M<|B h fun es b4 h=>WL.grpw 4 [61,62,63] 64 (boo es) (fun w=>∃ H':Hp,er.le H'∧St d f w H' [.box c9 62 [(.slice none 0 0),(.slice none 0 0)],.box cp 56 [(str []),(str [])],.box c 54 [(str []),(int 0),(int 0),(int 0),(boo false),(boo false),(.pointer none),(int 0),(.pointer none)]]) ?_ ?_
   ·rcases boolE (((((((([]:Str)==[])&&((([]:Str)==[])&&true))&&true)&&true)&&true)&&((([]:List Str).length:Int)==0))&&true) with am | am
    ·replace b4:=condT b4 am
     refine Gy am ?_
     refine WL.w (R.loadBN (i:=0) (vs:=[(.slice none 0 0),(.slice none 0 0)]) S rfl rfl lay62 rfl rfl)<|Gy am ?_
     refine WL.w (R.build [] [(.slice none 0 0),(.slice none 0 0)] bp62 zer62 rfl rfl)<|Gy am<|B b4 fun jq fv b4=>W.call S rfl (zAI S.holds (hG.post S.post) (⟨([]:List GAxis),([]:List GEntry)⟩:GTable) (⟨([]:List GAxis),([]:List GEntry)⟩:GTable) Sl.nil Sl.nil Sl.nil Sl.nil fv) ?_
     rintro jr js fw fx S rfl
     refine Pt am ?_
     exact We ⟨(ob b4),ag,⟨fw,fx,S⟩⟩
    replace b4:=condF b4 am
    refine Gn am<|Gn am<|Gn am<|Pf am ?_
    exact We ⟨(ob b4),ag,⟨er,lr,S⟩⟩
   intro us jt ⟨et,ju,S⟩
   refine M<|B h fun fy b5 h=>WL.grpw 2 [66] 67 (boo fy) (fun w=>∃ H':Hp,et.le H'∧St d f w H' [.box c9 62 [(.slice none 0 0),(.slice none 0 0)],.box cp 56 [(str []),(str [])],.box c 54 [(str []),(int 0),(int 0),(int 0),(boo false),(boo false),(.pointer none),(int 0),(.pointer none)]]) ?_ ?_
   ·rcases boolE es with cq | cq
    ·replace b5:=condT b5 cq
     refine Gy cq<|B b5 fun jv fz b5=>W.call S rfl (zAR S.holds (hG.post S.post)  fz) ?_
     rintro jw jx f0 f1 S rfl
     refine Pt cq ?_
     exact We ⟨(ob b5),ag,⟨f0,f1,S⟩⟩
    replace b5:=condF b5 cq
    refine Gn cq<|Pf cq ?_
    exact We ⟨(ob b5),ag,⟨et,lr,S⟩⟩
   intro us jy ⟨jz,j0,S⟩
   refine A<|We ?_
   exact WP.ret (Rb h S)
  refine CF dy<|Ws<|Wg<|Le<|A<|We ?_
  rcases condE h with ⟨d1,h⟩ | ⟨d1,h⟩
  ·refine CT d1<|Ws<|Wg<|M<|W.inl (args:=[(ptr c 0),(boo false)]) rfl (N':=33) Tryz.func44 rfl rfl kr rfl<|Ws<|Wg ?_
   refine W.alloc [(str []),(str [])] S zer56 ?_
   intro f2 j1 S
   refine A<|We<|Ws<|Ws<|Wg<|M<|W.inl (args:=[(ptr c 0)]) rfl (N':=12) Tryz.func38 rfl rfl kr rfl<|Ws<|Wg<|A<|We<|Ws ?_
   refine Wg<|M ?_
   refine WL.w (v:=boo true) (R.ofEq (R.neqPN rfl rfl Tryz.underlying34) rfl)<|M<|Gy rfl<|M<|Gy rfl<|Nn<|Gy rfl<|Fb<|Gy rfl ?_
   refine Lo 3 S ?_
   refine Gy rfl ?_
   refine WL.w (v:=boo false) (R.ofEq (R.neqPN rfl rfl Tryz.underlying51) rfl)<|Pt rfl<|A<|We ?_
   refine WP.ret (In.one rfl rfl ?_)
   replace S:St d f _ k [.box f2 56 [(str []),(str [])],.box bn 56 [(str []),(str [])],.box b0 48 [(int j.fKind),(int j.fN),(str j.fText)],.box c 54 [(str []),(int 0),(int 0),(int 0),(boo false),(boo false),(.pointer none),(int 0),(.pointer none)]]:=(S.pk [0,1,2,3])
   refine WL.w (v:=boo true) (R.ofEq (R.not rfl) rfl)<|M<|Gn rfl<|Gn rfl<|Gn rfl<|Gn rfl<|Gn rfl<|Pt rfl<|We<|WP.condT (b:=true) rfl rfl<|Ws<|Wg ?_
   refine WL.w (R.build [] [(str []),(str [])] bp56 zer56 rfl rfl) ?_
   refine W.store (i:=0) [(str []),(str [])] S rfl rfl rfl lay56 rfl rfl (Nat.le_of_ble_eq_true rfl) rfl ?_
   intro j2 S
   refine A<|We ?_
   refine WP.ret (In.two rfl (Res.cellB (i:=0) (cs:=[(str []),(str [])]) S rfl rfl lay56 rfl rfl) rfl ?_)
   replace S:St d f _ k [.box bn 56 [(str []),(str [])],.box b0 48 [(int j.fKind),(int j.fN),(str j.fText)],.box c 54 [(str []),(int 0),(int 0),(int 0),(boo false),(boo false),(.pointer none),(int 0),(.pointer none)]]:=(S.pk [1,2,3])
   refine Ex ?_
   refine Ex ?_
   refine W.store (i:=0) [(str []),(str [])] S rfl rfl rfl lay56 rfl rfl (Nat.le_of_ble_eq_true rfl) rfl ?_
   intro j3 S
   refine A<|We ?_
   refine WP.ret (In.two rfl (Res.cellB (i:=0) (cs:=[(str []),(str [])]) S rfl rfl lay56 rfl rfl) rfl ?_)
   replace S:St d f _ k [.box c 54 [(str []),(int 0),(int 0),(int 0),(boo false),(boo false),(.pointer none),(int 0),(.pointer none)]]:=(S.pk [2])
   refine M ?_
   refine Ex ?_
   refine Ex ?_
   refine W.alloc [(str []),(str [])] S zer56 ?_
   intro cr j4 S
   refine W.store (i:=0) [(str []),(str [])] S rfl rfl rfl lay56 rfl rfl (Nat.le_of_ble_eq_true rfl) rfl ?_
   intro j5 S
   refine A<|We<|Ws<|Wg<|M<|W.inl (args:=[(ptr c 0),(str [104,116,116,112,58,47,47,104,47,97])]) rfl (N':=18) Tryz.func23 rfl rfl kr rfl<|Ws<|Wg ?_
   refine W.alloc [(.slice none 0 0),(.slice none 0 0)] S zer62 ?_
   intro j6 j7 S
   refine A<|We<|Ws<|Ws<|Wg<|M<|W.inl (args:=[(ptr c 0)]) rfl (N':=12) Tryz.func38 rfl rfl kr rfl<|Ws<|Wg<|A<|We<|Ws ?_
   refine Wg<|M ?_
   refine WL.w (v:=boo true) (R.ofEq (R.neqPN rfl rfl Tryz.underlying34) rfl)<|M<|Gy rfl<|M<|Gy rfl<|Nn<|Gy rfl<|Fb<|Gy rfl ?_
   refine Lo 2 S ?_
   refine Gy rfl ?_
   refine WL.w (v:=boo false) (R.ofEq (R.neqPN rfl rfl Tryz.underlying51) rfl)<|Pt rfl<|A<|We ?_
   refine WP.ret (In.one rfl rfl ?_)
   refine WL.w (v:=boo true) (R.ofEq (R.not rfl) rfl)<|We<|WP.condT (b:=true) rfl rfl<|Ws<|Wg ?_
   refine WL.w (R.build [] [(.slice none 0 0),(.slice none 0 0)] bp62 zer62 rfl rfl) ?_
   refine W.store (i:=0) [(.slice none 0 0),(.slice none 0 0)] S rfl rfl rfl lay62 rfl (AllOne.all (l:=[(.slice none 0 0),(.slice none 0 0)]) (.cons rfl (.cons rfl .nil))) (Nat.le_of_ble_eq_true rfl) rfl ?_
   intro j8 S
   refine A<|We ?_
   refine WP.ret (In.two rfl (Res.cellB (i:=0) (cs:=[(.slice none 0 0),(.slice none 0 0)]) S rfl rfl lay62 rfl rfl) rfl ?_)
   replace S:St d f _ k [.box cr 56 [(str []),(str [])],.box c 54 [(str []),(int 0),(int 0),(int 0),(boo false),(boo false),(.pointer none),(int 0),(.pointer none)]]:=(S.pk [1,2])
   refine M ?_
   refine Ex ?_
   refine Ex ?_
   refine W.alloc [(.slice none 0 0),(.slice none 0 0)] S zer62 ?_
   intro da j9 S
   refine W.store (i:=0) [(.slice none 0 0),(.slice none 0 0)] S rfl rfl rfl lay62 rfl (AllOne.all (l:=[(.slice none 0 0),(.slice none 0 0)]) (.cons rfl (.cons rfl .nil))) (Nat.le_of_ble_eq_true rfl) rfl ?_
   intro ka S
   refine A<|We<|Ws<|Wg<|M ?_
   refine WL.w (v:=boo true) (R.ofEq (R.eql rfl rfl) rfl)<|M<|Gy rfl ?_
   refine WL.w (R.loadBN (i:=1) (vs:=[(str []),(str [])]) S rfl rfl lay56 rfl rfl)<|Gy rfl ?_
   refine WL.w (R.build [] [(str []),(str [])] bp56 zer56 rfl rfl)<|Gy rfl ?_
   refine WL.w (R.eqlA ((([]:Str)==[])&&((([]:Str)==[])&&true)) rfl rfl ps56 fk56 rfl rfl rfl)<|Pt rfl<|M ?_
   refine WL.grpw 4 [36,37,38] 39 (boo (((([]:Str)==[])&&((([]:Str)==[])&&true))&&true)) (fun w=>∃ H':Hp,k.le H'∧St d f w H' [.box da 62 [(.slice none 0 0),(.slice none 0 0)],.box cr 56 [(str []),(str [])],.box c 54 [(str []),(int 0),(int 0),(int 0),(boo false),(boo false),(.pointer none),(int 0),(.pointer none)]]) ?_ ?_
   ·rcases boolE ((([]:Str)==[])&&((([]:Str)==[])&&true)) with an | an
    ·refine Gy an<|M<|Gy an<|W.inl (args:=[(ptr c 0)]) rfl (N':=12) Tryz.func18 rfl rfl kr rfl<|Ws<|Wg<|A<|We<|Ws<|Wg<|M<|W.inl (args:=[(ptr c 0)]) rfl (N':=12) Tryz.func38 rfl rfl kr rfl ?_
     refine Ws<|Wg<|A<|We<|Ws<|Wg<|M ?_
     refine WL.w (v:=boo true) (R.ofEq (R.neqPN rfl rfl Tryz.underlying34) rfl)<|M<|Gy rfl<|M<|Gy rfl ?_
     refine Nn<|Gy rfl<|Fb<|Gy rfl ?_
     refine Lo 2 S<|Gy rfl ?_
     refine WL.w (v:=boo false) (R.ofEq (R.neqPN rfl rfl Tryz.underlying51) rfl)<|Pt rfl<|A<|We ?_
     refine WP.ret (In.one rfl rfl ?_)
     refine M<|Gn rfl<|Gn rfl<|Gn rfl<|Gn rfl<|Gn rfl<|Pf rfl<|A<|We ?_
     refine WP.ret (In.one rfl rfl ?_)
     refine Gy an ?_
     refine WL.w (v:=boo true) (R.ofEq (R.not rfl) rfl)<|Pt an ?_
     exact We ⟨(andT an),ag,⟨k,lr,S⟩⟩
    refine Gn an<|Gn an<|Gn an<|Pf an ?_
    exact We ⟨(andF an),ag,⟨k,lr,S⟩⟩
   intro us kb ⟨d2,kc,S⟩
   refine M ?_
   refine WL.grpw 4 [41,42,43] 44 (boo ((((([]:Str)==[])&&((([]:Str)==[])&&true))&&true)&&true)) (fun w=>∃ H':Hp,d2.le H'∧St d f w H' [.box da 62 [(.slice none 0 0),(.slice none 0 0)],.box cr 56 [(str []),(str [])],.box c 54 [(str []),(int 0),(int 0),(int 0),(boo false),(boo false),(.pointer none),(int 0),(.pointer none)]]) ?_ ?_
   ·rcases boolE (((([]:Str)==[])&&((([]:Str)==[])&&true))&&true) with ao | ao
    ·refine Gy ao<|M<|Gy ao<|W.inl (args:=[(ptr c 0)]) rfl (N':=10) Tryz.func16 rfl rfl kr rfl<|Ws<|Wg<|A<|We<|Ws<|Ws<|Wg<|M ?_
     refine W.inl (args:=[(ptr c 0)]) rfl (N':=12) Tryz.func38 rfl rfl kr rfl<|Ws<|Wg<|A<|We<|Ws<|Wg<|M ?_
     refine WL.w (v:=boo true) (R.ofEq (R.neqPN rfl rfl Tryz.underlying34) rfl)<|M<|Gy rfl<|M ?_
     refine Gy rfl<|Nn<|Gy rfl<|Fb<|Gy rfl ?_
     refine Lo 2 S<|Gy rfl ?_
     refine WL.w (v:=boo false) (R.ofEq (R.neqPN rfl rfl Tryz.underlying51) rfl)<|Pt rfl<|A<|We ?_
     refine WP.ret (In.one rfl rfl ?_)
     refine WL.w (v:=boo true) (R.ofEq (R.not rfl) rfl)<|We<|WP.condT (b:=true) rfl rfl<|Ws<|Wg<|A<|We ?_
     refine WP.ret (In.one rfl rfl ?_)
     refine Gy ao ?_
     refine WL.w (v:=boo true) (R.ofEq (R.eql rfl rfl) rfl)<|Pt ao ?_
     exact We ⟨(andT ao),ag,⟨d2,lr,S⟩⟩
    refine Gn ao<|Gn ao<|Gn ao<|Pf ao ?_
    exact We ⟨(andF ao),ag,⟨d2,lr,S⟩⟩
   intro us kd ⟨d3,ke,S⟩
   refine M ?_
   refine WL.grpw 4 [46,47,48] 49 (boo (((((([]:Str)==[])&&((([]:Str)==[])&&true))&&true)&&true)&&true)) (fun w=>∃ H':Hp,d3.le H'∧St d f w H' [.box da 62 [(.slice none 0 0),(.slice none 0 0)],.box cr 56 [(str []),(str [])],.box c 54 [(str []),(int 0),(int 0),(int 0),(boo false),(boo false),(.pointer none),(int 0),(.pointer none)]]) ?_ ?_
   ·rcases boolE ((((([]:Str)==[])&&((([]:Str)==[])&&true))&&true)&&true) with ap | ap
    ·refine Gy ap<|M<|Gy ap<|W.inl (args:=[(ptr c 0)]) rfl (N':=11) Tryz.func19 rfl rfl kr rfl<|Ws<|Wg<|A<|We<|Ws<|Ws<|Wg<|M ?_
     refine W.inl (args:=[(ptr c 0)]) rfl (N':=12) Tryz.func38 rfl rfl kr rfl<|Ws<|Wg<|A<|We<|Ws<|Wg<|M ?_
     refine WL.w (v:=boo true) (R.ofEq (R.neqPN rfl rfl Tryz.underlying34) rfl)<|M<|Gy rfl<|M ?_
     refine Gy rfl<|Nn<|Gy rfl<|Fb<|Gy rfl ?_
     refine Lo 2 S<|Gy rfl ?_
     refine WL.w (v:=boo false) (R.ofEq (R.neqPN rfl rfl Tryz.underlying51) rfl)<|Pt rfl<|A<|We ?_
     refine WP.ret (In.one rfl rfl ?_)
     refine WL.w (v:=boo true) (R.ofEq (R.not rfl) rfl)<|We<|WP.condT (b:=true) rfl rfl<|Ws<|Wg<|A<|We ?_
     refine WP.ret (In.one rfl rfl ?_)
     refine Gy ap ?_
     refine WL.w (v:=boo true) (R.ofEq (R.eql rfl rfl) rfl)<|Pt ap ?_
     exact We ⟨(andT ap),ag,⟨d3,lr,S⟩⟩
    refine Gn ap<|Gn ap<|Gn ap<|Pf ap ?_
    exact We ⟨(andF ap),ag,⟨d3,lr,S⟩⟩
   intro us kf ⟨dk,kg,S⟩
   refine M ?_
   refine WL.grpw 5 [51,52,53,54] 55 (boo ((((((([]:Str)==[])&&((([]:Str)==[])&&true))&&true)&&true)&&true)&&((([]:List Str).length:Int)==0))) (fun w=>∃ H':Hp,dk.le H'∧St d f w H' [.box da 62 [(.slice none 0 0),(.slice none 0 0)],.box cr 56 [(str []),(str [])],.box c 54 [(str []),(int 0),(int 0),(int 0),(boo false),(boo false),(.pointer none),(int 0),(.pointer none)]]) ?_ ?_
   ·rcases boolE (((((([]:Str)==[])&&((([]:Str)==[])&&true))&&true)&&true)&&true) with t | t
    ·refine Gy t<|M<|Gy t<|W.inl (args:=[(ptr c 0)]) rfl (N':=11) Tryz.func20 rfl rfl kr rfl<|Ws<|Wg<|A<|We<|Ws<|Ws<|Wg<|M ?_
     refine W.inl (args:=[(ptr c 0)]) rfl (N':=12) Tryz.func38 rfl rfl kr rfl<|Ws<|Wg<|A<|We<|Ws<|Wg<|M ?_
     refine WL.w (v:=boo true) (R.ofEq (R.neqPN rfl rfl Tryz.underlying34) rfl)<|M<|Gy rfl<|M ?_
     refine Gy rfl<|Nn<|Gy rfl<|Fb<|Gy rfl ?_
     refine Lo 2 S<|Gy rfl ?_
     refine WL.w (v:=boo false) (R.ofEq (R.neqPN rfl rfl Tryz.underlying51) rfl)<|Pt rfl<|A<|We ?_
     refine WP.ret (In.one rfl rfl ?_)
     refine WL.w (v:=boo true) (R.ofEq (R.not rfl) rfl)<|We<|WP.condT (b:=true) rfl rfl<|Ws<|Wg<|A<|We ?_
     refine WP.ret (In.one rfl rfl ?_)
     refine Gy t<|Nq (Sl.nil (α:=Str) (H:=dk))<|Gy t<|Le<|Pt t ?_
     exact We ⟨(andT t),ag,⟨dk,lr,S⟩⟩
    refine Gn t<|Gn t<|Gn t<|Gn t<|Pf t ?_
    exact We ⟨(andF t),ag,⟨dk,lr,S⟩⟩
   intro us kh ⟨eu,ki,S⟩
   refine M ?_
   refine WL.grp 3 [57,58] 59 (boo (((((((([]:Str)==[])&&((([]:Str)==[])&&true))&&true)&&true)&&true)&&((([]:List Str).length:Int)==0))&&true)) ?_ ?_
   ·rcases boolE ((((((([]:Str)==[])&&((([]:Str)==[])&&true))&&true)&&true)&&true)&&((([]:List Str).length:Int)==0)) with bq | bq
    ·refine Gy bq<|M<|Gy bq ?_
     refine WL.w (v:=boo true) (R.ofEq (R.not rfl) rfl)<|Pt bq ?_
     exact We ⟨(andT bq),ag,rfl⟩
    refine Gn bq<|Gn bq<|Pf bq ?_
    exact We ⟨(andF bq),ag,rfl⟩
   intro us
   refine M<|B h fun ew b6 h=>WL.grpw 4 [61,62,63] 64 (boo ew) (fun w=>∃ H':Hp,eu.le H'∧St d f w H' [.box da 62 [(.slice none 0 0),(.slice none 0 0)],.box cr 56 [(str []),(str [])],.box c 54 [(str []),(int 0),(int 0),(int 0),(boo false),(boo false),(.pointer none),(int 0),(.pointer none)]]) ?_ ?_
   ·rcases boolE (((((((([]:Str)==[])&&((([]:Str)==[])&&true))&&true)&&true)&&true)&&((([]:List Str).length:Int)==0))&&true) with aq | aq
    ·replace b6:=condT b6 aq
     refine Gy aq ?_
     refine WL.w (R.loadBN (i:=0) (vs:=[(.slice none 0 0),(.slice none 0 0)]) S rfl rfl lay62 rfl rfl)<|Gy aq ?_
     refine WL.w (R.build [] [(.slice none 0 0),(.slice none 0 0)] bp62 zer62 rfl rfl)<|Gy aq<|B b6 fun kj f3 b6=>W.call S rfl (zAI S.holds (hG.post S.post) (⟨([]:List GAxis),([]:List GEntry)⟩:GTable) (⟨([]:List GAxis),([]:List GEntry)⟩:GTable) Sl.nil Sl.nil Sl.nil Sl.nil f3) ?_
     rintro kk kl f4 f5 S rfl
     refine Pt aq ?_
     exact We ⟨(ob b6),ag,⟨f4,f5,S⟩⟩
    replace b6:=condF b6 aq
    refine Gn aq<|Gn aq<|Gn aq<|Pf aq ?_
    exact We ⟨(ob b6),ag,⟨eu,lr,S⟩⟩
   intro us km ⟨ex,kn,S⟩
   refine M<|B h fun f6 b7 h=>WL.grpw 2 [66] 67 (boo f6) (fun w=>∃ H':Hp,ex.le H'∧St d f w H' [.box da 62 [(.slice none 0 0),(.slice none 0 0)],.box cr 56 [(str []),(str [])],.box c 54 [(str []),(int 0),(int 0),(int 0),(boo false),(boo false),(.pointer none),(int 0),(.pointer none)]]) ?_ ?_
   ·rcases boolE ew with ct | ct
    ·replace b7:=condT b7 ct
     refine Gy ct<|B b7 fun ko f7 b7=>W.call S rfl (zAR S.holds (hG.post S.post)  f7) ?_
     rintro kp kq f8 f9 S rfl
     refine Pt ct ?_
     exact We ⟨(ob b7),ag,⟨f8,f9,S⟩⟩
    replace b7:=condF b7 ct
    refine Gn ct<|Pf ct ?_
    exact We ⟨(ob b7),ag,⟨ex,lr,S⟩⟩
   intro us ks ⟨kt,ku,S⟩
   refine A<|We ?_
   exact WP.ret (Rb h S)
  refine CF d1<|Ws<|Wg<|Le<|A<|We ?_
  rcases condE h with ⟨d4,h⟩ | ⟨d4,h⟩
  ·refine CT d4<|Ws<|Wg<|M<|W.inl (args:=[(ptr c 0),(boo true)]) rfl (N':=33) Tryz.func44 rfl rfl kr rfl<|Ws<|Wg ?_
   refine W.alloc [(str []),(str [])] S zer56 ?_
   intro ga kv S
   refine A<|We<|Ws<|Ws<|Wg<|M<|W.inl (args:=[(ptr c 0)]) rfl (N':=12) Tryz.func38 rfl rfl kr rfl<|Ws<|Wg<|A<|We<|Ws ?_
   refine Wg<|M ?_
   refine WL.w (v:=boo true) (R.ofEq (R.neqPN rfl rfl Tryz.underlying34) rfl)<|M<|Gy rfl<|M<|Gy rfl<|Nn<|Gy rfl<|Fb<|Gy rfl ?_
   refine Lo 3 S ?_
   refine Gy rfl ?_
   refine WL.w (v:=boo false) (R.ofEq (R.neqPN rfl rfl Tryz.underlying51) rfl)<|Pt rfl<|A<|We ?_
   refine WP.ret (In.one rfl rfl ?_)
   replace S:St d f _ k [.box ga 56 [(str []),(str [])],.box bn 56 [(str []),(str [])],.box b0 48 [(int j.fKind),(int j.fN),(str j.fText)],.box c 54 [(str []),(int 0),(int 0),(int 0),(boo false),(boo false),(.pointer none),(int 0),(.pointer none)]]:=(S.pk [0,1,2,3])
   refine WL.w (v:=boo true) (R.ofEq (R.not rfl) rfl)<|M<|Gn rfl<|Gn rfl<|Gn rfl<|Gn rfl<|Gn rfl<|Pt rfl<|We<|WP.condT (b:=true) rfl rfl<|Ws<|Wg ?_
   refine WL.w (R.build [] [(str []),(str [])] bp56 zer56 rfl rfl) ?_
   refine W.store (i:=0) [(str []),(str [])] S rfl rfl rfl lay56 rfl rfl (Nat.le_of_ble_eq_true rfl) rfl ?_
   intro kw S
   refine A<|We ?_
   refine WP.ret (In.two rfl (Res.cellB (i:=0) (cs:=[(str []),(str [])]) S rfl rfl lay56 rfl rfl) rfl ?_)
   replace S:St d f _ k [.box bn 56 [(str []),(str [])],.box b0 48 [(int j.fKind),(int j.fN),(str j.fText)],.box c 54 [(str []),(int 0),(int 0),(int 0),(boo false),(boo false),(.pointer none),(int 0),(.pointer none)]]:=(S.pk [1,2,3])
   refine Ex ?_
   refine Ex ?_
   refine W.store (i:=0) [(str []),(str [])] S rfl rfl rfl lay56 rfl rfl (Nat.le_of_ble_eq_true rfl) rfl ?_
   intro kx S
   refine A<|We ?_
   refine WP.ret (In.two rfl (Res.cellB (i:=0) (cs:=[(str []),(str [])]) S rfl rfl lay56 rfl rfl) rfl ?_)
   replace S:St d f _ k [.box c 54 [(str []),(int 0),(int 0),(int 0),(boo false),(boo false),(.pointer none),(int 0),(.pointer none)]]:=(S.pk [2])
   refine M ?_
   refine Ex ?_
   refine Ex ?_
   refine W.alloc [(str []),(str [])] S zer56 ?_
   intro cu ky S
   refine W.store (i:=0) [(str []),(str [])] S rfl rfl rfl lay56 rfl rfl (Nat.le_of_ble_eq_true rfl) rfl ?_
   intro kz S
   refine A<|We<|Ws<|Wg<|M<|W.inl (args:=[(ptr c 0),(str [104,116,116,112,58,47,47,104,47,97])]) rfl (N':=18) Tryz.func23 rfl rfl kr rfl<|Ws<|Wg ?_
   refine W.alloc [(.slice none 0 0),(.slice none 0 0)] S zer62 ?_
   intro k0 k1 S
   refine A<|We<|Ws<|Ws<|Wg<|M<|W.inl (args:=[(ptr c 0)]) rfl (N':=12) Tryz.func38 rfl rfl kr rfl<|Ws<|Wg<|A<|We<|Ws ?_
   refine Wg<|M ?_
   refine WL.w (v:=boo true) (R.ofEq (R.neqPN rfl rfl Tryz.underlying34) rfl)<|M<|Gy rfl<|M<|Gy rfl<|Nn<|Gy rfl<|Fb<|Gy rfl ?_
   refine Lo 2 S ?_
   refine Gy rfl ?_
   refine WL.w (v:=boo false) (R.ofEq (R.neqPN rfl rfl Tryz.underlying51) rfl)<|Pt rfl<|A<|We ?_
   refine WP.ret (In.one rfl rfl ?_)
   refine WL.w (v:=boo true) (R.ofEq (R.not rfl) rfl)<|We<|WP.condT (b:=true) rfl rfl<|Ws<|Wg ?_
   refine WL.w (R.build [] [(.slice none 0 0),(.slice none 0 0)] bp62 zer62 rfl rfl) ?_
   refine W.store (i:=0) [(.slice none 0 0),(.slice none 0 0)] S rfl rfl rfl lay62 rfl (AllOne.all (l:=[(.slice none 0 0),(.slice none 0 0)]) (.cons rfl (.cons rfl .nil))) (Nat.le_of_ble_eq_true rfl) rfl ?_
   intro k2 S
   refine A<|We ?_
   refine WP.ret (In.two rfl (Res.cellB (i:=0) (cs:=[(.slice none 0 0),(.slice none 0 0)]) S rfl rfl lay62 rfl rfl) rfl ?_)
   replace S:St d f _ k [.box cu 56 [(str []),(str [])],.box c 54 [(str []),(int 0),(int 0),(int 0),(boo false),(boo false),(.pointer none),(int 0),(.pointer none)]]:=(S.pk [1,2])
   refine M ?_
   refine Ex ?_
   refine Ex ?_
   refine W.alloc [(.slice none 0 0),(.slice none 0 0)] S zer62 ?_
   intro db k3 S
   refine W.store (i:=0) [(.slice none 0 0),(.slice none 0 0)] S rfl rfl rfl lay62 rfl (AllOne.all (l:=[(.slice none 0 0),(.slice none 0 0)]) (.cons rfl (.cons rfl .nil))) (Nat.le_of_ble_eq_true rfl) rfl ?_
   intro k4 S
   refine A<|We<|Ws<|Wg<|M ?_
   refine WL.w (v:=boo true) (R.ofEq (R.eql rfl rfl) rfl)<|M<|Gy rfl ?_
   refine WL.w (R.loadBN (i:=1) (vs:=[(str []),(str [])]) S rfl rfl lay56 rfl rfl)<|Gy rfl ?_
   refine WL.w (R.build [] [(str []),(str [])] bp56 zer56 rfl rfl)<|Gy rfl ?_
   refine WL.w (R.eqlA ((([]:Str)==[])&&((([]:Str)==[])&&true)) rfl rfl ps56 fk56 rfl rfl rfl)<|Pt rfl<|M ?_
   refine WL.grpw 4 [36,37,38] 39 (boo (((([]:Str)==[])&&((([]:Str)==[])&&true))&&true)) (fun w=>∃ H':Hp,k.le H'∧St d f w H' [.box db 62 [(.slice none 0 0),(.slice none 0 0)],.box cu 56 [(str []),(str [])],.box c 54 [(str []),(int 0),(int 0),(int 0),(boo false),(boo false),(.pointer none),(int 0),(.pointer none)]]) ?_ ?_
   ·rcases boolE ((([]:Str)==[])&&((([]:Str)==[])&&true)) with ar | ar
    ·refine Gy ar<|M<|Gy ar<|W.inl (args:=[(ptr c 0)]) rfl (N':=12) Tryz.func18 rfl rfl kr rfl<|Ws<|Wg<|A<|We<|Ws<|Wg<|M<|W.inl (args:=[(ptr c 0)]) rfl (N':=12) Tryz.func38 rfl rfl kr rfl ?_
     refine Ws<|Wg<|A<|We<|Ws<|Wg<|M ?_
     refine WL.w (v:=boo true) (R.ofEq (R.neqPN rfl rfl Tryz.underlying34) rfl)<|M<|Gy rfl<|M<|Gy rfl ?_
     refine Nn<|Gy rfl<|Fb<|Gy rfl ?_
     refine Lo 2 S<|Gy rfl ?_
     refine WL.w (v:=boo false) (R.ofEq (R.neqPN rfl rfl Tryz.underlying51) rfl)<|Pt rfl<|A<|We ?_
     refine WP.ret (In.one rfl rfl ?_)
     refine M<|Gn rfl<|Gn rfl<|Gn rfl<|Gn rfl<|Gn rfl<|Pf rfl<|A<|We ?_
     refine WP.ret (In.one rfl rfl ?_)
     refine Gy ar ?_
     refine WL.w (v:=boo true) (R.ofEq (R.not rfl) rfl)<|Pt ar ?_
     exact We ⟨(andT ar),ag,⟨k,lr,S⟩⟩
    refine Gn ar<|Gn ar<|Gn ar<|Pf ar ?_
    exact We ⟨(andF ar),ag,⟨k,lr,S⟩⟩
   intro us k5 ⟨d5,k6,S⟩
   refine M ?_
   refine WL.grpw 4 [41,42,43] 44 (boo ((((([]:Str)==[])&&((([]:Str)==[])&&true))&&true)&&true)) (fun w=>∃ H':Hp,d5.le H'∧St d f w H' [.box db 62 [(.slice none 0 0),(.slice none 0 0)],.box cu 56 [(str []),(str [])],.box c 54 [(str []),(int 0),(int 0),(int 0),(boo false),(boo false),(.pointer none),(int 0),(.pointer none)]]) ?_ ?_
   ·rcases boolE (((([]:Str)==[])&&((([]:Str)==[])&&true))&&true) with au | au
    ·refine Gy au<|M<|Gy au<|W.inl (args:=[(ptr c 0)]) rfl (N':=10) Tryz.func16 rfl rfl kr rfl<|Ws<|Wg<|A<|We<|Ws<|Ws<|Wg<|M ?_
     refine W.inl (args:=[(ptr c 0)]) rfl (N':=12) Tryz.func38 rfl rfl kr rfl<|Ws<|Wg<|A<|We<|Ws<|Wg<|M ?_
     refine WL.w (v:=boo true) (R.ofEq (R.neqPN rfl rfl Tryz.underlying34) rfl)<|M<|Gy rfl<|M ?_
     refine Gy rfl<|Nn<|Gy rfl<|Fb<|Gy rfl ?_
     refine Lo 2 S<|Gy rfl ?_
     refine WL.w (v:=boo false) (R.ofEq (R.neqPN rfl rfl Tryz.underlying51) rfl)<|Pt rfl<|A<|We ?_
     refine WP.ret (In.one rfl rfl ?_)
     refine WL.w (v:=boo true) (R.ofEq (R.not rfl) rfl)<|We<|WP.condT (b:=true) rfl rfl<|Ws<|Wg<|A<|We ?_
     refine WP.ret (In.one rfl rfl ?_)
     refine Gy au ?_
     refine WL.w (v:=boo true) (R.ofEq (R.eql rfl rfl) rfl)<|Pt au ?_
     exact We ⟨(andT au),ag,⟨d5,lr,S⟩⟩
    refine Gn au<|Gn au<|Gn au<|Pf au ?_
    exact We ⟨(andF au),ag,⟨d5,lr,S⟩⟩
   intro us k7 ⟨d6,k8,S⟩
   refine M ?_
   refine WL.grpw 4 [46,47,48] 49 (boo (((((([]:Str)==[])&&((([]:Str)==[])&&true))&&true)&&true)&&true)) (fun w=>∃ H':Hp,d6.le H'∧St d f w H' [.box db 62 [(.slice none 0 0),(.slice none 0 0)],.box cu 56 [(str []),(str [])],.box c 54 [(str []),(int 0),(int 0),(int 0),(boo false),(boo false),(.pointer none),(int 0),(.pointer none)]]) ?_ ?_
   ·rcases boolE ((((([]:Str)==[])&&((([]:Str)==[])&&true))&&true)&&true) with av | av
    ·refine Gy av<|M<|Gy av<|W.inl (args:=[(ptr c 0)]) rfl (N':=11) Tryz.func19 rfl rfl kr rfl<|Ws<|Wg<|A<|We<|Ws<|Ws<|Wg<|M ?_
     refine W.inl (args:=[(ptr c 0)]) rfl (N':=12) Tryz.func38 rfl rfl kr rfl<|Ws<|Wg<|A<|We<|Ws<|Wg<|M ?_
     refine WL.w (v:=boo true) (R.ofEq (R.neqPN rfl rfl Tryz.underlying34) rfl)<|M<|Gy rfl<|M ?_
     refine Gy rfl<|Nn<|Gy rfl<|Fb<|Gy rfl ?_
     refine Lo 2 S<|Gy rfl ?_
     refine WL.w (v:=boo false) (R.ofEq (R.neqPN rfl rfl Tryz.underlying51) rfl)<|Pt rfl<|A<|We ?_
     refine WP.ret (In.one rfl rfl ?_)
     refine WL.w (v:=boo true) (R.ofEq (R.not rfl) rfl)<|We<|WP.condT (b:=true) rfl rfl<|Ws<|Wg<|A<|We ?_
     refine WP.ret (In.one rfl rfl ?_)
     refine Gy av ?_
     refine WL.w (v:=boo true) (R.ofEq (R.eql rfl rfl) rfl)<|Pt av ?_
     exact We ⟨(andT av),ag,⟨d6,lr,S⟩⟩
    refine Gn av<|Gn av<|Gn av<|Pf av ?_
    exact We ⟨(andF av),ag,⟨d6,lr,S⟩⟩
   intro us k9 ⟨dl,la,S⟩
   refine M ?_
   refine WL.grpw 5 [51,52,53,54] 55 (boo ((((((([]:Str)==[])&&((([]:Str)==[])&&true))&&true)&&true)&&true)&&((([]:List Str).length:Int)==0))) (fun w=>∃ H':Hp,dl.le H'∧St d f w H' [.box db 62 [(.slice none 0 0),(.slice none 0 0)],.box cu 56 [(str []),(str [])],.box c 54 [(str []),(int 0),(int 0),(int 0),(boo false),(boo false),(.pointer none),(int 0),(.pointer none)]]) ?_ ?_
   ·rcases boolE (((((([]:Str)==[])&&((([]:Str)==[])&&true))&&true)&&true)&&true) with u | u
    ·refine Gy u<|M<|Gy u<|W.inl (args:=[(ptr c 0)]) rfl (N':=11) Tryz.func20 rfl rfl kr rfl<|Ws<|Wg<|A<|We<|Ws<|Ws<|Wg<|M ?_
     refine W.inl (args:=[(ptr c 0)]) rfl (N':=12) Tryz.func38 rfl rfl kr rfl<|Ws<|Wg<|A<|We<|Ws<|Wg<|M ?_
     refine WL.w (v:=boo true) (R.ofEq (R.neqPN rfl rfl Tryz.underlying34) rfl)<|M<|Gy rfl<|M ?_
     refine Gy rfl<|Nn<|Gy rfl<|Fb<|Gy rfl ?_
     refine Lo 2 S<|Gy rfl ?_
     refine WL.w (v:=boo false) (R.ofEq (R.neqPN rfl rfl Tryz.underlying51) rfl)<|Pt rfl<|A<|We ?_
     refine WP.ret (In.one rfl rfl ?_)
     refine WL.w (v:=boo true) (R.ofEq (R.not rfl) rfl)<|We<|WP.condT (b:=true) rfl rfl<|Ws<|Wg<|A<|We ?_
     refine WP.ret (In.one rfl rfl ?_)
     refine Gy u<|Nq (Sl.nil (α:=Str) (H:=dl))<|Gy u<|Le<|Pt u ?_
     exact We ⟨(andT u),ag,⟨dl,lr,S⟩⟩
    refine Gn u<|Gn u<|Gn u<|Gn u<|Pf u ?_
    exact We ⟨(andF u),ag,⟨dl,lr,S⟩⟩
   intro us lb ⟨ey,lc,S⟩
   refine M ?_
   refine WL.grp 3 [57,58] 59 (boo (((((((([]:Str)==[])&&((([]:Str)==[])&&true))&&true)&&true)&&true)&&((([]:List Str).length:Int)==0))&&true)) ?_ ?_
   ·rcases boolE ((((((([]:Str)==[])&&((([]:Str)==[])&&true))&&true)&&true)&&true)&&((([]:List Str).length:Int)==0)) with br | br
    ·refine Gy br<|M<|Gy br ?_
     refine WL.w (v:=boo true) (R.ofEq (R.not rfl) rfl)<|Pt br ?_
     exact We ⟨(andT br),ag,rfl⟩
    refine Gn br<|Gn br<|Pf br ?_
    exact We ⟨(andF br),ag,rfl⟩
   intro us
   refine M<|B h fun ez b8 h=>WL.grpw 4 [61,62,63] 64 (boo ez) (fun w=>∃ H':Hp,ey.le H'∧St d f w H' [.box db 62 [(.slice none 0 0),(.slice none 0 0)],.box cu 56 [(str []),(str [])],.box c 54 [(str []),(int 0),(int 0),(int 0),(boo false),(boo false),(.pointer none),(int 0),(.pointer none)]]) ?_ ?_
   ·rcases boolE (((((((([]:Str)==[])&&((([]:Str)==[])&&true))&&true)&&true)&&true)&&((([]:List Str).length:Int)==0))&&true) with aw | aw
    ·replace b8:=condT b8 aw
     refine Gy aw ?_
     refine WL.w (R.loadBN (i:=0) (vs:=[(.slice none 0 0),(.slice none 0 0)]) S rfl rfl lay62 rfl rfl)<|Gy aw ?_
     refine WL.w (R.build [] [(.slice none 0 0),(.slice none 0 0)] bp62 zer62 rfl rfl)<|Gy aw<|B b8 fun ld gb b8=>W.call S rfl (zAI S.holds (hG.post S.post) (⟨([]:List GAxis),([]:List GEntry)⟩:GTable) (⟨([]:List GAxis),([]:List GEntry)⟩:GTable) Sl.nil Sl.nil Sl.nil Sl.nil gb) ?_
     rintro lg lh gc gd S rfl
     refine Pt aw ?_
     exact We ⟨(ob b8),ag,⟨gc,gd,S⟩⟩
    replace b8:=condF b8 aw
    refine Gn aw<|Gn aw<|Gn aw<|Pf aw ?_
    exact We ⟨(ob b8),ag,⟨ey,lr,S⟩⟩
   intro us li ⟨e0,lj,S⟩
   refine M<|B h fun ge b9 h=>WL.grpw 2 [66] 67 (boo ge) (fun w=>∃ H':Hp,e0.le H'∧St d f w H' [.box db 62 [(.slice none 0 0),(.slice none 0 0)],.box cu 56 [(str []),(str [])],.box c 54 [(str []),(int 0),(int 0),(int 0),(boo false),(boo false),(.pointer none),(int 0),(.pointer none)]]) ?_ ?_
   ·rcases boolE ez with cv | cv
    ·replace b9:=condT b9 cv
     refine Gy cv<|B b9 fun lk gf b9=>W.call S rfl (zAR S.holds (hG.post S.post)  gf) ?_
     rintro ll lm gg gh S rfl
     refine Pt cv ?_
     exact We ⟨(ob b9),ag,⟨gg,gh,S⟩⟩
    replace b9:=condF b9 cv
    refine Gn cv<|Pf cv ?_
    exact We ⟨(ob b9),ag,⟨e0,lr,S⟩⟩
   intro us ln ⟨lo,lp,S⟩
   refine A<|We ?_
   exact WP.ret (Rb h S)
  refine CF d4<|Wk<|Ws<|Wg ?_
  refine WL.w (R.build [] [(str []),(str [])] bp56 zer56 rfl rfl)<|M<|Fb ?_
  refine Lo 1 S<|W.inl (args:=[(ptr c 0),(int j.fN)]) rfl (N':=26) Tryz.func15 rfl rfl kr rfl<|Ws<|Wg<|A ?_
  refine We<|Ws<|Wb<|Ws<|Wg<|M<|W.inl (args:=[(ptr c 0)]) rfl (N':=12) Tryz.func38 rfl rfl kr rfl<|Ws<|Wg<|A<|We<|Ws ?_
  refine Wg<|M ?_
  refine WL.w (v:=boo true) (R.ofEq (R.neqPN rfl rfl Tryz.underlying34) rfl)<|M<|Gy rfl<|M<|Gy rfl<|Nn<|Gy rfl<|Fb<|Gy rfl ?_
  refine Lo 2 S ?_
  refine Gy rfl ?_
  refine WL.w (v:=boo false) (R.ofEq (R.neqPN rfl rfl Tryz.underlying51) rfl)<|Pt rfl<|A<|We ?_
  refine WP.ret (In.one rfl rfl ?_)
  replace S:St d f _ k [.box bn 56 [(str []),(str [])],.box c 54 [(str []),(int 0),(int 0),(int 0),(boo false),(boo false),(.pointer none),(int 0),(.pointer none)]]:=(S.pk [0,2])
  refine WL.w (v:=boo true) (R.ofEq (R.not rfl) rfl)<|A<|We<|WP.condT (b:=true) rfl rfl<|Ws<|Wg<|A<|We ?_
  refine WP.ret (In.one rfl rfl ?_)
  refine W.store (i:=0) [(str []),(str [])] S rfl rfl rfl lay56 rfl rfl (Nat.le_of_ble_eq_true rfl) rfl ?_
  intro lq S
  refine A<|We ?_
  refine WP.ret (In.two rfl (Res.cellB (i:=0) (cs:=[(str []),(str [])]) S rfl rfl lay56 rfl rfl) rfl ?_)
  replace S:St d f _ k [.box c 54 [(str []),(int 0),(int 0),(int 0),(boo false),(boo false),(.pointer none),(int 0),(.pointer none)]]:=(S.pk [1])
  refine M ?_
  refine Ex ?_
  refine Ex ?_
  refine W.alloc [(str []),(str [])] S zer56 ?_
  intro cw ls S
  refine W.store (i:=0) [(str []),(str [])] S rfl rfl rfl lay56 rfl rfl (Nat.le_of_ble_eq_true rfl) rfl ?_
  intro lu S
  refine A<|We<|Ws<|Wg<|M<|W.inl (args:=[(ptr c 0),(str [104,116,116,112,58,47,47,104,47,97])]) rfl (N':=18) Tryz.func23 rfl rfl kr rfl<|Ws<|Wg ?_
  refine W.alloc [(.slice none 0 0),(.slice none 0 0)] S zer62 ?_
  intro lv lw S
  refine A<|We<|Ws<|Ws<|Wg<|M<|W.inl (args:=[(ptr c 0)]) rfl (N':=12) Tryz.func38 rfl rfl kr rfl<|Ws<|Wg<|A<|We<|Ws ?_
  refine Wg<|M ?_
  refine WL.w (v:=boo true) (R.ofEq (R.neqPN rfl rfl Tryz.underlying34) rfl)<|M<|Gy rfl<|M<|Gy rfl<|Nn<|Gy rfl<|Fb<|Gy rfl ?_
  refine Lo 2 S ?_
  refine Gy rfl ?_
  refine WL.w (v:=boo false) (R.ofEq (R.neqPN rfl rfl Tryz.underlying51) rfl)<|Pt rfl<|A<|We ?_
  refine WP.ret (In.one rfl rfl ?_)
  refine WL.w (v:=boo true) (R.ofEq (R.not rfl) rfl)<|We<|WP.condT (b:=true) rfl rfl<|Ws<|Wg ?_
  refine WL.w (R.build [] [(.slice none 0 0),(.slice none 0 0)] bp62 zer62 rfl rfl) ?_
  refine W.store (i:=0) [(.slice none 0 0),(.slice none 0 0)] S rfl rfl rfl lay62 rfl (AllOne.all (l:=[(.slice none 0 0),(.slice none 0 0)]) (.cons rfl (.cons rfl .nil))) (Nat.le_of_ble_eq_true rfl) rfl ?_
  intro lx S
  refine A<|We ?_
  refine WP.ret (In.two rfl (Res.cellB (i:=0) (cs:=[(.slice none 0 0),(.slice none 0 0)]) S rfl rfl lay62 rfl rfl) rfl ?_)
  replace S:St d f _ k [.box cw 56 [(str []),(str [])],.box c 54 [(str []),(int 0),(int 0),(int 0),(boo false),(boo false),(.pointer none),(int 0),(.pointer none)]]:=(S.pk [1,2])
  refine M ?_
  refine Ex ?_
  refine Ex ?_
  refine W.alloc [(.slice none 0 0),(.slice none 0 0)] S zer62 ?_
  intro dc ly S
  refine W.store (i:=0) [(.slice none 0 0),(.slice none 0 0)] S rfl rfl rfl lay62 rfl (AllOne.all (l:=[(.slice none 0 0),(.slice none 0 0)]) (.cons rfl (.cons rfl .nil))) (Nat.le_of_ble_eq_true rfl) rfl ?_
  intro lz S
  refine A<|We<|Ws<|Wg<|M ?_
  refine WL.w (v:=boo true) (R.ofEq (R.eql rfl rfl) rfl)<|M<|Gy rfl ?_
  refine WL.w (R.loadBN (i:=1) (vs:=[(str []),(str [])]) S rfl rfl lay56 rfl rfl)<|Gy rfl ?_
  refine WL.w (R.build [] [(str []),(str [])] bp56 zer56 rfl rfl)<|Gy rfl ?_
  refine WL.w (R.eqlA ((([]:Str)==[])&&((([]:Str)==[])&&true)) rfl rfl ps56 fk56 rfl rfl rfl)<|Pt rfl<|M ?_
  refine WL.grpw 4 [36,37,38] 39 (boo (((([]:Str)==[])&&((([]:Str)==[])&&true))&&true)) (fun w=>∃ H':Hp,k.le H'∧St d f w H' [.box dc 62 [(.slice none 0 0),(.slice none 0 0)],.box cw 56 [(str []),(str [])],.box c 54 [(str []),(int 0),(int 0),(int 0),(boo false),(boo false),(.pointer none),(int 0),(.pointer none)]]) ?_ ?_
  ·rcases boolE ((([]:Str)==[])&&((([]:Str)==[])&&true)) with ax | ax
   ·refine Gy ax<|M<|Gy ax<|W.inl (args:=[(ptr c 0)]) rfl (N':=12) Tryz.func18 rfl rfl kr rfl<|Ws<|Wg<|A<|We<|Ws<|Wg<|M<|W.inl (args:=[(ptr c 0)]) rfl (N':=12) Tryz.func38 rfl rfl kr rfl ?_
    refine Ws<|Wg<|A<|We<|Ws<|Wg<|M ?_
    refine WL.w (v:=boo true) (R.ofEq (R.neqPN rfl rfl Tryz.underlying34) rfl)<|M<|Gy rfl<|M<|Gy rfl ?_
    refine Nn<|Gy rfl<|Fb<|Gy rfl ?_
    refine Lo 2 S<|Gy rfl ?_
    refine WL.w (v:=boo false) (R.ofEq (R.neqPN rfl rfl Tryz.underlying51) rfl)<|Pt rfl<|A<|We ?_
    refine WP.ret (In.one rfl rfl ?_)
    refine M<|Gn rfl<|Gn rfl<|Gn rfl<|Gn rfl<|Gn rfl<|Pf rfl<|A<|We ?_
    refine WP.ret (In.one rfl rfl ?_)
    refine Gy ax ?_
    refine WL.w (v:=boo true) (R.ofEq (R.not rfl) rfl)<|Pt ax ?_
    exact We ⟨(andT ax),ag,⟨k,lr,S⟩⟩
   refine Gn ax<|Gn ax<|Gn ax<|Pf ax ?_
   exact We ⟨(andF ax),ag,⟨k,lr,S⟩⟩
  intro us l0 ⟨d7,l1,S⟩
  refine M ?_
  refine WL.grpw 4 [41,42,43] 44 (boo ((((([]:Str)==[])&&((([]:Str)==[])&&true))&&true)&&true)) (fun w=>∃ H':Hp,d7.le H'∧St d f w H' [.box dc 62 [(.slice none 0 0),(.slice none 0 0)],.box cw 56 [(str []),(str [])],.box c 54 [(str []),(int 0),(int 0),(int 0),(boo false),(boo false),(.pointer none),(int 0),(.pointer none)]]) ?_ ?_
  ·rcases boolE (((([]:Str)==[])&&((([]:Str)==[])&&true))&&true) with ay | ay
   ·refine Gy ay<|M<|Gy ay<|W.inl (args:=[(ptr c 0)]) rfl (N':=10) Tryz.func16 rfl rfl kr rfl<|Ws<|Wg<|A<|We<|Ws<|Ws<|Wg<|M ?_
    refine W.inl (args:=[(ptr c 0)]) rfl (N':=12) Tryz.func38 rfl rfl kr rfl<|Ws<|Wg<|A<|We<|Ws<|Wg<|M ?_
    refine WL.w (v:=boo true) (R.ofEq (R.neqPN rfl rfl Tryz.underlying34) rfl)<|M<|Gy rfl<|M ?_
    refine Gy rfl<|Nn<|Gy rfl<|Fb<|Gy rfl ?_
    refine Lo 2 S<|Gy rfl ?_
    refine WL.w (v:=boo false) (R.ofEq (R.neqPN rfl rfl Tryz.underlying51) rfl)<|Pt rfl<|A<|We ?_
    refine WP.ret (In.one rfl rfl ?_)
    refine WL.w (v:=boo true) (R.ofEq (R.not rfl) rfl)<|We<|WP.condT (b:=true) rfl rfl<|Ws<|Wg<|A<|We ?_
    refine WP.ret (In.one rfl rfl ?_)
    refine Gy ay ?_
    refine WL.w (v:=boo true) (R.ofEq (R.eql rfl rfl) rfl)<|Pt ay ?_
    exact We ⟨(andT ay),ag,⟨d7,lr,S⟩⟩
   refine Gn ay<|Gn ay<|Gn ay<|Pf ay ?_
   exact We ⟨(andF ay),ag,⟨d7,lr,S⟩⟩
  intro us l2 ⟨d8,l3,S⟩
  refine M ?_
  refine WL.grpw 4 [46,47,48] 49 (boo (((((([]:Str)==[])&&((([]:Str)==[])&&true))&&true)&&true)&&true)) (fun w=>∃ H':Hp,d8.le H'∧St d f w H' [.box dc 62 [(.slice none 0 0),(.slice none 0 0)],.box cw 56 [(str []),(str [])],.box c 54 [(str []),(int 0),(int 0),(int 0),(boo false),(boo false),(.pointer none),(int 0),(.pointer none)]]) ?_ ?_
  ·rcases boolE ((((([]:Str)==[])&&((([]:Str)==[])&&true))&&true)&&true) with az | az
   ·refine Gy az<|M<|Gy az<|W.inl (args:=[(ptr c 0)]) rfl (N':=11) Tryz.func19 rfl rfl kr rfl<|Ws<|Wg<|A<|We<|Ws<|Ws<|Wg<|M ?_
    refine W.inl (args:=[(ptr c 0)]) rfl (N':=12) Tryz.func38 rfl rfl kr rfl<|Ws<|Wg<|A<|We<|Ws<|Wg<|M ?_
    refine WL.w (v:=boo true) (R.ofEq (R.neqPN rfl rfl Tryz.underlying34) rfl)<|M<|Gy rfl<|M ?_
    refine Gy rfl<|Nn<|Gy rfl<|Fb<|Gy rfl ?_
    refine Lo 2 S<|Gy rfl ?_
    refine WL.w (v:=boo false) (R.ofEq (R.neqPN rfl rfl Tryz.underlying51) rfl)<|Pt rfl<|A<|We ?_
    refine WP.ret (In.one rfl rfl ?_)
    refine WL.w (v:=boo true) (R.ofEq (R.not rfl) rfl)<|We<|WP.condT (b:=true) rfl rfl<|Ws<|Wg<|A<|We ?_
    refine WP.ret (In.one rfl rfl ?_)
    refine Gy az ?_
    refine WL.w (v:=boo true) (R.ofEq (R.eql rfl rfl) rfl)<|Pt az ?_
    exact We ⟨(andT az),ag,⟨d8,lr,S⟩⟩
   refine Gn az<|Gn az<|Gn az<|Pf az ?_
   exact We ⟨(andF az),ag,⟨d8,lr,S⟩⟩
  intro us l4 ⟨dm,l5,S⟩
  refine M ?_
  refine WL.grpw 5 [51,52,53,54] 55 (boo ((((((([]:Str)==[])&&((([]:Str)==[])&&true))&&true)&&true)&&true)&&((([]:List Str).length:Int)==0))) (fun w=>∃ H':Hp,dm.le H'∧St d f w H' [.box dc 62 [(.slice none 0 0),(.slice none 0 0)],.box cw 56 [(str []),(str [])],.box c 54 [(str []),(int 0),(int 0),(int 0),(boo false),(boo false),(.pointer none),(int 0),(.pointer none)]]) ?_ ?_
  ·rcases boolE (((((([]:Str)==[])&&((([]:Str)==[])&&true))&&true)&&true)&&true) with x | x
   ·refine Gy x<|M<|Gy x<|W.inl (args:=[(ptr c 0)]) rfl (N':=11) Tryz.func20 rfl rfl kr rfl<|Ws<|Wg<|A<|We<|Ws<|Ws<|Wg<|M ?_
    refine W.inl (args:=[(ptr c 0)]) rfl (N':=12) Tryz.func38 rfl rfl kr rfl<|Ws<|Wg<|A<|We<|Ws<|Wg<|M ?_
    refine WL.w (v:=boo true) (R.ofEq (R.neqPN rfl rfl Tryz.underlying34) rfl)<|M<|Gy rfl<|M ?_
    refine Gy rfl<|Nn<|Gy rfl<|Fb<|Gy rfl ?_
    refine Lo 2 S<|Gy rfl ?_
    refine WL.w (v:=boo false) (R.ofEq (R.neqPN rfl rfl Tryz.underlying51) rfl)<|Pt rfl<|A<|We ?_
    refine WP.ret (In.one rfl rfl ?_)
    refine WL.w (v:=boo true) (R.ofEq (R.not rfl) rfl)<|We<|WP.condT (b:=true) rfl rfl<|Ws<|Wg<|A<|We ?_
    refine WP.ret (In.one rfl rfl ?_)
    refine Gy x<|Nq (Sl.nil (α:=Str) (H:=dm))<|Gy x<|Le<|Pt x ?_
    exact We ⟨(andT x),ag,⟨dm,lr,S⟩⟩
   refine Gn x<|Gn x<|Gn x<|Gn x<|Pf x ?_
   exact We ⟨(andF x),ag,⟨dm,lr,S⟩⟩
  intro us l6 ⟨e1,l7,S⟩
  refine M ?_
  refine WL.grp 3 [57,58] 59 (boo (((((((([]:Str)==[])&&((([]:Str)==[])&&true))&&true)&&true)&&true)&&((([]:List Str).length:Int)==0))&&true)) ?_ ?_
  ·rcases boolE ((((((([]:Str)==[])&&((([]:Str)==[])&&true))&&true)&&true)&&true)&&((([]:List Str).length:Int)==0)) with bs | bs
   ·refine Gy bs<|M<|Gy bs ?_
    refine WL.w (v:=boo true) (R.ofEq (R.not rfl) rfl)<|Pt bs ?_
    exact We ⟨(andT bs),ag,rfl⟩
   refine Gn bs<|Gn bs<|Pf bs ?_
   exact We ⟨(andF bs),ag,rfl⟩
  intro us
  refine M<|B h fun e2 ca h=>WL.grpw 4 [61,62,63] 64 (boo e2) (fun w=>∃ H':Hp,e1.le H'∧St d f w H' [.box dc 62 [(.slice none 0 0),(.slice none 0 0)],.box cw 56 [(str []),(str [])],.box c 54 [(str []),(int 0),(int 0),(int 0),(boo false),(boo false),(.pointer none),(int 0),(.pointer none)]]) ?_ ?_
  ·rcases boolE (((((((([]:Str)==[])&&((([]:Str)==[])&&true))&&true)&&true)&&true)&&((([]:List Str).length:Int)==0))&&true) with a0 | a0
   ·replace ca:=condT ca a0
    refine Gy a0 ?_
    refine WL.w (R.loadBN (i:=0) (vs:=[(.slice none 0 0),(.slice none 0 0)]) S rfl rfl lay62 rfl rfl)<|Gy a0 ?_
    refine WL.w (R.build [] [(.slice none 0 0),(.slice none 0 0)] bp62 zer62 rfl rfl)<|Gy a0<|B ca fun l8 gi ca=>W.call S rfl (zAI S.holds (hG.post S.post) (⟨([]:List GAxis),([]:List GEntry)⟩:GTable) (⟨([]:List GAxis),([]:List GEntry)⟩:GTable) Sl.nil Sl.nil Sl.nil Sl.nil gi) ?_
    rintro l9 ma gj gk S rfl
    refine Pt a0 ?_
    exact We ⟨(ob ca),ag,⟨gj,gk,S⟩⟩
   replace ca:=condF ca a0
   refine Gn a0<|Gn a0<|Gn a0<|Pf a0 ?_
   exact We ⟨(ob ca),ag,⟨e1,lr,S⟩⟩
  intro us mb ⟨e3,mc,S⟩
  refine M<|B h fun gl cb h=>WL.grpw 2 [66] 67 (boo gl) (fun w=>∃ H':Hp,e3.le H'∧St d f w H' [.box dc 62 [(.slice none 0 0),(.slice none 0 0)],.box cw 56 [(str []),(str [])],.box c 54 [(str []),(int 0),(int 0),(int 0),(boo false),(boo false),(.pointer none),(int 0),(.pointer none)]]) ?_ ?_
  ·rcases boolE e2 with cx | cx
   ·replace cb:=condT cb cx
    refine Gy cx<|B cb fun md gm cb=>W.call S rfl (zAR S.holds (hG.post S.post)  gm) ?_
    rintro me mf gn go S rfl
    refine Pt cx ?_
    exact We ⟨(ob cb),ag,⟨gn,go,S⟩⟩
   replace cb:=condF cb cx
   refine Gn cx<|Pf cx ?_
   exact We ⟨(ob cb),ag,⟨e3,lr,S⟩⟩
  intro us mg ⟨mh,mi,S⟩
  refine A<|We ?_
  exact WP.ret (Rb h S)
 refine CF du<|Wk<|Ws<|Wg<|M ?_
 refine WL.w (R.loadBN (i:=1) (vs:=[(int j.fKind),(int j.fN),(str j.fText)]) S rfl rfl lay48 rfl rfl)<|W.inl (args:=[(.pointer none),(agg [(int j.fKind),(int j.fN),(str j.fText)])]) rfl (N':=41) Tryz.func22 rfl rfl kr rfl<|Ws<|Wg ?_
 refine W.box [(int j.fKind),(int j.fN),(str j.fText)] S rfl rfl ?_
 intro cc mj S
 refine W.alloc [(str []),(str [])] S zer56 ?_
 intro bt ml S
 refine A<|We<|Ws<|Ws<|Wg ?_
 refine WL.w (R.loadBN (i:=1) (vs:=[(int j.fKind),(int j.fN),(str j.fText)]) S rfl rfl lay48 rfl rfl)<|B h fun mm gp h=>W.call S rfl (zD8 S.holds (hG.post S.post) j gp) ?_
 rintro mn mo o mp S rfl
 refine We<|Wb<|Ws<|Wg<|Le<|A<|We ?_
 rcases condE h with ⟨d9,h⟩ | ⟨d9,h⟩
 ·refine CT d9<|Ws<|Wg<|M<|Fb ?_
  refine Lo 1 S<|W.inl (args:=[(.pointer none),(str j.fText)]) rfl (N':=160) Tryz.func26 rfl rfl kr rfl<|Ws<|Wg ?_
  refine W.alloc [(str []),(str [])] S zer56 ?_
  intro gq mq S
  refine A<|We<|Ws<|Ws<|Wg<|M<|W.inl (args:=[(.pointer none)]) rfl (N':=12) Tryz.func38 rfl rfl kr rfl<|Ws<|Wg<|A<|We<|Ws ?_
  refine Wg<|M ?_
  refine WL.w (v:=boo false) (R.ofEq (R.neqPN rfl rfl Tryz.underlying34) rfl)<|M<|Gn rfl<|Gn rfl<|Gn rfl<|Gn rfl<|Gn rfl<|Pf rfl<|A<|We ?_
  refine WP.ret (In.one rfl rfl ?_)
  replace S:St d f _ o [.box gq 56 [(str []),(str [])],.box bt 56 [(str []),(str [])],.box cc 48 [(int j.fKind),(int j.fN),(str j.fText)]]:=(S.pk [0,1,2])
  refine WL.w (v:=boo true) (R.ofEq (R.not rfl) rfl)<|M<|Gn rfl<|Gn rfl<|Gn rfl<|Gn rfl<|Gn rfl<|Pt rfl<|We<|WP.condT (b:=true) rfl rfl<|Ws<|Wg ?_
  refine WL.w (R.build [] [(str []),(str [])] bp56 zer56 rfl rfl) ?_
  refine W.store (i:=0) [(str []),(str [])] S rfl rfl rfl lay56 rfl rfl (Nat.le_of_ble_eq_true rfl) rfl ?_
  intro mr S
  refine A<|We ?_
  refine WP.ret (In.two rfl (Res.cellB (i:=0) (cs:=[(str []),(str [])]) S rfl rfl lay56 rfl rfl) rfl ?_)
  replace S:St d f _ o [.box bt 56 [(str []),(str [])],.box cc 48 [(int j.fKind),(int j.fN),(str j.fText)]]:=(S.pk [1,2])
  refine Ex ?_
  refine Ex ?_
  refine W.store (i:=0) [(str []),(str [])] S rfl rfl rfl lay56 rfl rfl (Nat.le_of_ble_eq_true rfl) rfl ?_
  intro ms S
  refine A<|We ?_
  refine WP.ret (In.two rfl (Res.cellB (i:=0) (cs:=[(str []),(str [])]) S rfl rfl lay56 rfl rfl) rfl ?_)
  replace S:St d f _ o []:=(S.pk [])
  refine M ?_
  refine Ex ?_
  refine Ex ?_
  refine W.alloc [(str []),(str [])] S zer56 ?_
  intro cy mt S
  refine W.store (i:=0) [(str []),(str [])] S rfl rfl rfl lay56 rfl rfl (Nat.le_of_ble_eq_true rfl) rfl ?_
  intro mu S
  refine A<|We<|Ws<|Wg<|M<|W.inl (args:=[(.pointer none),(str [104,116,116,112,58,47,47,104,47,97])]) rfl (N':=18) Tryz.func23 rfl rfl kr rfl<|Ws<|Wg ?_
  refine W.alloc [(.slice none 0 0),(.slice none 0 0)] S zer62 ?_
  intro mw mx S
  refine A<|We<|Ws<|Ws<|Wg<|M<|W.inl (args:=[(.pointer none)]) rfl (N':=12) Tryz.func38 rfl rfl kr rfl<|Ws<|Wg<|A<|We<|Ws ?_
  refine Wg<|M ?_
  refine WL.w (v:=boo false) (R.ofEq (R.neqPN rfl rfl Tryz.underlying34) rfl)<|M<|Gn rfl<|Gn rfl<|Gn rfl<|Gn rfl<|Gn rfl<|Pf rfl<|A<|We ?_
  refine WP.ret (In.one rfl rfl ?_)
  refine WL.w (v:=boo true) (R.ofEq (R.not rfl) rfl)<|We<|WP.condT (b:=true) rfl rfl<|Ws<|Wg ?_
  refine WL.w (R.build [] [(.slice none 0 0),(.slice none 0 0)] bp62 zer62 rfl rfl) ?_
  refine W.store (i:=0) [(.slice none 0 0),(.slice none 0 0)] S rfl rfl rfl lay62 rfl (AllOne.all (l:=[(.slice none 0 0),(.slice none 0 0)]) (.cons rfl (.cons rfl .nil))) (Nat.le_of_ble_eq_true rfl) rfl ?_
  intro my S
  refine A<|We ?_
  refine WP.ret (In.two rfl (Res.cellB (i:=0) (cs:=[(.slice none 0 0),(.slice none 0 0)]) S rfl rfl lay62 rfl rfl) rfl ?_)
  replace S:St d f _ o [.box cy 56 [(str []),(str [])]]:=(S.pk [1])
  refine M ?_
  refine Ex ?_
  refine Ex ?_
  refine W.alloc [(.slice none 0 0),(.slice none 0 0)] S zer62 ?_
  intro dd mz S
  refine W.store (i:=0) [(.slice none 0 0),(.slice none 0 0)] S rfl rfl rfl lay62 rfl (AllOne.all (l:=[(.slice none 0 0),(.slice none 0 0)]) (.cons rfl (.cons rfl .nil))) (Nat.le_of_ble_eq_true rfl) rfl ?_
  intro m0 S
  refine A<|We<|Ws<|Wg<|M ?_
  refine WL.w (v:=boo true) (R.ofEq (R.eql rfl rfl) rfl)<|M<|Gy rfl ?_
  refine WL.w (R.loadBN (i:=1) (vs:=[(str []),(str [])]) S rfl rfl lay56 rfl rfl)<|Gy rfl ?_
  refine WL.w (R.build [] [(str []),(str [])] bp56 zer56 rfl rfl)<|Gy rfl ?_
  refine WL.w (R.eqlA ((([]:Str)==[])&&((([]:Str)==[])&&true)) rfl rfl ps56 fk56 rfl rfl rfl)<|Pt rfl<|M ?_
  refine WL.grpw 4 [36,37,38] 39 (boo (((([]:Str)==[])&&((([]:Str)==[])&&true))&&true)) (fun w=>∃ H':Hp,o.le H'∧St d f w H' [.box dd 62 [(.slice none 0 0),(.slice none 0 0)],.box cy 56 [(str []),(str [])]]) ?_ ?_
  ·rcases boolE ((([]:Str)==[])&&((([]:Str)==[])&&true)) with a1 | a1
   ·refine Gy a1<|M<|Gy a1<|W.inl (args:=[(.pointer none)]) rfl (N':=12) Tryz.func18 rfl rfl kr rfl<|Ws<|Wg<|A<|We<|Ws<|Wg<|M<|W.inl (args:=[(.pointer none)]) rfl (N':=12) Tryz.func38 rfl rfl kr rfl ?_
    refine Ws<|Wg<|A<|We<|Ws<|Wg<|M ?_
    refine WL.w (v:=boo false) (R.ofEq (R.neqPN rfl rfl Tryz.underlying34) rfl)<|M<|Gn rfl<|Gn rfl<|Gn rfl ?_
    refine Gn rfl<|Gn rfl<|Pf rfl<|A<|We ?_
    refine WP.ret (In.one rfl rfl ?_)
    refine M<|Gn rfl<|Gn rfl<|Gn rfl<|Gn rfl<|Gn rfl<|Pf rfl<|A<|We ?_
    refine WP.ret (In.one rfl rfl ?_)
    refine Gy a1 ?_
    refine WL.w (v:=boo true) (R.ofEq (R.not rfl) rfl)<|Pt a1 ?_
    exact We ⟨(andT a1),ag,⟨o,lr,S⟩⟩
   refine Gn a1<|Gn a1<|Gn a1<|Pf a1 ?_
   exact We ⟨(andF a1),ag,⟨o,lr,S⟩⟩
  intro us m1 ⟨ea,m2,S⟩
  refine M ?_
  refine WL.grpw 4 [41,42,43] 44 (boo ((((([]:Str)==[])&&((([]:Str)==[])&&true))&&true)&&true)) (fun w=>∃ H':Hp,ea.le H'∧St d f w H' [.box dd 62 [(.slice none 0 0),(.slice none 0 0)],.box cy 56 [(str []),(str [])]]) ?_ ?_
  ·rcases boolE (((([]:Str)==[])&&((([]:Str)==[])&&true))&&true) with a2 | a2
   ·refine Gy a2<|M<|Gy a2<|W.inl (args:=[(.pointer none)]) rfl (N':=10) Tryz.func16 rfl rfl kr rfl<|Ws<|Wg<|A<|We<|Ws<|Ws<|Wg<|M ?_
    refine W.inl (args:=[(.pointer none)]) rfl (N':=12) Tryz.func38 rfl rfl kr rfl<|Ws<|Wg<|A<|We<|Ws<|Wg<|M ?_
    refine WL.w (v:=boo false) (R.ofEq (R.neqPN rfl rfl Tryz.underlying34) rfl)<|M<|Gn rfl<|Gn rfl ?_
    refine Gn rfl<|Gn rfl<|Gn rfl<|Pf rfl<|A<|We ?_
    refine WP.ret (In.one rfl rfl ?_)
    refine WL.w (v:=boo true) (R.ofEq (R.not rfl) rfl)<|We<|WP.condT (b:=true) rfl rfl<|Ws<|Wg<|A<|We ?_
    refine WP.ret (In.one rfl rfl ?_)
    refine Gy a2 ?_
    refine WL.w (v:=boo true) (R.ofEq (R.eql rfl rfl) rfl)<|Pt a2 ?_
    exact We ⟨(andT a2),ag,⟨ea,lr,S⟩⟩
   refine Gn a2<|Gn a2<|Gn a2<|Pf a2 ?_
   exact We ⟨(andF a2),ag,⟨ea,lr,S⟩⟩
  intro us m3 ⟨eb,m4,S⟩
  refine M ?_
  refine WL.grpw 4 [46,47,48] 49 (boo (((((([]:Str)==[])&&((([]:Str)==[])&&true))&&true)&&true)&&true)) (fun w=>∃ H':Hp,eb.le H'∧St d f w H' [.box dd 62 [(.slice none 0 0),(.slice none 0 0)],.box cy 56 [(str []),(str [])]]) ?_ ?_
  ·rcases boolE ((((([]:Str)==[])&&((([]:Str)==[])&&true))&&true)&&true) with a3 | a3
   ·refine Gy a3<|M<|Gy a3<|W.inl (args:=[(.pointer none)]) rfl (N':=11) Tryz.func19 rfl rfl kr rfl<|Ws<|Wg<|A<|We<|Ws<|Ws<|Wg<|M ?_
    refine W.inl (args:=[(.pointer none)]) rfl (N':=12) Tryz.func38 rfl rfl kr rfl<|Ws<|Wg<|A<|We<|Ws<|Wg<|M ?_
    refine WL.w (v:=boo false) (R.ofEq (R.neqPN rfl rfl Tryz.underlying34) rfl)<|M<|Gn rfl<|Gn rfl ?_
    refine Gn rfl<|Gn rfl<|Gn rfl<|Pf rfl<|A<|We ?_
    refine WP.ret (In.one rfl rfl ?_)
    refine WL.w (v:=boo true) (R.ofEq (R.not rfl) rfl)<|We<|WP.condT (b:=true) rfl rfl<|Ws<|Wg<|A<|We ?_
    refine WP.ret (In.one rfl rfl ?_)
    refine Gy a3 ?_
    refine WL.w (v:=boo true) (R.ofEq (R.eql rfl rfl) rfl)<|Pt a3 ?_
    exact We ⟨(andT a3),ag,⟨eb,lr,S⟩⟩
   refine Gn a3<|Gn a3<|Gn a3<|Pf a3 ?_
   exact We ⟨(andF a3),ag,⟨eb,lr,S⟩⟩
  intro us m5 ⟨dn,m6,S⟩
  refine M ?_
  refine WL.grpw 5 [51,52,53,54] 55 (boo ((((((([]:Str)==[])&&((([]:Str)==[])&&true))&&true)&&true)&&true)&&((([]:List Str).length:Int)==0))) (fun w=>∃ H':Hp,dn.le H'∧St d f w H' [.box dd 62 [(.slice none 0 0),(.slice none 0 0)],.box cy 56 [(str []),(str [])]]) ?_ ?_
  ·rcases boolE (((((([]:Str)==[])&&((([]:Str)==[])&&true))&&true)&&true)&&true) with z | z
   ·refine Gy z<|M<|Gy z<|W.inl (args:=[(.pointer none)]) rfl (N':=11) Tryz.func20 rfl rfl kr rfl<|Ws<|Wg<|A<|We<|Ws<|Ws<|Wg<|M ?_
    refine W.inl (args:=[(.pointer none)]) rfl (N':=12) Tryz.func38 rfl rfl kr rfl<|Ws<|Wg<|A<|We<|Ws<|Wg<|M ?_
    refine WL.w (v:=boo false) (R.ofEq (R.neqPN rfl rfl Tryz.underlying34) rfl)<|M<|Gn rfl<|Gn rfl ?_
    refine Gn rfl<|Gn rfl<|Gn rfl<|Pf rfl<|A<|We ?_
    refine WP.ret (In.one rfl rfl ?_)
    refine WL.w (v:=boo true) (R.ofEq (R.not rfl) rfl)<|We<|WP.condT (b:=true) rfl rfl<|Ws<|Wg<|A<|We ?_
    refine WP.ret (In.one rfl rfl ?_)
    refine Gy z<|Nq (Sl.nil (α:=Str) (H:=dn))<|Gy z<|Le<|Pt z ?_
    exact We ⟨(andT z),ag,⟨dn,lr,S⟩⟩
   refine Gn z<|Gn z<|Gn z<|Gn z<|Pf z ?_
   exact We ⟨(andF z),ag,⟨dn,lr,S⟩⟩
  intro us m7 ⟨e4,m8,S⟩
  refine M ?_
  refine WL.grp 3 [57,58] 59 (boo (((((((([]:Str)==[])&&((([]:Str)==[])&&true))&&true)&&true)&&true)&&((([]:List Str).length:Int)==0))&&true)) ?_ ?_
  ·rcases boolE ((((((([]:Str)==[])&&((([]:Str)==[])&&true))&&true)&&true)&&true)&&((([]:List Str).length:Int)==0)) with bu | bu
   ·refine Gy bu<|M<|Gy bu ?_
    refine WL.w (v:=boo true) (R.ofEq (R.not rfl) rfl)<|Pt bu ?_
    exact We ⟨(andT bu),ag,rfl⟩
   refine Gn bu<|Gn bu<|Pf bu ?_
   exact We ⟨(andF bu),ag,rfl⟩
  intro us
  refine M<|B h fun e5 cd h=>WL.grpw 4 [61,62,63] 64 (boo e5) (fun w=>∃ H':Hp,e4.le H'∧St d f w H' [.box dd 62 [(.slice none 0 0),(.slice none 0 0)],.box cy 56 [(str []),(str [])]]) ?_ ?_
  ·rcases boolE (((((((([]:Str)==[])&&((([]:Str)==[])&&true))&&true)&&true)&&true)&&((([]:List Str).length:Int)==0))&&true) with a4 | a4
   ·replace cd:=condT cd a4
    refine Gy a4 ?_
    refine WL.w (R.loadBN (i:=0) (vs:=[(.slice none 0 0),(.slice none 0 0)]) S rfl rfl lay62 rfl rfl)<|Gy a4 ?_
    refine WL.w (R.build [] [(.slice none 0 0),(.slice none 0 0)] bp62 zer62 rfl rfl)<|Gy a4<|B cd fun m9 gr cd=>W.call S rfl (zAI S.holds (hG.post S.post) (⟨([]:List GAxis),([]:List GEntry)⟩:GTable) (⟨([]:List GAxis),([]:List GEntry)⟩:GTable) Sl.nil Sl.nil Sl.nil Sl.nil gr) ?_
    rintro na nb gs gt S rfl
    refine Pt a4 ?_
    exact We ⟨(ob cd),ag,⟨gs,gt,S⟩⟩
   replace cd:=condF cd a4
   refine Gn a4<|Gn a4<|Gn a4<|Pf a4 ?_
   exact We ⟨(ob cd),ag,⟨e4,lr,S⟩⟩
  intro us nc ⟨e6,nd,S⟩
  refine M<|B h fun gu ce h=>WL.grpw 2 [66] 67 (boo gu) (fun w=>∃ H':Hp,e6.le H'∧St d f w H' [.box dd 62 [(.slice none 0 0),(.slice none 0 0)],.box cy 56 [(str []),(str [])]]) ?_ ?_
  ·rcases boolE e5 with cz | cz
   ·replace ce:=condT ce cz
    refine Gy cz<|B ce fun ne gv ce=>W.call S rfl (zAR S.holds (hG.post S.post)  gv) ?_
    rintro nf ng gw gx S rfl
    refine Pt cz ?_
    exact We ⟨(ob ce),ag,⟨gw,gx,S⟩⟩
   replace ce:=condF ce cz
   refine Gn cz<|Pf cz ?_
   exact We ⟨(ob ce),ag,⟨e6,lr,S⟩⟩
  intro us nh ⟨ni,nj,S⟩
  refine A<|We ?_
  exact WP.ret (Rb h S)
 refine CF d9<|Ws<|Wg<|Le<|A<|We ?_
 rcases condE h with ⟨ec,h⟩ | ⟨ec,h⟩
 ·refine CT ec<|Ws<|Wg<|M<|Fb ?_
  refine Lo 1 S<|W.inl (args:=[(.pointer none),(str j.fText)]) rfl (N':=109) Tryz.func27 rfl rfl kr rfl<|Ws<|Wg ?_
  refine W.alloc [(str []),(str [])] S zer56 ?_
  intro gy nk S
  refine A<|We<|Ws<|Ws<|Wg<|M<|W.inl (args:=[(.pointer none)]) rfl (N':=12) Tryz.func38 rfl rfl kr rfl<|Ws<|Wg<|A<|We<|Ws ?_
  refine Wg<|M ?_
  refine WL.w (v:=boo false) (R.ofEq (R.neqPN rfl rfl Tryz.underlying34) rfl)<|M<|Gn rfl<|Gn rfl<|Gn rfl<|Gn rfl<|Gn rfl<|Pf rfl<|A<|We ?_
  refine WP.ret (In.one rfl rfl ?_)
  replace S:St d f _ o [.box gy 56 [(str []),(str [])],.box bt 56 [(str []),(str [])],.box cc 48 [(int j.fKind),(int j.fN),(str j.fText)]]:=(S.pk [0,1,2])
  refine WL.w (v:=boo true) (R.ofEq (R.not rfl) rfl)<|M<|Gn rfl<|Gn rfl<|Gn rfl<|Gn rfl<|Gn rfl<|Pt rfl<|We<|WP.condT (b:=true) rfl rfl<|Ws<|Wg ?_
  refine WL.w (R.build [] [(str []),(str [])] bp56 zer56 rfl rfl) ?_
  refine W.store (i:=0) [(str []),(str [])] S rfl rfl rfl lay56 rfl rfl (Nat.le_of_ble_eq_true rfl) rfl ?_
  intro nl S
  refine A<|We ?_
  refine WP.ret (In.two rfl (Res.cellB (i:=0) (cs:=[(str []),(str [])]) S rfl rfl lay56 rfl rfl) rfl ?_)
  replace S:St d f _ o [.box bt 56 [(str []),(str [])],.box cc 48 [(int j.fKind),(int j.fN),(str j.fText)]]:=(S.pk [1,2])
  refine Ex ?_
  refine Ex ?_
  refine W.store (i:=0) [(str []),(str [])] S rfl rfl rfl lay56 rfl rfl (Nat.le_of_ble_eq_true rfl) rfl ?_
  intro nm S
  refine A<|We ?_
  refine WP.ret (In.two rfl (Res.cellB (i:=0) (cs:=[(str []),(str [])]) S rfl rfl lay56 rfl rfl) rfl ?_)
  replace S:St d f _ o []:=(S.pk [])
  refine M ?_
  refine Ex ?_
  refine Ex ?_
  refine W.alloc [(str []),(str [])] S zer56 ?_
  intro c0 nn S
  refine W.store (i:=0) [(str []),(str [])] S rfl rfl rfl lay56 rfl rfl (Nat.le_of_ble_eq_true rfl) rfl ?_
  intro no S
  refine A<|We<|Ws<|Wg<|M<|W.inl (args:=[(.pointer none),(str [104,116,116,112,58,47,47,104,47,97])]) rfl (N':=18) Tryz.func23 rfl rfl kr rfl<|Ws<|Wg ?_
  refine W.alloc [(.slice none 0 0),(.slice none 0 0)] S zer62 ?_
  intro np nq S
  refine A<|We<|Ws<|Ws<|Wg<|M<|W.inl (args:=[(.pointer none)]) rfl (N':=12) Tryz.func38 rfl rfl kr rfl<|Ws<|Wg<|A<|We<|Ws ?_
  refine Wg<|M ?_
  refine WL.w (v:=boo false) (R.ofEq (R.neqPN rfl rfl Tryz.underlying34) rfl)<|M<|Gn rfl<|Gn rfl<|Gn rfl<|Gn rfl<|Gn rfl<|Pf rfl<|A<|We ?_
  refine WP.ret (In.one rfl rfl ?_)
  refine WL.w (v:=boo true) (R.ofEq (R.not rfl) rfl)<|We<|WP.condT (b:=true) rfl rfl<|Ws<|Wg ?_
  refine WL.w (R.build [] [(.slice none 0 0),(.slice none 0 0)] bp62 zer62 rfl rfl) ?_
  refine W.store (i:=0) [(.slice none 0 0),(.slice none 0 0)] S rfl rfl rfl lay62 rfl (AllOne.all (l:=[(.slice none 0 0),(.slice none 0 0)]) (.cons rfl (.cons rfl .nil))) (Nat.le_of_ble_eq_true rfl) rfl ?_
  intro nr S
  refine A<|We ?_
  refine WP.ret (In.two rfl (Res.cellB (i:=0) (cs:=[(.slice none 0 0),(.slice none 0 0)]) S rfl rfl lay62 rfl rfl) rfl ?_)
  replace S:St d f _ o [.box c0 56 [(str []),(str [])]]:=(S.pk [1])
  refine M ?_
  refine Ex ?_
  refine Ex ?_
  refine W.alloc [(.slice none 0 0),(.slice none 0 0)] S zer62 ?_
  intro de ns S
  refine W.store (i:=0) [(.slice none 0 0),(.slice none 0 0)] S rfl rfl rfl lay62 rfl (AllOne.all (l:=[(.slice none 0 0),(.slice none 0 0)]) (.cons rfl (.cons rfl .nil))) (Nat.le_of_ble_eq_true rfl) rfl ?_
  intro nt S
  refine A<|We<|Ws<|Wg<|M ?_
  refine WL.w (v:=boo true) (R.ofEq (R.eql rfl rfl) rfl)<|M<|Gy rfl ?_
  refine WL.w (R.loadBN (i:=1) (vs:=[(str []),(str [])]) S rfl rfl lay56 rfl rfl)<|Gy rfl ?_
  refine WL.w (R.build [] [(str []),(str [])] bp56 zer56 rfl rfl)<|Gy rfl ?_
  refine WL.w (R.eqlA ((([]:Str)==[])&&((([]:Str)==[])&&true)) rfl rfl ps56 fk56 rfl rfl rfl)<|Pt rfl<|M ?_
  refine WL.grpw 4 [36,37,38] 39 (boo (((([]:Str)==[])&&((([]:Str)==[])&&true))&&true)) (fun w=>∃ H':Hp,o.le H'∧St d f w H' [.box de 62 [(.slice none 0 0),(.slice none 0 0)],.box c0 56 [(str []),(str [])]]) ?_ ?_
  ·rcases boolE ((([]:Str)==[])&&((([]:Str)==[])&&true)) with a5 | a5
   ·refine Gy a5<|M<|Gy a5<|W.inl (args:=[(.pointer none)]) rfl (N':=12) Tryz.func18 rfl rfl kr rfl<|Ws<|Wg<|A<|We<|Ws<|Wg<|M<|W.inl (args:=[(.pointer none)]) rfl (N':=12) Tryz.func38 rfl rfl kr rfl ?_
    refine Ws<|Wg<|A<|We<|Ws<|Wg<|M ?_
    refine WL.w (v:=boo false) (R.ofEq (R.neqPN rfl rfl Tryz.underlying34) rfl)<|M<|Gn rfl<|Gn rfl<|Gn rfl ?_
    refine Gn rfl<|Gn rfl<|Pf rfl<|A<|We ?_
    refine WP.ret (In.one rfl rfl ?_)
    refine M<|Gn rfl<|Gn rfl<|Gn rfl<|Gn rfl<|Gn rfl<|Pf rfl<|A<|We ?_
    refine WP.ret (In.one rfl rfl ?_)
    refine Gy a5 ?_
    refine WL.w (v:=boo true) (R.ofEq (R.not rfl) rfl)<|Pt a5 ?_
    exact We ⟨(andT a5),ag,⟨o,lr,S⟩⟩
   refine Gn a5<|Gn a5<|Gn a5<|Pf a5 ?_
   exact We ⟨(andF a5),ag,⟨o,lr,S⟩⟩
  intro us nu ⟨ed,nv,S⟩
  refine M ?_
  refine WL.grpw 4 [41,42,43] 44 (boo ((((([]:Str)==[])&&((([]:Str)==[])&&true))&&true)&&true)) (fun w=>∃ H':Hp,ed.le H'∧St d f w H' [.box de 62 [(.slice none 0 0),(.slice none 0 0)],.box c0 56 [(str []),(str [])]]) ?_ ?_
  ·rcases boolE (((([]:Str)==[])&&((([]:Str)==[])&&true))&&true) with a6 | a6
   ·refine Gy a6<|M<|Gy a6<|W.inl (args:=[(.pointer none)]) rfl (N':=10) Tryz.func16 rfl rfl kr rfl<|Ws<|Wg<|A<|We<|Ws<|Ws<|Wg<|M ?_
    refine W.inl (args:=[(.pointer none)]) rfl (N':=12) Tryz.func38 rfl rfl kr rfl<|Ws<|Wg<|A<|We<|Ws<|Wg<|M ?_
    refine WL.w (v:=boo false) (R.ofEq (R.neqPN rfl rfl Tryz.underlying34) rfl)<|M<|Gn rfl<|Gn rfl ?_
    refine Gn rfl<|Gn rfl<|Gn rfl<|Pf rfl<|A<|We ?_
    refine WP.ret (In.one rfl rfl ?_)
    refine WL.w (v:=boo true) (R.ofEq (R.not rfl) rfl)<|We<|WP.condT (b:=true) rfl rfl<|Ws<|Wg<|A<|We ?_
    refine WP.ret (In.one rfl rfl ?_)
    refine Gy a6 ?_
    refine WL.w (v:=boo true) (R.ofEq (R.eql rfl rfl) rfl)<|Pt a6 ?_
    exact We ⟨(andT a6),ag,⟨ed,lr,S⟩⟩
   refine Gn a6<|Gn a6<|Gn a6<|Pf a6 ?_
   exact We ⟨(andF a6),ag,⟨ed,lr,S⟩⟩
  intro us nw ⟨ee,nx,S⟩
  refine M ?_
  refine WL.grpw 4 [46,47,48] 49 (boo (((((([]:Str)==[])&&((([]:Str)==[])&&true))&&true)&&true)&&true)) (fun w=>∃ H':Hp,ee.le H'∧St d f w H' [.box de 62 [(.slice none 0 0),(.slice none 0 0)],.box c0 56 [(str []),(str [])]]) ?_ ?_
  ·rcases boolE ((((([]:Str)==[])&&((([]:Str)==[])&&true))&&true)&&true) with a7 | a7
   ·refine Gy a7<|M<|Gy a7<|W.inl (args:=[(.pointer none)]) rfl (N':=11) Tryz.func19 rfl rfl kr rfl<|Ws<|Wg<|A<|We<|Ws<|Ws<|Wg<|M ?_
    refine W.inl (args:=[(.pointer none)]) rfl (N':=12) Tryz.func38 rfl rfl kr rfl<|Ws<|Wg<|A<|We<|Ws<|Wg<|M ?_
    refine WL.w (v:=boo false) (R.ofEq (R.neqPN rfl rfl Tryz.underlying34) rfl)<|M<|Gn rfl<|Gn rfl ?_
    refine Gn rfl<|Gn rfl<|Gn rfl<|Pf rfl<|A<|We ?_
    refine WP.ret (In.one rfl rfl ?_)
    refine WL.w (v:=boo true) (R.ofEq (R.not rfl) rfl)<|We<|WP.condT (b:=true) rfl rfl<|Ws<|Wg<|A<|We ?_
    refine WP.ret (In.one rfl rfl ?_)
    refine Gy a7 ?_
    refine WL.w (v:=boo true) (R.ofEq (R.eql rfl rfl) rfl)<|Pt a7 ?_
    exact We ⟨(andT a7),ag,⟨ee,lr,S⟩⟩
   refine Gn a7<|Gn a7<|Gn a7<|Pf a7 ?_
   exact We ⟨(andF a7),ag,⟨ee,lr,S⟩⟩
  intro us ny ⟨dp,nz,S⟩
  refine M ?_
  refine WL.grpw 5 [51,52,53,54] 55 (boo ((((((([]:Str)==[])&&((([]:Str)==[])&&true))&&true)&&true)&&true)&&((([]:List Str).length:Int)==0))) (fun w=>∃ H':Hp,dp.le H'∧St d f w H' [.box de 62 [(.slice none 0 0),(.slice none 0 0)],.box c0 56 [(str []),(str [])]]) ?_ ?_
  ·rcases boolE (((((([]:Str)==[])&&((([]:Str)==[])&&true))&&true)&&true)&&true) with aa | aa
   ·refine Gy aa<|M<|Gy aa<|W.inl (args:=[(.pointer none)]) rfl (N':=11) Tryz.func20 rfl rfl kr rfl<|Ws<|Wg<|A<|We<|Ws<|Ws<|Wg<|M ?_
    refine W.inl (args:=[(.pointer none)]) rfl (N':=12) Tryz.func38 rfl rfl kr rfl<|Ws<|Wg<|A<|We<|Ws<|Wg<|M ?_
    refine WL.w (v:=boo false) (R.ofEq (R.neqPN rfl rfl Tryz.underlying34) rfl)<|M<|Gn rfl<|Gn rfl ?_
    refine Gn rfl<|Gn rfl<|Gn rfl<|Pf rfl<|A<|We ?_
    refine WP.ret (In.one rfl rfl ?_)
    refine WL.w (v:=boo true) (R.ofEq (R.not rfl) rfl)<|We<|WP.condT (b:=true) rfl rfl<|Ws<|Wg<|A<|We ?_
    refine WP.ret (In.one rfl rfl ?_)
    refine Gy aa<|Nq (Sl.nil (α:=Str) (H:=dp))<|Gy aa<|Le<|Pt aa ?_
    exact We ⟨(andT aa),ag,⟨dp,lr,S⟩⟩
   refine Gn aa<|Gn aa<|Gn aa<|Gn aa<|Pf aa ?_
   exact We ⟨(andF aa),ag,⟨dp,lr,S⟩⟩
  intro us n0 ⟨e7,n1,S⟩
  refine M ?_
  refine WL.grp 3 [57,58] 59 (boo (((((((([]:Str)==[])&&((([]:Str)==[])&&true))&&true)&&true)&&true)&&((([]:List Str).length:Int)==0))&&true)) ?_ ?_
  ·rcases boolE ((((((([]:Str)==[])&&((([]:Str)==[])&&true))&&true)&&true)&&true)&&((([]:List Str).length:Int)==0)) with bv | bv
   ·refine Gy bv<|M<|Gy bv ?_
    refine WL.w (v:=boo true) (R.ofEq (R.not rfl) rfl)<|Pt bv ?_
    exact We ⟨(andT bv),ag,rfl⟩
   refine Gn bv<|Gn bv<|Pf bv ?_
   exact We ⟨(andF bv),ag,rfl⟩
  intro us
  refine M<|B h fun e8 cf h=>WL.grpw 4 [61,62,63] 64 (boo e8) (fun w=>∃ H':Hp,e7.le H'∧St d f w H' [.box de 62 [(.slice none 0 0),(.slice none 0 0)],.box c0 56 [(str []),(str [])]]) ?_ ?_
  ·rcases boolE (((((((([]:Str)==[])&&((([]:Str)==[])&&true))&&true)&&true)&&true)&&((([]:List Str).length:Int)==0))&&true) with a8 | a8
   ·replace cf:=condT cf a8
    refine Gy a8 ?_
    refine WL.w (R.loadBN (i:=0) (vs:=[(.slice none 0 0),(.slice none 0 0)]) S rfl rfl lay62 rfl rfl)<|Gy a8 ?_
    refine WL.w (R.build [] [(.slice none 0 0),(.slice none 0 0)] bp62 zer62 rfl rfl)<|Gy a8<|B cf fun n2 gz cf=>W.call S rfl (zAI S.holds (hG.post S.post) (⟨([]:List GAxis),([]:List GEntry)⟩:GTable) (⟨([]:List GAxis),([]:List GEntry)⟩:GTable) Sl.nil Sl.nil Sl.nil Sl.nil gz) ?_
    rintro n3 n4 g0 g1 S rfl
    refine Pt a8 ?_
    exact We ⟨(ob cf),ag,⟨g0,g1,S⟩⟩
   replace cf:=condF cf a8
   refine Gn a8<|Gn a8<|Gn a8<|Pf a8 ?_
   exact We ⟨(ob cf),ag,⟨e7,lr,S⟩⟩
  intro us n5 ⟨e9,n6,S⟩
  refine M<|B h fun g2 cg h=>WL.grpw 2 [66] 67 (boo g2) (fun w=>∃ H':Hp,e9.le H'∧St d f w H' [.box de 62 [(.slice none 0 0),(.slice none 0 0)],.box c0 56 [(str []),(str [])]]) ?_ ?_
  ·rcases boolE e8 with c1 | c1
   ·replace cg:=condT cg c1
    refine Gy c1<|B cg fun n7 g3 cg=>W.call S rfl (zAR S.holds (hG.post S.post)  g3) ?_
    rintro n8 n9 g4 g5 S rfl
    refine Pt c1 ?_
    exact We ⟨(ob cg),ag,⟨g4,g5,S⟩⟩
   replace cg:=condF cg c1
   refine Gn c1<|Pf c1 ?_
   exact We ⟨(ob cg),ag,⟨e9,lr,S⟩⟩
  intro us oa ⟨oc,od,S⟩
  refine A<|We ?_
  exact WP.ret (Rb h S)
 refine CF ec<|Ws<|Wg<|Le<|A<|We ?_
 rcases condE h with ⟨ef,h⟩ | ⟨ef,h⟩
 ·refine CT ef<|Ws<|Wg<|M<|W.inl (args:=[(.pointer none),(boo false)]) rfl (N':=33) Tryz.func44 rfl rfl kr rfl<|Ws<|Wg ?_
  refine W.alloc [(str []),(str [])] S zer56 ?_
  intro g6 oe S
  refine A<|We<|Ws<|Ws<|Wg<|M<|W.inl (args:=[(.pointer none)]) rfl (N':=12) Tryz.func38 rfl rfl kr rfl<|Ws<|Wg<|A<|We<|Ws ?_
  refine Wg<|M ?_
  refine WL.w (v:=boo false) (R.ofEq (R.neqPN rfl rfl Tryz.underlying34) rfl)<|M<|Gn rfl<|Gn rfl<|Gn rfl<|Gn rfl<|Gn rfl<|Pf rfl<|A<|We ?_
  refine WP.ret (In.one rfl rfl ?_)
  replace S:St d f _ o [.box g6 56 [(str []),(str [])],.box bt 56 [(str []),(str [])],.box cc 48 [(int j.fKind),(int j.fN),(str j.fText)]]:=(S.pk [0,1,2])
  refine WL.w (v:=boo true) (R.ofEq (R.not rfl) rfl)<|M<|Gn rfl<|Gn rfl<|Gn rfl<|Gn rfl<|Gn rfl<|Pt rfl<|We<|WP.condT (b:=true) rfl rfl<|Ws<|Wg ?_
  refine WL.w (R.build [] [(str []),(str [])] bp56 zer56 rfl rfl) ?_
  refine W.store (i:=0) [(str []),(str [])] S rfl rfl rfl lay56 rfl rfl (Nat.le_of_ble_eq_true rfl) rfl ?_
  intro og S
  refine A<|We ?_
  refine WP.ret (In.two rfl (Res.cellB (i:=0) (cs:=[(str []),(str [])]) S rfl rfl lay56 rfl rfl) rfl ?_)
  replace S:St d f _ o [.box bt 56 [(str []),(str [])],.box cc 48 [(int j.fKind),(int j.fN),(str j.fText)]]:=(S.pk [1,2])
  refine Ex ?_
  refine Ex ?_
  refine W.store (i:=0) [(str []),(str [])] S rfl rfl rfl lay56 rfl rfl (Nat.le_of_ble_eq_true rfl) rfl ?_
  intro oh S
  refine A<|We ?_
  refine WP.ret (In.two rfl (Res.cellB (i:=0) (cs:=[(str []),(str [])]) S rfl rfl lay56 rfl rfl) rfl ?_)
  replace S:St d f _ o []:=(S.pk [])
  refine M ?_
  refine Ex ?_
  refine Ex ?_
  refine W.alloc [(str []),(str [])] S zer56 ?_
  intro c2 oj S
  refine W.store (i:=0) [(str []),(str [])] S rfl rfl rfl lay56 rfl rfl (Nat.le_of_ble_eq_true rfl) rfl ?_
  intro ol S
  refine A<|We<|Ws<|Wg<|M<|W.inl (args:=[(.pointer none),(str [104,116,116,112,58,47,47,104,47,97])]) rfl (N':=18) Tryz.func23 rfl rfl kr rfl<|Ws<|Wg ?_
  refine W.alloc [(.slice none 0 0),(.slice none 0 0)] S zer62 ?_
  intro om on S
  refine A<|We<|Ws<|Ws<|Wg<|M<|W.inl (args:=[(.pointer none)]) rfl (N':=12) Tryz.func38 rfl rfl kr rfl<|Ws<|Wg<|A<|We<|Ws ?_
  refine Wg<|M ?_
  refine WL.w (v:=boo false) (R.ofEq (R.neqPN rfl rfl Tryz.underlying34) rfl)<|M<|Gn rfl<|Gn rfl<|Gn rfl<|Gn rfl<|Gn rfl<|Pf rfl<|A<|We ?_
  refine WP.ret (In.one rfl rfl ?_)
  refine WL.w (v:=boo true) (R.ofEq (R.not rfl) rfl)<|We<|WP.condT (b:=true) rfl rfl<|Ws<|Wg ?_
  refine WL.w (R.build [] [(.slice none 0 0),(.slice none 0 0)] bp62 zer62 rfl rfl) ?_
  refine W.store (i:=0) [(.slice none 0 0),(.slice none 0 0)] S rfl rfl rfl lay62 rfl (AllOne.all (l:=[(.slice none 0 0),(.slice none 0 0)]) (.cons rfl (.cons rfl .nil))) (Nat.le_of_ble_eq_true rfl) rfl ?_
  intro oo S
  refine A<|We ?_
  refine WP.ret (In.two rfl (Res.cellB (i:=0) (cs:=[(.slice none 0 0),(.slice none 0 0)]) S rfl rfl lay62 rfl rfl) rfl ?_)
  replace S:St d f _ o [.box c2 56 [(str []),(str [])]]:=(S.pk [1])
  refine M ?_
  refine Ex ?_
  refine Ex ?_
  refine W.alloc [(.slice none 0 0),(.slice none 0 0)] S zer62 ?_
  intro df op S
  refine W.store (i:=0) [(.slice none 0 0),(.slice none 0 0)] S rfl rfl rfl lay62 rfl (AllOne.all (l:=[(.slice none 0 0),(.slice none 0 0)]) (.cons rfl (.cons rfl .nil))) (Nat.le_of_ble_eq_true rfl) rfl ?_
  intro oq S
  refine A<|We<|Ws<|Wg<|M ?_
  refine WL.w (v:=boo true) (R.ofEq (R.eql rfl rfl) rfl)<|M<|Gy rfl ?_
  refine WL.w (R.loadBN (i:=1) (vs:=[(str []),(str [])]) S rfl rfl lay56 rfl rfl)<|Gy rfl ?_
  refine WL.w (R.build [] [(str []),(str [])] bp56 zer56 rfl rfl)<|Gy rfl ?_
  refine WL.w (R.eqlA ((([]:Str)==[])&&((([]:Str)==[])&&true)) rfl rfl ps56 fk56 rfl rfl rfl)<|Pt rfl<|M ?_
  refine WL.grpw 4 [36,37,38] 39 (boo (((([]:Str)==[])&&((([]:Str)==[])&&true))&&true)) (fun w=>∃ H':Hp,o.le H'∧St d f w H' [.box df 62 [(.slice none 0 0),(.slice none 0 0)],.box c2 56 [(str []),(str [])]]) ?_ ?_
  ·rcases boolE ((([]:Str)==[])&&((([]:Str)==[])&&true)) with a9 | a9
   ·refine Gy a9<|M<|Gy a9<|W.inl (args:=[(.pointer none)]) rfl (N':=12) Tryz.func18 rfl rfl kr rfl<|Ws<|Wg<|A<|We<|Ws<|Wg<|M<|W.inl (args:=[(.pointer none)]) rfl (N':=12) Tryz.func38 rfl rfl kr rfl ?_
    refine Ws<|Wg<|A<|We<|Ws<|Wg<|M ?_
    refine WL.w (v:=boo false) (R.ofEq (R.neqPN rfl rfl Tryz.underlying34) rfl)<|M<|Gn rfl<|Gn rfl<|Gn rfl ?_
    refine Gn rfl<|Gn rfl<|Pf rfl<|A<|We ?_
    refine WP.ret (In.one rfl rfl ?_)
    refine M<|Gn rfl<|Gn rfl<|Gn rfl<|Gn rfl<|Gn rfl<|Pf rfl<|A<|We ?_
    refine WP.ret (In.one rfl rfl ?_)
    refine Gy a9 ?_
    refine WL.w (v:=boo true) (R.ofEq (R.not rfl) rfl)<|Pt a9 ?_
    exact We ⟨(andT a9),ag,⟨o,lr,S⟩⟩
   refine Gn a9<|Gn a9<|Gn a9<|Pf a9 ?_
   exact We ⟨(andF a9),ag,⟨o,lr,S⟩⟩
  intro us or ⟨eg,os,S⟩
  refine M ?_
  refine WL.grpw 4 [41,42,43] 44 (boo ((((([]:Str)==[])&&((([]:Str)==[])&&true))&&true)&&true)) (fun w=>∃ H':Hp,eg.le H'∧St d f w H' [.box df 62 [(.slice none 0 0),(.slice none 0 0)],.box c2 56 [(str []),(str [])]]) ?_ ?_
  ·rcases boolE (((([]:Str)==[])&&((([]:Str)==[])&&true))&&true) with ba | ba
   ·refine Gy ba<|M<|Gy ba<|W.inl (args:=[(.pointer none)]) rfl (N':=10) Tryz.func16 rfl rfl kr rfl<|Ws<|Wg<|A<|We<|Ws<|Ws<|Wg<|M ?_
    refine W.inl (args:=[(.pointer none)]) rfl (N':=12) Tryz.func38 rfl rfl kr rfl<|Ws<|Wg<|A<|We<|Ws<|Wg<|M ?_
    refine WL.w (v:=boo false) (R.ofEq (R.neqPN rfl rfl Tryz.underlying34) rfl)<|M<|Gn rfl<|Gn rfl ?_
    refine Gn rfl<|Gn rfl<|Gn rfl<|Pf rfl<|A<|We ?_
    refine WP.ret (In.one rfl rfl ?_)
    refine WL.w (v:=boo true) (R.ofEq (R.not rfl) rfl)<|We<|WP.condT (b:=true) rfl rfl<|Ws<|Wg<|A<|We ?_
    refine WP.ret (In.one rfl rfl ?_)
    refine Gy ba ?_
    refine WL.w (v:=boo true) (R.ofEq (R.eql rfl rfl) rfl)<|Pt ba ?_
    exact We ⟨(andT ba),ag,⟨eg,lr,S⟩⟩
   refine Gn ba<|Gn ba<|Gn ba<|Pf ba ?_
   exact We ⟨(andF ba),ag,⟨eg,lr,S⟩⟩
  intro us ot ⟨eh,ou,S⟩
  refine M ?_
  refine WL.grpw 4 [46,47,48] 49 (boo (((((([]:Str)==[])&&((([]:Str)==[])&&true))&&true)&&true)&&true)) (fun w=>∃ H':Hp,eh.le H'∧St d f w H' [.box df 62 [(.slice none 0 0),(.slice none 0 0)],.box c2 56 [(str []),(str [])]]) ?_ ?_
  ·rcases boolE ((((([]:Str)==[])&&((([]:Str)==[])&&true))&&true)&&true) with bb | bb
   ·refine Gy bb<|M<|Gy bb<|W.inl (args:=[(.pointer none)]) rfl (N':=11) Tryz.func19 rfl rfl kr rfl<|Ws<|Wg<|A<|We<|Ws<|Ws<|Wg<|M ?_
    refine W.inl (args:=[(.pointer none)]) rfl (N':=12) Tryz.func38 rfl rfl kr rfl<|Ws<|Wg<|A<|We<|Ws<|Wg<|M ?_
    refine WL.w (v:=boo false) (R.ofEq (R.neqPN rfl rfl Tryz.underlying34) rfl)<|M<|Gn rfl<|Gn rfl ?_
    refine Gn rfl<|Gn rfl<|Gn rfl<|Pf rfl<|A<|We ?_
    refine WP.ret (In.one rfl rfl ?_)
    refine WL.w (v:=boo true) (R.ofEq (R.not rfl) rfl)<|We<|WP.condT (b:=true) rfl rfl<|Ws<|Wg<|A<|We ?_
    refine WP.ret (In.one rfl rfl ?_)
    refine Gy bb ?_
    refine WL.w (v:=boo true) (R.ofEq (R.eql rfl rfl) rfl)<|Pt bb ?_
    exact We ⟨(andT bb),ag,⟨eh,lr,S⟩⟩
   refine Gn bb<|Gn bb<|Gn bb<|Pf bb ?_
   exact We ⟨(andF bb),ag,⟨eh,lr,S⟩⟩
  intro us ov ⟨dq,ow,S⟩
  refine M ?_
  refine WL.grpw 5 [51,52,53,54] 55 (boo ((((((([]:Str)==[])&&((([]:Str)==[])&&true))&&true)&&true)&&true)&&((([]:List Str).length:Int)==0))) (fun w=>∃ H':Hp,dq.le H'∧St d f w H' [.box df 62 [(.slice none 0 0),(.slice none 0 0)],.box c2 56 [(str []),(str [])]]) ?_ ?_
  ·rcases boolE (((((([]:Str)==[])&&((([]:Str)==[])&&true))&&true)&&true)&&true) with ab | ab
   ·refine Gy ab<|M<|Gy ab<|W.inl (args:=[(.pointer none)]) rfl (N':=11) Tryz.func20 rfl rfl kr rfl<|Ws<|Wg<|A<|We<|Ws<|Ws<|Wg<|M ?_
    refine W.inl (args:=[(.pointer none)]) rfl (N':=12) Tryz.func38 rfl rfl kr rfl<|Ws<|Wg<|A<|We<|Ws<|Wg<|M ?_
    refine WL.w (v:=boo false) (R.ofEq (R.neqPN rfl rfl Tryz.underlying34) rfl)<|M<|Gn rfl<|Gn rfl ?_
    refine Gn rfl<|Gn rfl<|Gn rfl<|Pf rfl<|A<|We ?_
    refine WP.ret (In.one rfl rfl ?_)
    refine WL.w (v:=boo true) (R.ofEq (R.not rfl) rfl)<|We<|WP.condT (b:=true) rfl rfl<|Ws<|Wg<|A<|We ?_
    refine WP.ret (In.one rfl rfl ?_)
    refine Gy ab<|Nq (Sl.nil (α:=Str) (H:=dq))<|Gy ab<|Le<|Pt ab ?_
    exact We ⟨(andT ab),ag,⟨dq,lr,S⟩⟩
   refine Gn ab<|Gn ab<|Gn ab<|Gn ab<|Pf ab ?_
   exact We ⟨(andF ab),ag,⟨dq,lr,S⟩⟩
  intro us ox ⟨fa,oy,S⟩
  refine M ?_
  refine WL.grp 3 [57,58] 59 (boo (((((((([]:Str)==[])&&((([]:Str)==[])&&true))&&true)&&true)&&true)&&((([]:List Str).length:Int)==0))&&true)) ?_ ?_
  ·rcases boolE ((((((([]:Str)==[])&&((([]:Str)==[])&&true))&&true)&&true)&&true)&&((([]:List Str).length:Int)==0)) with bw | bw
   ·refine Gy bw<|M<|Gy bw ?_
    refine WL.w (v:=boo true) (R.ofEq (R.not rfl) rfl)<|Pt bw ?_
    exact We ⟨(andT bw),ag,rfl⟩
   refine Gn bw<|Gn bw<|Pf bw ?_
   exact We ⟨(andF bw),ag,rfl⟩
  intro us
  refine M<|B h fun fb ch h=>WL.grpw 4 [61,62,63] 64 (boo fb) (fun w=>∃ H':Hp,fa.le H'∧St d f w H' [.box df 62 [(.slice none 0 0),(.slice none 0 0)],.box c2 56 [(str []),(str [])]]) ?_ ?_
  ·rcases boolE (((((((([]:Str)==[])&&((([]:Str)==[])&&true))&&true)&&true)&&true)&&((([]:List Str).length:Int)==0))&&true) with bc | bc
   ·replace ch:=condT ch bc
    refine Gy bc ?_
    refine WL.w (R.loadBN (i:=0) (vs:=[(.slice none 0 0),(.slice none 0 0)]) S rfl rfl lay62 rfl rfl)<|Gy bc ?_
    refine WL.w (R.build [] [(.slice none 0 0),(.slice none 0 0)] bp62 zer62 rfl rfl)<|Gy bc<|B ch fun oz g7 ch=>W.call S rfl (zAI S.holds (hG.post S.post) (⟨([]:List GAxis),([]:List GEntry)⟩:GTable) (⟨([]:List GAxis),([]:List GEntry)⟩:GTable) Sl.nil Sl.nil Sl.nil Sl.nil g7) ?_
    rintro o0 o1 g8 g9 S rfl
    refine Pt bc ?_
    exact We ⟨(ob ch),ag,⟨g8,g9,S⟩⟩
   replace ch:=condF ch bc
   refine Gn bc<|Gn bc<|Gn bc<|Pf bc ?_
   exact We ⟨(ob ch),ag,⟨fa,lr,S⟩⟩
  intro us o2 ⟨fc,o3,S⟩
  refine M<|B h fun ha ci h=>WL.grpw 2 [66] 67 (boo ha) (fun w=>∃ H':Hp,fc.le H'∧St d f w H' [.box df 62 [(.slice none 0 0),(.slice none 0 0)],.box c2 56 [(str []),(str [])]]) ?_ ?_
  ·rcases boolE fb with c3 | c3
   ·replace ci:=condT ci c3
    refine Gy c3<|B ci fun o4 hb ci=>W.call S rfl (zAR S.holds (hG.post S.post)  hb) ?_
    rintro o5 o6 hc hd S rfl
    refine Pt c3 ?_
    exact We ⟨(ob ci),ag,⟨hc,hd,S⟩⟩
   replace ci:=condF ci c3
   refine Gn c3<|Pf c3 ?_
   exact We ⟨(ob ci),ag,⟨fc,lr,S⟩⟩
  intro us o7 ⟨o8,o9,S⟩
  refine A<|We ?_
  exact WP.ret (Rb h S)
 refine CF ef<|Ws<|Wg<|Le<|A<|We ?_
 rcases condE h with ⟨ei,h⟩ | ⟨ei,h⟩
 ·refine CT ei<|Ws<|Wg<|M<|W.inl (args:=[(.pointer none),(boo true)]) rfl (N':=33) Tryz.func44 rfl rfl kr rfl<|Ws<|Wg ?_
  refine W.alloc [(str []),(str [])] S zer56 ?_
  intro he pa S
  refine A<|We<|Ws<|Ws<|Wg<|M<|W.inl (args:=[(.pointer none)]) rfl (N':=12) Tryz.func38 rfl rfl kr rfl<|Ws<|Wg<|A<|We<|Ws ?_
  refine Wg<|M ?_
  refine WL.w (v:=boo false) (R.ofEq (R.neqPN rfl rfl Tryz.underlying34) rfl)<|M<|Gn rfl<|Gn rfl<|Gn rfl<|Gn rfl<|Gn rfl<|Pf rfl<|A<|We ?_
  refine WP.ret (In.one rfl rfl ?_)
  replace S:St d f _ o [.box he 56 [(str []),(str [])],.box bt 56 [(str []),(str [])],.box cc 48 [(int j.fKind),(int j.fN),(str j.fText)]]:=(S.pk [0,1,2])
  refine WL.w (v:=boo true) (R.ofEq (R.not rfl) rfl)<|M<|Gn rfl<|Gn rfl<|Gn rfl<|Gn rfl<|Gn rfl<|Pt rfl<|We<|WP.condT (b:=true) rfl rfl<|Ws<|Wg ?_
  refine WL.w (R.build [] [(str []),(str [])] bp56 zer56 rfl rfl) ?_
  refine W.store (i:=0) [(str []),(str [])] S rfl rfl rfl lay56 rfl rfl (Nat.le_of_ble_eq_true rfl) rfl ?_
  intro pb S
  refine A<|We ?_
  refine WP.ret (In.two rfl (Res.cellB (i:=0) (cs:=[(str []),(str [])]) S rfl rfl lay56 rfl rfl) rfl ?_)
  replace S:St d f _ o [.box bt 56 [(str []),(str [])],.box cc 48 [(int j.fKind),(int j.fN),(str j.fText)]]:=(S.pk [1,2])
  refine Ex ?_
  refine Ex ?_
  refine W.store (i:=0) [(str []),(str [])] S rfl rfl rfl lay56 rfl rfl (Nat.le_of_ble_eq_true rfl) rfl ?_
  intro pc S
  refine A<|We ?_
  refine WP.ret (In.two rfl (Res.cellB (i:=0) (cs:=[(str []),(str [])]) S rfl rfl lay56 rfl rfl) rfl ?_)
  replace S:St d f _ o []:=(S.pk [])
  refine M ?_
  refine Ex ?_
  refine Ex ?_
  refine W.alloc [(str []),(str [])] S zer56 ?_
  intro c4 pd S
  refine W.store (i:=0) [(str []),(str [])] S rfl rfl rfl lay56 rfl rfl (Nat.le_of_ble_eq_true rfl) rfl ?_
  intro pe S
  refine A<|We<|Ws<|Wg<|M<|W.inl (args:=[(.pointer none),(str [104,116,116,112,58,47,47,104,47,97])]) rfl (N':=18) Tryz.func23 rfl rfl kr rfl<|Ws<|Wg ?_
  refine W.alloc [(.slice none 0 0),(.slice none 0 0)] S zer62 ?_
  intro pf pg S
  refine A<|We<|Ws<|Ws<|Wg<|M<|W.inl (args:=[(.pointer none)]) rfl (N':=12) Tryz.func38 rfl rfl kr rfl<|Ws<|Wg<|A<|We<|Ws ?_
  refine Wg<|M ?_
  refine WL.w (v:=boo false) (R.ofEq (R.neqPN rfl rfl Tryz.underlying34) rfl)<|M<|Gn rfl<|Gn rfl<|Gn rfl<|Gn rfl<|Gn rfl<|Pf rfl<|A<|We ?_
  refine WP.ret (In.one rfl rfl ?_)
  refine WL.w (v:=boo true) (R.ofEq (R.not rfl) rfl)<|We<|WP.condT (b:=true) rfl rfl<|Ws<|Wg ?_
  refine WL.w (R.build [] [(.slice none 0 0),(.slice none 0 0)] bp62 zer62 rfl rfl) ?_
  refine W.store (i:=0) [(.slice none 0 0),(.slice none 0 0)] S rfl rfl rfl lay62 rfl (AllOne.all (l:=[(.slice none 0 0),(.slice none 0 0)]) (.cons rfl (.cons rfl .nil))) (Nat.le_of_ble_eq_true rfl) rfl ?_
  intro ph S
  refine A<|We ?_
  refine WP.ret (In.two rfl (Res.cellB (i:=0) (cs:=[(.slice none 0 0),(.slice none 0 0)]) S rfl rfl lay62 rfl rfl) rfl ?_)
  replace S:St d f _ o [.box c4 56 [(str []),(str [])]]:=(S.pk [1])
  refine M ?_
  refine Ex ?_
  refine Ex ?_
  refine W.alloc [(.slice none 0 0),(.slice none 0 0)] S zer62 ?_
  intro dg pi S
  refine W.store (i:=0) [(.slice none 0 0),(.slice none 0 0)] S rfl rfl rfl lay62 rfl (AllOne.all (l:=[(.slice none 0 0),(.slice none 0 0)]) (.cons rfl (.cons rfl .nil))) (Nat.le_of_ble_eq_true rfl) rfl ?_
  intro pj S
  refine A<|We<|Ws<|Wg<|M ?_
  refine WL.w (v:=boo true) (R.ofEq (R.eql rfl rfl) rfl)<|M<|Gy rfl ?_
  refine WL.w (R.loadBN (i:=1) (vs:=[(str []),(str [])]) S rfl rfl lay56 rfl rfl)<|Gy rfl ?_
  refine WL.w (R.build [] [(str []),(str [])] bp56 zer56 rfl rfl)<|Gy rfl ?_
  refine WL.w (R.eqlA ((([]:Str)==[])&&((([]:Str)==[])&&true)) rfl rfl ps56 fk56 rfl rfl rfl)<|Pt rfl<|M ?_
  refine WL.grpw 4 [36,37,38] 39 (boo (((([]:Str)==[])&&((([]:Str)==[])&&true))&&true)) (fun w=>∃ H':Hp,o.le H'∧St d f w H' [.box dg 62 [(.slice none 0 0),(.slice none 0 0)],.box c4 56 [(str []),(str [])]]) ?_ ?_
  ·rcases boolE ((([]:Str)==[])&&((([]:Str)==[])&&true)) with bd | bd
   ·refine Gy bd<|M<|Gy bd<|W.inl (args:=[(.pointer none)]) rfl (N':=12) Tryz.func18 rfl rfl kr rfl<|Ws<|Wg<|A<|We<|Ws<|Wg<|M<|W.inl (args:=[(.pointer none)]) rfl (N':=12) Tryz.func38 rfl rfl kr rfl ?_
    refine Ws<|Wg<|A<|We<|Ws<|Wg<|M ?_
    refine WL.w (v:=boo false) (R.ofEq (R.neqPN rfl rfl Tryz.underlying34) rfl)<|M<|Gn rfl<|Gn rfl<|Gn rfl ?_
    refine Gn rfl<|Gn rfl<|Pf rfl<|A<|We ?_
    refine WP.ret (In.one rfl rfl ?_)
    refine M<|Gn rfl<|Gn rfl<|Gn rfl<|Gn rfl<|Gn rfl<|Pf rfl<|A<|We ?_
    refine WP.ret (In.one rfl rfl ?_)
    refine Gy bd ?_
    refine WL.w (v:=boo true) (R.ofEq (R.not rfl) rfl)<|Pt bd ?_
    exact We ⟨(andT bd),ag,⟨o,lr,S⟩⟩
   refine Gn bd<|Gn bd<|Gn bd<|Pf bd ?_
   exact We ⟨(andF bd),ag,⟨o,lr,S⟩⟩
  intro us pl ⟨ej,pm,S⟩
  refine M ?_
  refine WL.grpw 4 [41,42,43] 44 (boo ((((([]:Str)==[])&&((([]:Str)==[])&&true))&&true)&&true)) (fun w=>∃ H':Hp,ej.le H'∧St d f w H' [.box dg 62 [(.slice none 0 0),(.slice none 0 0)],.box c4 56 [(str []),(str [])]]) ?_ ?_
  ·rcases boolE (((([]:Str)==[])&&((([]:Str)==[])&&true))&&true) with be | be
   ·refine Gy be<|M<|Gy be<|W.inl (args:=[(.pointer none)]) rfl (N':=10) Tryz.func16 rfl rfl kr rfl<|Ws<|Wg<|A<|We<|Ws<|Ws<|Wg<|M ?_
    refine W.inl (args:=[(.pointer none)]) rfl (N':=12) Tryz.func38 rfl rfl kr rfl<|Ws<|Wg<|A<|We<|Ws<|Wg<|M ?_
    refine WL.w (v:=boo false) (R.ofEq (R.neqPN rfl rfl Tryz.underlying34) rfl)<|M<|Gn rfl<|Gn rfl ?_
    refine Gn rfl<|Gn rfl<|Gn rfl<|Pf rfl<|A<|We ?_
    refine WP.ret (In.one rfl rfl ?_)
    refine WL.w (v:=boo true) (R.ofEq (R.not rfl) rfl)<|We<|WP.condT (b:=true) rfl rfl<|Ws<|Wg<|A<|We ?_
    refine WP.ret (In.one rfl rfl ?_)
    refine Gy be ?_
    refine WL.w (v:=boo true) (R.ofEq (R.eql rfl rfl) rfl)<|Pt be ?_
    exact We ⟨(andT be),ag,⟨ej,lr,S⟩⟩
   refine Gn be<|Gn be<|Gn be<|Pf be ?_
   exact We ⟨(andF be),ag,⟨ej,lr,S⟩⟩
  intro us pn ⟨ek,po,S⟩
  refine M ?_
  refine WL.grpw 4 [46,47,48] 49 (boo (((((([]:Str)==[])&&((([]:Str)==[])&&true))&&true)&&true)&&true)) (fun w=>∃ H':Hp,ek.le H'∧St d f w H' [.box dg 62 [(.slice none 0 0),(.slice none 0 0)],.box c4 56 [(str []),(str [])]]) ?_ ?_
  ·rcases boolE ((((([]:Str)==[])&&((([]:Str)==[])&&true))&&true)&&true) with bf | bf
   ·refine Gy bf<|M<|Gy bf<|W.inl (args:=[(.pointer none)]) rfl (N':=11) Tryz.func19 rfl rfl kr rfl<|Ws<|Wg<|A<|We<|Ws<|Ws<|Wg<|M ?_
    refine W.inl (args:=[(.pointer none)]) rfl (N':=12) Tryz.func38 rfl rfl kr rfl<|Ws<|Wg<|A<|We<|Ws<|Wg<|M ?_
    refine WL.w (v:=boo false) (R.ofEq (R.neqPN rfl rfl Tryz.underlying34) rfl)<|M<|Gn rfl<|Gn rfl ?_
    refine Gn rfl<|Gn rfl<|Gn rfl<|Pf rfl<|A<|We ?_
    refine WP.ret (In.one rfl rfl ?_)
    refine WL.w (v:=boo true) (R.ofEq (R.not rfl) rfl)<|We<|WP.condT (b:=true) rfl rfl<|Ws<|Wg<|A<|We ?_
    refine WP.ret (In.one rfl rfl ?_)
    refine Gy bf ?_
    refine WL.w (v:=boo true) (R.ofEq (R.eql rfl rfl) rfl)<|Pt bf ?_
    exact We ⟨(andT bf),ag,⟨ek,lr,S⟩⟩
   refine Gn bf<|Gn bf<|Gn bf<|Pf bf ?_
   exact We ⟨(andF bf),ag,⟨ek,lr,S⟩⟩
  intro us pp ⟨dr,pq,S⟩
  refine M ?_
  refine WL.grpw 5 [51,52,53,54] 55 (boo ((((((([]:Str)==[])&&((([]:Str)==[])&&true))&&true)&&true)&&true)&&((([]:List Str).length:Int)==0))) (fun w=>∃ H':Hp,dr.le H'∧St d f w H' [.box dg 62 [(.slice none 0 0),(.slice none 0 0)],.box c4 56 [(str []),(str [])]]) ?_ ?_
  ·rcases boolE (((((([]:Str)==[])&&((([]:Str)==[])&&true))&&true)&&true)&&true) with ac | ac
   ·refine Gy ac<|M<|Gy ac<|W.inl (args:=[(.pointer none)]) rfl (N':=11) Tryz.func20 rfl rfl kr rfl<|Ws<|Wg<|A<|We<|Ws<|Ws<|Wg<|M ?_
    refine W.inl (args:=[(.pointer none)]) rfl (N':=12) Tryz.func38 rfl rfl kr rfl<|Ws<|Wg<|A<|We<|Ws<|Wg<|M ?_
    refine WL.w (v:=boo false) (R.ofEq (R.neqPN rfl rfl Tryz.underlying34) rfl)<|M<|Gn rfl<|Gn rfl ?_
    refine Gn rfl<|Gn rfl<|Gn rfl<|Pf rfl<|A<|We ?_
    refine WP.ret (In.one rfl rfl ?_)
    refine WL.w (v:=boo true) (R.ofEq (R.not rfl) rfl)<|We<|WP.condT (b:=true) rfl rfl<|Ws<|Wg<|A<|We ?_
    refine WP.ret (In.one rfl rfl ?_)
    refine Gy ac<|Nq (Sl.nil (α:=Str) (H:=dr))<|Gy ac<|Le<|Pt ac ?_
    exact We ⟨(andT ac),ag,⟨dr,lr,S⟩⟩
   refine Gn ac<|Gn ac<|Gn ac<|Gn ac<|Pf ac ?_
   exact We ⟨(andF ac),ag,⟨dr,lr,S⟩⟩
  intro us pr ⟨fd,ps,S⟩
  refine M ?_
  refine WL.grp 3 [57,58] 59 (boo (((((((([]:Str)==[])&&((([]:Str)==[])&&true))&&true)&&true)&&true)&&((([]:List Str).length:Int)==0))&&true)) ?_ ?_
  ·rcases boolE ((((((([]:Str)==[])&&((([]:Str)==[])&&true))&&true)&&true)&&true)&&((([]:List Str).length:Int)==0)) with bx | bx
   ·refine Gy bx<|M<|Gy bx ?_
    refine WL.w (v:=boo true) (R.ofEq (R.not rfl) rfl)<|Pt bx ?_
    exact We ⟨(andT bx),ag,rfl⟩
   refine Gn bx<|Gn bx<|Pf bx ?_
   exact We ⟨(andF bx),ag,rfl⟩
  intro us
  refine M<|B h fun fe cj h=>WL.grpw 4 [61,62,63] 64 (boo fe) (fun w=>∃ H':Hp,fd.le H'∧St d f w H' [.box dg 62 [(.slice none 0 0),(.slice none 0 0)],.box c4 56 [(str []),(str [])]]) ?_ ?_
  ·rcases boolE (((((((([]:Str)==[])&&((([]:Str)==[])&&true))&&true)&&true)&&true)&&((([]:List Str).length:Int)==0))&&true) with bg | bg
   ·replace cj:=condT cj bg
    refine Gy bg ?_
    refine WL.w (R.loadBN (i:=0) (vs:=[(.slice none 0 0),(.slice none 0 0)]) S rfl rfl lay62 rfl rfl)<|Gy bg ?_
    refine WL.w (R.build [] [(.slice none 0 0),(.slice none 0 0)] bp62 zer62 rfl rfl)<|Gy bg<|B cj fun pu hf cj=>W.call S rfl (zAI S.holds (hG.post S.post) (⟨([]:List GAxis),([]:List GEntry)⟩:GTable) (⟨([]:List GAxis),([]:List GEntry)⟩:GTable) Sl.nil Sl.nil Sl.nil Sl.nil hf) ?_
    rintro pv pw hg hh S rfl
    refine Pt bg ?_
    exact We ⟨(ob cj),ag,⟨hg,hh,S⟩⟩
   replace cj:=condF cj bg
   refine Gn bg<|Gn bg<|Gn bg<|Pf bg ?_
   exact We ⟨(ob cj),ag,⟨fd,lr,S⟩⟩
  intro us px ⟨ff,py,S⟩
  refine M<|B h fun hi ck h=>WL.grpw 2 [66] 67 (boo hi) (fun w=>∃ H':Hp,ff.le H'∧St d f w H' [.box dg 62 [(.slice none 0 0),(.slice none 0 0)],.box c4 56 [(str []),(str [])]]) ?_ ?_
  ·rcases boolE fe with c5 | c5
   ·replace ck:=condT ck c5
    refine Gy c5<|B ck fun pz hj ck=>W.call S rfl (zAR S.holds (hG.post S.post)  hj) ?_
    rintro p0 p1 hk hl S rfl
    refine Pt c5 ?_
    exact We ⟨(ob ck),ag,⟨hk,hl,S⟩⟩
   replace ck:=condF ck c5
   refine Gn c5<|Pf c5 ?_
   exact We ⟨(ob ck),ag,⟨ff,lr,S⟩⟩
  intro us p2 ⟨p3,p4,S⟩
  refine A<|We ?_
  exact WP.ret (Rb h S)
 refine CF ei<|Wk<|Ws<|Wg ?_
 refine WL.w (R.build [] [(str []),(str [])] bp56 zer56 rfl rfl)<|M<|Fb ?_
 refine Lo 1 S<|W.inl (args:=[(.pointer none),(int j.fN)]) rfl (N':=26) Tryz.func15 rfl rfl kr rfl<|Ws<|Wg<|A ?_
 refine We<|Ws<|Wb<|Ws<|Wg<|M<|W.inl (args:=[(.pointer none)]) rfl (N':=12) Tryz.func38 rfl rfl kr rfl<|Ws<|Wg<|A<|We<|Ws ?_
 refine Wg<|M ?_
 refine WL.w (v:=boo false) (R.ofEq (R.neqPN rfl rfl Tryz.underlying34) rfl)<|M<|Gn rfl<|Gn rfl<|Gn rfl<|Gn rfl<|Gn rfl<|Pf rfl<|A<|We ?_
 refine WP.ret (In.one rfl rfl ?_)
 replace S:St d f _ o [.box bt 56 [(str []),(str [])]]:=(S.pk [0])
 refine WL.w (v:=boo true) (R.ofEq (R.not rfl) rfl)<|A<|We<|WP.condT (b:=true) rfl rfl<|Ws<|Wg<|A<|We ?_
 refine WP.ret (In.one rfl rfl ?_)
 refine W.store (i:=0) [(str []),(str [])] S rfl rfl rfl lay56 rfl rfl (Nat.le_of_ble_eq_true rfl) rfl ?_
 intro p5 S
 refine A<|We ?_
 refine WP.ret (In.two rfl (Res.cellB (i:=0) (cs:=[(str []),(str [])]) S rfl rfl lay56 rfl rfl) rfl ?_)
 replace S:St d f _ o []:=(S.pk [])
 refine M ?_
 refine Ex ?_
 refine Ex ?_
 refine W.alloc [(str []),(str [])] S zer56 ?_
 intro c6 p6 S
 refine W.store (i:=0) [(str []),(str [])] S rfl rfl rfl lay56 rfl rfl (Nat.le_of_ble_eq_true rfl) rfl ?_
 intro p7 S
 refine A<|We<|Ws<|Wg<|M<|W.inl (args:=[(.pointer none),(str [104,116,116,112,58,47,47,104,47,97])]) rfl (N':=18) Tryz.func23 rfl rfl kr rfl<|Ws<|Wg ?_
 refine W.alloc [(.slice none 0 0),(.slice none 0 0)] S zer62 ?_
 intro p8 p9 S
 refine A<|We<|Ws<|Ws<|Wg<|M<|W.inl (args:=[(.pointer none)]) rfl (N':=12) Tryz.func38 rfl rfl kr rfl<|Ws<|Wg<|A<|We<|Ws ?_
 refine Wg<|M ?_
 refine WL.w (v:=boo false) (R.ofEq (R.neqPN rfl rfl Tryz.underlying34) rfl)<|M<|Gn rfl<|Gn rfl<|Gn rfl<|Gn rfl<|Gn rfl<|Pf rfl<|A<|We ?_
 refine WP.ret (In.one rfl rfl ?_)
 refine WL.w (v:=boo true) (R.ofEq (R.not rfl) rfl)<|We<|WP.condT (b:=true) rfl rfl<|Ws<|Wg ?_
 refine WL.w (R.build [] [(.slice none 0 0),(.slice none 0 0)] bp62 zer62 rfl rfl) ?_
 refine W.store (i:=0) [(.slice none 0 0),(.slice none 0 0)] S rfl rfl rfl lay62 rfl (AllOne.all (l:=[(.slice none 0 0),(.slice none 0 0)]) (.cons rfl (.cons rfl .nil))) (Nat.le_of_ble_eq_true rfl) rfl ?_
 intro qa S
 refine A<|We ?_
 refine WP.ret (In.two rfl (Res.cellB (i:=0) (cs:=[(.slice none 0 0),(.slice none 0 0)]) S rfl rfl lay62 rfl rfl) rfl ?_)
 replace S:St d f _ o [.box c6 56 [(str []),(str [])]]:=(S.pk [1])
 refine M ?_
 refine Ex ?_
 refine Ex ?_
 refine W.alloc [(.slice none 0 0),(.slice none 0 0)] S zer62 ?_
 intro dh qb S
 refine W.store (i:=0) [(.slice none 0 0),(.slice none 0 0)] S rfl rfl rfl lay62 rfl (AllOne.all (l:=[(.slice none 0 0),(.slice none 0 0)]) (.cons rfl (.cons rfl .nil))) (Nat.le_of_ble_eq_true rfl) rfl ?_
 intro qc S
 refine A<|We<|Ws<|Wg<|M ?_
 refine WL.w (v:=boo true) (R.ofEq (R.eql rfl rfl) rfl)<|M<|Gy rfl ?_
 refine WL.w (R.loadBN (i:=1) (vs:=[(str []),(str [])]) S rfl rfl lay56 rfl rfl)<|Gy rfl ?_
 refine WL.w (R.build [] [(str []),(str [])] bp56 zer56 rfl rfl)<|Gy rfl ?_
 refine WL.w (R.eqlA ((([]:Str)==[])&&((([]:Str)==[])&&true)) rfl rfl ps56 fk56 rfl rfl rfl)<|Pt rfl<|M ?_
 refine WL.grpw 4 [36,37,38] 39 (boo (((([]:Str)==[])&&((([]:Str)==[])&&true))&&true)) (fun w=>∃ H':Hp,o.le H'∧St d f w H' [.box dh 62 [(.slice none 0 0),(.slice none 0 0)],.box c6 56 [(str []),(str [])]]) ?_ ?_
 ·rcases boolE ((([]:Str)==[])&&((([]:Str)==[])&&true)) with bh | bh
  ·refine Gy bh<|M<|Gy bh<|W.inl (args:=[(.pointer none)]) rfl (N':=12) Tryz.func18 rfl rfl kr rfl<|Ws<|Wg<|A<|We<|Ws<|Wg<|M<|W.inl (args:=[(.pointer none)]) rfl (N':=12) Tryz.func38 rfl rfl kr rfl ?_
   refine Ws<|Wg<|A<|We<|Ws<|Wg<|M ?_
   refine WL.w (v:=boo false) (R.ofEq (R.neqPN rfl rfl Tryz.underlying34) rfl)<|M<|Gn rfl<|Gn rfl<|Gn rfl ?_
   refine Gn rfl<|Gn rfl<|Pf rfl<|A<|We ?_
   refine WP.ret (In.one rfl rfl ?_)
   refine M<|Gn rfl<|Gn rfl<|Gn rfl<|Gn rfl<|Gn rfl<|Pf rfl<|A<|We ?_
   refine WP.ret (In.one rfl rfl ?_)
   refine Gy bh ?_
   refine WL.w (v:=boo true) (R.ofEq (R.not rfl) rfl)<|Pt bh ?_
   exact We ⟨(andT bh),ag,⟨o,lr,S⟩⟩
  refine Gn bh<|Gn bh<|Gn bh<|Pf bh ?_
  exact We ⟨(andF bh),ag,⟨o,lr,S⟩⟩
 intro us qd ⟨el,qe,S⟩
 refine M ?_
 refine WL.grpw 4 [41,42,43] 44 (boo ((((([]:Str)==[])&&((([]:Str)==[])&&true))&&true)&&true)) (fun w=>∃ H':Hp,el.le H'∧St d f w H' [.box dh 62 [(.slice none 0 0),(.slice none 0 0)],.box c6 56 [(str []),(str [])]]) ?_ ?_
 ·rcases boolE (((([]:Str)==[])&&((([]:Str)==[])&&true))&&true) with bi | bi
  ·refine Gy bi<|M<|Gy bi<|W.inl (args:=[(.pointer none)]) rfl (N':=10) Tryz.func16 rfl rfl kr rfl<|Ws<|Wg<|A<|We<|Ws<|Ws<|Wg<|M ?_
   refine W.inl (args:=[(.pointer none)]) rfl (N':=12) Tryz.func38 rfl rfl kr rfl<|Ws<|Wg<|A<|We<|Ws<|Wg<|M ?_
   refine WL.w (v:=boo false) (R.ofEq (R.neqPN rfl rfl Tryz.underlying34) rfl)<|M<|Gn rfl<|Gn rfl ?_
   refine Gn rfl<|Gn rfl<|Gn rfl<|Pf rfl<|A<|We ?_
   refine WP.ret (In.one rfl rfl ?_)
   refine WL.w (v:=boo true) (R.ofEq (R.not rfl) rfl)<|We<|WP.condT (b:=true) rfl rfl<|Ws<|Wg<|A<|We ?_
   refine WP.ret (In.one rfl rfl ?_)
   refine Gy bi ?_
   refine WL.w (v:=boo true) (R.ofEq (R.eql rfl rfl) rfl)<|Pt bi ?_
   exact We ⟨(andT bi),ag,⟨el,lr,S⟩⟩
  refine Gn bi<|Gn bi<|Gn bi<|Pf bi ?_
  exact We ⟨(andF bi),ag,⟨el,lr,S⟩⟩
 intro us qf ⟨em,qg,S⟩
 refine M ?_
 refine WL.grpw 4 [46,47,48] 49 (boo (((((([]:Str)==[])&&((([]:Str)==[])&&true))&&true)&&true)&&true)) (fun w=>∃ H':Hp,em.le H'∧St d f w H' [.box dh 62 [(.slice none 0 0),(.slice none 0 0)],.box c6 56 [(str []),(str [])]]) ?_ ?_
 ·rcases boolE ((((([]:Str)==[])&&((([]:Str)==[])&&true))&&true)&&true) with bj | bj
  ·refine Gy bj<|M<|Gy bj<|W.inl (args:=[(.pointer none)]) rfl (N':=11) Tryz.func19 rfl rfl kr rfl<|Ws<|Wg<|A<|We<|Ws<|Ws<|Wg<|M ?_
   refine W.inl (args:=[(.pointer none)]) rfl (N':=12) Tryz.func38 rfl rfl kr rfl<|Ws<|Wg<|A<|We<|Ws<|Wg<|M ?_
   refine WL.w (v:=boo false) (R.ofEq (R.neqPN rfl rfl Tryz.underlying34) rfl)<|M<|Gn rfl<|Gn rfl ?_
   refine Gn rfl<|Gn rfl<|Gn rfl<|Pf rfl<|A<|We ?_
   refine WP.ret (In.one rfl rfl ?_)
   refine WL.w (v:=boo true) (R.ofEq (R.not rfl) rfl)<|We<|WP.condT (b:=true) rfl rfl<|Ws<|Wg<|A<|We ?_
   refine WP.ret (In.one rfl rfl ?_)
   refine Gy bj ?_
   refine WL.w (v:=boo true) (R.ofEq (R.eql rfl rfl) rfl)<|Pt bj ?_
   exact We ⟨(andT bj),ag,⟨em,lr,S⟩⟩
  refine Gn bj<|Gn bj<|Gn bj<|Pf bj ?_
  exact We ⟨(andF bj),ag,⟨em,lr,S⟩⟩
 intro us qh ⟨ds,qi,S⟩
 refine M ?_
 refine WL.grpw 5 [51,52,53,54] 55 (boo ((((((([]:Str)==[])&&((([]:Str)==[])&&true))&&true)&&true)&&true)&&((([]:List Str).length:Int)==0))) (fun w=>∃ H':Hp,ds.le H'∧St d f w H' [.box dh 62 [(.slice none 0 0),(.slice none 0 0)],.box c6 56 [(str []),(str [])]]) ?_ ?_
 ·rcases boolE (((((([]:Str)==[])&&((([]:Str)==[])&&true))&&true)&&true)&&true) with ad | ad
  ·refine Gy ad<|M<|Gy ad<|W.inl (args:=[(.pointer none)]) rfl (N':=11) Tryz.func20 rfl rfl kr rfl<|Ws<|Wg<|A<|We<|Ws<|Ws<|Wg<|M ?_
   refine W.inl (args:=[(.pointer none)]) rfl (N':=12) Tryz.func38 rfl rfl kr rfl<|Ws<|Wg<|A<|We<|Ws<|Wg<|M ?_
   refine WL.w (v:=boo false) (R.ofEq (R.neqPN rfl rfl Tryz.underlying34) rfl)<|M<|Gn rfl<|Gn rfl ?_
   refine Gn rfl<|Gn rfl<|Gn rfl<|Pf rfl<|A<|We ?_
   refine WP.ret (In.one rfl rfl ?_)
   refine WL.w (v:=boo true) (R.ofEq (R.not rfl) rfl)<|We<|WP.condT (b:=true) rfl rfl<|Ws<|Wg<|A<|We ?_
   refine WP.ret (In.one rfl rfl ?_)
   refine Gy ad<|Nq (Sl.nil (α:=Str) (H:=ds))<|Gy ad<|Le<|Pt ad ?_
   exact We ⟨(andT ad),ag,⟨ds,lr,S⟩⟩
  refine Gn ad<|Gn ad<|Gn ad<|Gn ad<|Pf ad ?_
  exact We ⟨(andF ad),ag,⟨ds,lr,S⟩⟩
 intro us qj ⟨fg,qk,S⟩
 refine M ?_
 refine WL.grp 3 [57,58] 59 (boo (((((((([]:Str)==[])&&((([]:Str)==[])&&true))&&true)&&true)&&true)&&((([]:List Str).length:Int)==0))&&true)) ?_ ?_
 ·rcases boolE ((((((([]:Str)==[])&&((([]:Str)==[])&&true))&&true)&&true)&&true)&&((([]:List Str).length:Int)==0)) with bz | bz
  ·refine Gy bz<|M<|Gy bz ?_
   refine WL.w (v:=boo true) (R.ofEq (R.not rfl) rfl)<|Pt bz ?_
   exact We ⟨(andT bz),ag,rfl⟩
  refine Gn bz<|Gn bz<|Pf bz ?_
  exact We ⟨(andF bz),ag,rfl⟩
 intro us
 refine M<|B h fun fh cl h=>WL.grpw 4 [61,62,63] 64 (boo fh) (fun w=>∃ H':Hp,fg.le H'∧St d f w H' [.box dh 62 [(.slice none 0 0),(.slice none 0 0)],.box c6 56 [(str []),(str [])]]) ?_ ?_
 ·rcases boolE (((((((([]:Str)==[])&&((([]:Str)==[])&&true))&&true)&&true)&&true)&&((([]:List Str).length:Int)==0))&&true) with bk | bk
  ·replace cl:=condT cl bk
   refine Gy bk ?_
   refine WL.w (R.loadBN (i:=0) (vs:=[(.slice none 0 0),(.slice none 0 0)]) S rfl rfl lay62 rfl rfl)<|Gy bk ?_
   refine WL.w (R.build [] [(.slice none 0 0),(.slice none 0 0)] bp62 zer62 rfl rfl)<|Gy bk<|B cl fun ql hm cl=>W.call S rfl (zAI S.holds (hG.post S.post) (⟨([]:List GAxis),([]:List GEntry)⟩:GTable) (⟨([]:List GAxis),([]:List GEntry)⟩:GTable) Sl.nil Sl.nil Sl.nil Sl.nil hm) ?_
   rintro qm qn hn ho S rfl
   refine Pt bk ?_
   exact We ⟨(ob cl),ag,⟨hn,ho,S⟩⟩
  replace cl:=condF cl bk
  refine Gn bk<|Gn bk<|Gn bk<|Pf bk ?_
  exact We ⟨(ob cl),ag,⟨fg,lr,S⟩⟩
 intro us qo ⟨fi,qp,S⟩
 refine M<|B h fun hp cm h=>WL.grpw 2 [66] 67 (boo hp) (fun w=>∃ H':Hp,fi.le H'∧St d f w H' [.box dh 62 [(.slice none 0 0),(.slice none 0 0)],.box c6 56 [(str []),(str [])]]) ?_ ?_
 ·rcases boolE fh with c7 | c7
  ·replace cm:=condT cm c7
   refine Gy c7<|B cm fun qq hq cm=>W.call S rfl (zAR S.holds (hG.post S.post)  hq) ?_
   rintro qr qs hr hs S rfl
   refine Pt c7 ?_
   exact We ⟨(ob cm),ag,⟨hr,hs,S⟩⟩
  replace cm:=condF cm c7
  refine Gn c7<|Pf c7 ?_
  exact We ⟨(ob cm),ag,⟨fi,lr,S⟩⟩
 intro us qt ⟨qu,qv,S⟩
 refine A<|We ?_
 exact WP.ret (Rb h S)
end Go.Proofs
