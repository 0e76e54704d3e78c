/- A part. -/
import Derived.Test.YtljjaiijlaeoeaaGreatDoorEng38
import Derived.Test.YtljjaiijlaeoeaaGreatDoorEng36
import Derived.Test.YtljjaiijlaeoeaaGreatDoorGenP5
namespace Go.Proofs
set_option maxHeartbeats 4000000
set_option maxRecDepth 10000
open Go.Eng Go.Eng.Pure
set_option linter.unusedVariables false
theorem zEg {w0:World} {H0:Hp} (hw:Holds w0 H0) (hG:Tryz.Gl w0) (am:GTable) {a4:Value} {an:Value} (cb:Sl H0 a4 am.fAxes) (b:Sl H0 an am.fEntries) {r:GTable} (h:zCH am=some r) :
  Con Tryz.prog 81 [(agg [a4,an])] w0 H0 (fun H' v=>∃ u1 u2:Value,v=(agg [u1,u2])∧Sl H' u1 r.fAxes∧Sl H' u2 r.fEntries):=by
 refine CM 26 Tryz.func81 hw fun S=>?_
 refine Ws<|Wg ?_
 refine W.box [a4,an] S rfl rfl ?_
 intro b1 w2 S
 refine W.alloc [(.slice none 0 0),(.slice none 0 0)] S zer62 ?_
 intro b3 w4 S
 refine We<|Ws<|Wg<|Fb ?_
 refine Lo 1 S<|B h fun r5 cd h=>W.call S rfl (zFX S.holds (hG.post S.post) am.fAxes cb cd) ?_
 rintro v6 w7 H8 ce S bh
 have b:=b.up ce
 refine WL.w (R.build [(0,v6)] [v6,(.slice none 0 0)] bp62 zer62 rfl (by obtain ⟨_,_,rfl,_⟩:=bh; rfl)) ?_
 refine W.alloc [(.slice none 0 0),(.slice none 0 0)] S zer62 ?_
 intro ax co S
 refine W.store (i:=0) [v6,(.slice none 0 0)] S rfl rfl rfl lay62 rfl (AllOne.all (l:=[v6,(.slice none 0 0)]) (.cons (Sl.oneC bh) (.cons rfl .nil))) (Nat.le_of_ble_eq_true rfl) rfl ?_
 intro cp S
 refine We<|Ws<|Ws<|Wg<|Fb ?_
 refine Lo 2 S<|Nq b<|M<|We ?_
 obtain ⟨bi,bj⟩:∃ v:Value,v=.slice none 0 0:=⟨_,rfl⟩
 have cf:Sl (α:=GEntry) H8 bi []:=by rw [bj]; exact Sl.nil
 replace S:=(show ∀ {w:World},St w0 H0 w H8 [.box ax 62 [v6,(.slice none 0 0)],.box b3 62 [(.slice none 0 0),(.slice none 0 0)],.box b1 62 [a4,an]]→St w0 H0 w H8 [.box ax 62 [v6,bi],.box b3 62 [(.slice none 0 0),(.slice none 0 0)],.box b1 62 [a4,an]] from fun S=>by rw [bj]; exact S) S
 replace S:=St.addNilV bj S 92 8
 refine B h fun bk cg h=>WP.cut (fun f w=>match bk with | (b0,bn)=>∃ (bg:Hp) (ap:Value) (ak:Value),f 2=(ptr b3 0)∧f 3=(ptr ax 0)∧Sl bg ap b0∧Sl bg ak bn∧St w0 H0 w bg [.row ak 92 8 bn.length,.box ax 62 [ap,ak],.box b3 62 [(.slice none 0 0),(.slice none 0 0)]]) ?_ ?_
 ·refine Wb ?_
  refine WP.loopM (zCu am) (fun s f w=>match s with | (b2,b4,bo)=>∃ (ay:Hp) (ae:Value) (a5:Value),f 2=(ptr b3 0)∧f 3=(ptr ax 0)∧f 11=an∧f 12=(int (am.fEntries.length:Int))∧f 13=(int b2)∧Sl ay an am.fEntries∧Sl ay ae b4∧Sl ay a5 bo∧St w0 H0 w ay [.row a5 92 8 bo.length,.box ax 62 [ae,a5],.box b3 62 [(.slice none 0 0),(.slice none 0 0)]]) (0,r5,([]:List GEntry)) bk (lfW cg) ?_ ?_
  ·exact ⟨H8,v6,bi,rfl,rfl,rfl,rfl,rfl,b,bh,cf,(S.pk [0,1,2])⟩
  intro s f w hI cq k ch
  obtain ⟨b2,b4,bo⟩:=s
  obtain ⟨ay,ae,a5,a6,ai,a7,a8,az,b,c,d,S⟩:=hI
  refine Ws<|Wg<|La' az a8<|We<|Ws ?_
  rcases condE k with ⟨bp,k⟩ | ⟨bp,k⟩
  ·refine CT bp<|Wk<|Ws<|Wb<|Ws<|Wg<|B k fun o ci k=>W.idx (α:=GEntry) b a7 az el60 ci ?_
   rintro cr _ cj ⟨a9,ba,bb,bc,rfl,z,aa,ab,ac⟩
   refine WL.w (R.loadHN (vs:=[a9,ba,bb,(str o.fReason),bc,(str o.fBody),(int o.fRequested),(int o.fReceived)]) S rfl cj lay92 rfl rfl) ?_
   refine W.alloc [(.slice none 0 0),(.slice none 0 0),(.slice none 0 0),(str []),(.slice none 0 0),(str []),(int 0),(int 0)] S zer92 ?_
   intro ct cu S
   refine W.store (i:=0) [a9,ba,bb,(str o.fReason),bc,(str o.fBody),(int o.fRequested),(int o.fReceived)] S rfl rfl rfl lay92 rfl (AllOne.all (l:=[a9,ba,bb,(str o.fReason),bc,(str o.fBody),(int o.fRequested),(int o.fReceived)]) (.cons (Sl.oneC z) (.cons (Sl.oneC aa) (.cons (Sl.oneC ab) (.cons rfl (.cons (Sl.oneC ac) (.cons rfl (.cons rfl (.cons rfl .nil))))))))) (Nat.le_of_ble_eq_true rfl) rfl ?_
   intro cv S
   refine We<|WP.draw kr 8 rfl (bm 8 0) rfl ?_
   have S:=S.drew
   refine At_ 0 8 1 rfl (fun _=>(R.fieldB ai zBU)) ?_
   refine WA.two (i:=1) (j:=2) (bm 8 3) (bm 8 5) rfl rfl kr rfl rfl ?_ ?_
   ·refine Lo 2 S<|We<|WA.one (i:=2) (bm 8 7) rfl kr rfl ?_
    refine WL.w (R.loadBN (i:=0) (vs:=[a9,ba,bb,(str o.fReason),bc,(str o.fBody),(int o.fRequested),(int o.fReceived)]) S rfl rfl lay92 rfl rfl)<|We<|WA.one (i:=3) (bm 8 15) rfl kr rfl<|B k fun p bd k=>W.call S rfl (zAT S.holds (hG.post S.post) o z aa ab ac bd) ?_
    rintro b5 b6 b7 be S ⟨a0,a1,a2,a3,rfl,q,t,u,x⟩
    have ⟨b,z,aa,ab,ac,d,c⟩:=U7 be b z aa ab ac d c
    refine We<|WA.one (i:=4) (bm 8 31) rfl kr rfl<|W.bslice (α:=GEntry) [(agg [a0,a1,a2,(str p.fReason),a3,(str p.fBody),(int p.fRequested),(int p.fReceived)])] ([p]:List GEntry) S el60 rfl rfl rfl (by decide) (Go.Eng.encS ⟨rfl,_,_,_,_,rfl,q,t,u,x⟩ enc0) ?_
    intro bq br bs aq ad S
    have ⟨b,z,aa,ab,ac,d,q,t,u,x,c⟩:=U11 aq b z aa ab ac d q t u x c
    refine We<|WA.one (i:=5) (bm 8 63) rfl kr rfl<|B k fun bt ar k=>W.app (α:=GEntry) (i:=2) S el60 rfl rfl rfl d ad ar ?_
    intro af bu au av ah S
    have ⟨b,z,aa,ab,ac,d,q,t,u,x,ad,c⟩:=U12 av b z aa ab ac d q t u x ad c
    refine We ?_
    refine At_ 6 8 127 rfl (fun _=>(R.fieldB ai zBU))<|WA.one (i:=7) (bm 8 255) rfl kr rfl ?_
    refine W.storeSl (α:=GEntry) (i:=3) [ae,af] S ah rfl rfl rfl lay60 (Nat.le_of_ble_eq_true rfl) rfl ?_
    intro bv S
    refine We<|WA.done kr<|Wg<|Lg' az rfl<|M<|We ?_
    obtain rfl:=oi k
    exact ⟨rfl,⟨au,ae,af,a6,ai,a7,a8,rfl,b,c,ah,(S.pk [2,3,4])⟩⟩
   refine WL.w (R.loadBN (i:=0) (vs:=[a9,ba,bb,(str o.fReason),bc,(str o.fBody),(int o.fRequested),(int o.fReceived)]) S rfl rfl lay92 rfl rfl)<|We ?_
   refine WA.two (i:=1) (j:=3) (bm 8 7) (bm 8 13) rfl rfl kr rfl rfl ?_ ?_
   ·refine Lo 2 S<|We<|WA.one (i:=3) (bm 8 15) rfl kr rfl<|B k fun p bd k=>W.call S rfl (zAT S.holds (hG.post S.post) o z aa ab ac bd) ?_
    rintro b5 b6 b7 be S ⟨a0,a1,a2,a3,rfl,q,t,u,x⟩
    have ⟨b,z,aa,ab,ac,d,c⟩:=U7 be b z aa ab ac d c
    refine We<|WA.one (i:=4) (bm 8 31) rfl kr rfl<|W.bslice (α:=GEntry) [(agg [a0,a1,a2,(str p.fReason),a3,(str p.fBody),(int p.fRequested),(int p.fReceived)])] ([p]:List GEntry) S el60 rfl rfl rfl (by decide) (Go.Eng.encS ⟨rfl,_,_,_,_,rfl,q,t,u,x⟩ enc0) ?_
    intro bq br bs aq ad S
    have ⟨b,z,aa,ab,ac,d,q,t,u,x,c⟩:=U11 aq b z aa ab ac d q t u x c
    refine We<|WA.one (i:=5) (bm 8 63) rfl kr rfl<|B k fun bt ar k=>W.app (α:=GEntry) (i:=2) S el60 rfl rfl rfl d ad ar ?_
    intro af bu au av ah S
    have ⟨b,z,aa,ab,ac,d,q,t,u,x,ad,c⟩:=U12 av b z aa ab ac d q t u x ad c
    refine We ?_
    refine At_ 6 8 127 rfl (fun _=>(R.fieldB ai zBU))<|WA.one (i:=7) (bm 8 255) rfl kr rfl ?_
    refine W.storeSl (α:=GEntry) (i:=3) [ae,af] S ah rfl rfl rfl lay60 (Nat.le_of_ble_eq_true rfl) rfl ?_
    intro bv S
    refine We<|WA.done kr<|Wg<|Lg' az rfl<|M<|We ?_
    obtain rfl:=oi k
    exact ⟨rfl,⟨au,ae,af,a6,ai,a7,a8,rfl,b,c,ah,(S.pk [2,3,4])⟩⟩
   refine B k fun p bd k=>W.call S rfl (zAT S.holds (hG.post S.post) o z aa ab ac bd) ?_
   rintro b5 b6 b7 be S ⟨a0,a1,a2,a3,rfl,q,t,u,x⟩
   have ⟨b,c,d⟩:=U3 be b c d
   refine We ?_
   refine WA.two (i:=1) (j:=4) (bm 8 15) (bm 8 29) rfl rfl kr rfl rfl ?_ ?_
   ·refine Lo 2 S<|We<|WA.one (i:=4) (bm 8 31) rfl kr rfl<|W.bslice (α:=GEntry) [(agg [a0,a1,a2,(str p.fReason),a3,(str p.fBody),(int p.fRequested),(int p.fReceived)])] ([p]:List GEntry) S el60 rfl rfl rfl (by decide) (Go.Eng.encS ⟨rfl,_,_,_,_,rfl,q,t,u,x⟩ enc0) ?_
    intro bq br bs aq ad S
    have ⟨b,q,t,u,x,d,c⟩:=U7 aq b q t u x d c
    refine We<|WA.one (i:=5) (bm 8 63) rfl kr rfl<|B k fun bt ar k=>W.app (α:=GEntry) (i:=2) S el60 rfl rfl rfl d ad ar ?_
    intro af bu au av ah S
    have ⟨b,q,t,u,x,d,ad,c⟩:=U8 av b q t u x d ad c
    refine We ?_
    refine At_ 6 8 127 rfl (fun _=>(R.fieldB ai zBU))<|WA.one (i:=7) (bm 8 255) rfl kr rfl ?_
    refine W.storeSl (α:=GEntry) (i:=3) [ae,af] S ah rfl rfl rfl lay60 (Nat.le_of_ble_eq_true rfl) rfl ?_
    intro bv S
    refine We<|WA.done kr<|Wg<|Lg' az rfl<|M<|We ?_
    obtain rfl:=oi k
    exact ⟨rfl,⟨au,ae,af,a6,ai,a7,a8,rfl,b,c,ah,(S.pk [2,3,4])⟩⟩
   refine W.bslice (α:=GEntry) [(agg [a0,a1,a2,(str p.fReason),a3,(str p.fBody),(int p.fRequested),(int p.fReceived)])] ([p]:List GEntry) S el60 rfl rfl rfl (by decide) (Go.Eng.encS ⟨rfl,_,_,_,_,rfl,q,t,u,x⟩ enc0) ?_
   intro bq br bs aq ad S
   have ⟨b,c,d⟩:=U3 aq b c d
   refine We<|WA.one (i:=1) (bm 8 31) rfl kr rfl ?_
   refine Lo 3 S<|We<|WA.one (i:=5) (bm 8 63) rfl kr rfl<|B k fun bt ar k=>W.app (α:=GEntry) (i:=2) S el60 rfl rfl rfl d ad ar ?_
   intro af bu au av ah S
   have ⟨b,d,c⟩:=U3 av b d c
   refine We ?_
   refine At_ 6 8 127 rfl (fun _=>(R.fieldB ai zBU))<|WA.one (i:=7) (bm 8 255) rfl kr rfl ?_
   refine W.storeSl (α:=GEntry) (i:=3) [ae,af] S ah rfl rfl rfl lay60 (Nat.le_of_ble_eq_true rfl) rfl ?_
   intro bv S
   refine We<|WA.done kr<|Wg<|Lg' az rfl<|M<|We ?_
   obtain rfl:=oi k
   exact ⟨rfl,⟨au,ae,af,a6,ai,a7,a8,rfl,b,c,ah,(S.pk [2,3,4])⟩⟩
  refine CF bp<|Wx ?_
  obtain rfl:=oi k
  obtain rfl:=ch
  exact ⟨ay,ae,a5,a6,ai,c,d,S⟩
 intro f w hM
 obtain ⟨b0,bn⟩:=bk
 obtain ⟨bg,ap,ak,b8,ck,b9,ca,S⟩:=hM
 refine Ws<|Wg ?_
 refine WL.w (R.loadBN (i:=1) (vs:=[ap,ak]) S ck rfl lay62 rfl rfl) ?_
 refine W.store (i:=2) [ap,ak] S b8 rfl rfl lay62 rfl (AllOne.all (l:=[ap,ak]) (.cons (Sl.oneC b9) (.cons (Sl.oneC ca) .nil))) (Nat.le_of_ble_eq_true rfl) rfl ?_
 intro cw S
 refine We ?_
 obtain rfl:=oi h
 refine WP.ret (Out.one rfl S (Res.cellB (i:=2) (cs:=[ap,ak]) S b8 rfl lay62 rfl rfl) ?_)
 exact ⟨_,_,rfl,b9,ca⟩
theorem zDo {c:World} {b:Hp} (hw:Holds c b) (hG:Tryz.Gl c) (i:(List Str)) (l:(List GField)) {o:Value} {p:Value} (t:Sl b o i) (ae:Sl b p l) {r:(List Str)} (h:zDO i l=some r) :
  Con Tryz.prog 197 [o,p] c b (fun H' v=>Sl H' v r):=by
 refine CM 22 Tryz.func197 hw fun S=>?_
 refine Ws<|Wg<|A<|We<|Ws<|Wg<|A<|We<|Ws<|Ws<|Wg<|M ?_
 refine Nq t<|M<|We<|B h fun u x h=>WP.cut (fun f w=>∃ (q:Hp),f 5=(.slice none 0 0)∧St c b w q []) ?_ ?_
 ·refine Wb ?_
  refine WP.loopM (zDk i) (fun s f w=>match s with | _=>∃ (j:Hp),f 5=(.slice none 0 0)∧f 9=(int (i.length:Int))∧f 10=(int 0)∧St c b w j []) () u (lfW x) ?_ ?_
  ·exact ⟨b,rfl,rfl,rfl,S⟩
  intro s f w hI y7 d z
  obtain ⟨j,h2,h3,h4,S⟩:=hI
  refine Ws<|Wg<|La' h4 h3<|We<|Ws ?_
  rcases condE d with ⟨k,d⟩ | ⟨k,d⟩
  ·refine CT k ?_
   cases d
  refine CF k<|Wx ?_
  obtain rfl:=oi d
  obtain rfl:=z
  exact ⟨j,h2,S⟩
 rintro f w ⟨q,h6,S⟩
 refine Ws<|Wg<|M' h6<|A<|We ?_
 exact WP.ret (Rl h S Sl.nil)
theorem zCX {c:World} {b:Hp} (hw:Holds c b) (hG:Tryz.Gl c) (i:(List Str)) (o:(List Str)) {p:Value} {q:Value} (t:Sl b p i) (v:Sl b q o) {r:Bool} (h:zBS i o=some r) :
  Cb Tryz.prog 219 [p,q] c b r:=by
 refine CM 26 Tryz.func219 hw fun S=>?_
 refine Ws<|Wg<|A<|We<|Ws<|Ws<|Wg<|M<|Nq t<|M<|Nq v<|Lf ?_
 refine We ?_
 rcases condE h with ⟨j,h⟩ | ⟨j,h⟩
 ·refine CT j ?_
  cases h
 refine CF j<|Wk<|Ws<|Ws<|Wg<|M<|Nq t<|M<|We<|B h fun x z h=>WP.cut (fun f w=>∃ (u:Hp),St c b w u []) ?_ ?_
 ·refine Wb ?_
  refine WP.loopM (zBB i) (fun s f w=>match s with | _=>∃ (k:Hp),f 12=(int (i.length:Int))∧f 13=(int 0)∧St c b w k []) () x (lfW z) ?_ ?_
  ·exact ⟨b,rfl,rfl,S⟩
  intro s f w hI y6 d aa
  obtain ⟨k,h3,h4,S⟩:=hI
  refine Ws<|Wg<|La' h4 h3<|We<|Ws ?_
  rcases condE d with ⟨l,d⟩ | ⟨l,d⟩
  ·refine CT l ?_
   cases d
  refine CF l<|Wx ?_
  obtain rfl:=oi d
  obtain rfl:=aa
  exact ⟨k,S⟩
 rintro f w ⟨u,S⟩
 refine Ws<|Wg<|A<|We ?_
 exact WP.ret (Rb h S)
theorem zG4 {f:World} {d:Hp} (hw:Holds f d) (hG:Tryz.Gl f) (i:(List Str)) (j:(List Str)) (l:(List GField)) {o:Value} {p:Value} {q:Value} (t:Sl d o i) (k:Sl d p j) (v:Sl d q l) {r:Bool} (h:zGg i j l=some r) :
  Cb Tryz.prog 153 [o,p,q] f d r:=by
 refine CM 19 Tryz.func153 hw fun S=>?_
 refine Ws<|Wg<|A<|We<|Ws<|Wg<|M<|Nq t<|M<|Nq k<|Le<|M<|B h fun x c h=>WL.grpw 6 [13,14,15,16,17] 18 (boo x) (fun w=>∃ H':Hp,d.le H'∧St f d w H' []) ?_ ?_
 ·rcases boolE ((i.length:Int)==(j.length:Int)) with b | b
  ·replace c:=condT c b
   refine Gy b<|M<|Gy b<|M<|Gy b<|B c fun z aa c=>W.call S rfl (zDo S.holds (hG.post S.post) i l t v aa) ?_
   rintro v4 w5 H6 u S R8
   have k:=k.up u
   refine Gy b<|M<|Gy b<|B c fun r9 ac c=>W.call S rfl (zCX S.holds (hG.post S.post) z j R8 k ac) ?_
   rintro ak al ad ae S rfl
   refine Pt b ?_
   exact We ⟨(ob c),ag,⟨ad,(u.trans ae),S⟩⟩
  replace c:=condF c b
  refine Gn b<|Gn b<|Gn b<|Gn b<|Gn b<|Pf b ?_
  exact We ⟨(ob c),ag,⟨d,lr,S⟩⟩
 intro us am ⟨an,ao,S⟩
 refine A<|We ?_
 exact WP.ret (Rb h S)
theorem zGX {d:World} {c:Hp} (hw:Holds d c) (hG:Tryz.Gl d) (b:GEntry) (f:(List GField)) {i:Value} {j:Value} {k:Value} {l:Value} {o:Value} {p:Addr} (z:Sl c i b.fKeys) (q:Sl c j b.fVary) (t:Sl c k b.fSnapshot) (aa:Sl c l b.fFields) (u:At c p [o]) (v:Sl c o f) {r:Bool} (h:zD2 b f=some r) :
  Cb Tryz.prog 152 [(agg [i,j,k,(str b.fReason),l,(str b.fBody),(int b.fRequested),(int b.fReceived)]),(.pointer (some p))] d c r:=by
 refine CM 10 Tryz.func152 hw fun S=>?_
 refine Ws<|Wg ?_
 refine W.box [i,j,k,(str b.fReason),l,(str b.fBody),(int b.fRequested),(int b.fReceived)] S rfl rfl ?_
 intro b1 w2 S
 refine A<|We<|Ws<|Wg<|Fb ?_
 refine Lo 0 S<|Fb ?_
 refine Lo 0 S ?_
 refine Lq S u<|B h fun r3 x h=>W.call S rfl (zG4 S.holds (hG.post S.post) b.fVary b.fSnapshot f q t v x) ?_
 rintro v4 w5 H6 ai S rfl
 refine A<|We ?_
 exact WP.ret (Rb h S)
theorem zG3 {i:World} {d:Hp} (hw:Holds i d) (hG:Tryz.Gl i) (j:(List GEntry)) (q:(GEntry→Option Bool)) {l:Value} {kp_test:FuncId} {cp_test:List Value} (o:Sl d l j) (Fp_test:∀ {w:World} {H:Hp},d.le H→Holds w H→Tryz.Gl w→∀ (c:GEntry),∀ {aa ab ac ad:Value},Sl H aa c.fKeys→Sl H ab c.fVary→Sl H ac c.fSnapshot→Sl H ad c.fFields→∀ (rr:Bool),q c=some rr→Con Tryz.prog kp_test ([(agg [aa,ab,ac,(str c.fReason),ad,(str c.fBody),(int c.fRequested),(int c.fReceived)])]++cp_test) w H (fun H' v=>v=(boo rr))) {r:Int} (h:zGi j q=some r) :
  Ci Tryz.prog 151 [l,(.func (.func kp_test) #[] cp_test.toArray)] i d r:=by
 refine CM 20 Tryz.func151 hw fun S=>?_
 refine Ws<|Wg<|A<|We<|Ws<|Ws<|Wg<|M<|Nq o<|Lh<|A<|We<|B h fun t ah h=>WP.cut (fun f w=>match t with | .inl _=>∃ (H5:Hp),St i d w H5 [] | .inr _=>False) ?_ ?_
 ·refine Wb ?_
  refine WP.loopM (zFQ j q) (fun s f w=>match s with | _=>∃ (p:Hp),f 0=l∧f 1=(.func (.func kp_test) #[] cp_test.toArray)∧f 5=(int (wr ((j.length:Int) - 1)))∧Sl p l j∧St i d w p []) () t (lfW ah) ?_ ?_
  ·exact ⟨d,rfl,rfl,rfl,o,S⟩
  intro s f w hI y6 b af
  obtain ⟨p,h2,h3,u,o,S⟩:=hI
  refine Ws<|Ws<|Wg<|M' u<|Ld<|We ?_
  rcases condE b with ⟨x,b⟩ | ⟨x,b⟩
  ·refine CT x<|Wk<|Ws<|Wb<|Ws<|Wg<|M' h3<|M' h2<|M' u<|B b fun k ak b=>W.idx (α:=GEntry) o rfl rfl el60 ak ?_
   rintro ay _ al ⟨am,an,ao,ap,rfl,aq,ar,au,av⟩
   refine WL.w (R.loadHN (vs:=[am,an,ao,(str k.fReason),ap,(str k.fBody),(int k.fRequested),(int k.fReceived)]) S rfl al lay92 rfl rfl)<|B b fun az aw b=>W.callv S rfl rfl (Fp_test (S.post.le) S.holds (hG.post S.post) k aq ar au av _ aw) ?_
   rintro a0 a1 a2 a3 S rfl
   refine We ?_
   rcases condE b with ⟨z,b⟩ | ⟨z,b⟩
   ·refine CT z<|Ws<|Wg<|M' u<|A<|We ?_
    obtain rfl:=oi b
    obtain rfl:=af
    exact WP.ret (Ri h S)
   refine CF z ?_
   cases b
  refine CF x<|Wx ?_
  obtain rfl:=oi b
  obtain rfl:=af
  exact ⟨p,S⟩
 intro f w hM
 rcases t with _ | e
 ·obtain ⟨H5,S⟩:=hM
  refine Ws<|Wg<|A<|We ?_
  exact WP.ret (Ri h S)
 exact hM.elim
theorem zG5 {c:World} {b:Hp} (hw:Holds c b) (hG:Tryz.Gl c) (d:GTable) (f:(List GField)) (u:Bool) {j:Value} {k:Value} {l:Value} (aa:Sl b j d.fAxes) (p:Sl b k d.fEntries) (o:Sl b l f) {r:(Int×Bool)} (h:zGc d f u=some r) :
  Con Tryz.prog 94 [(agg [j,k]),l,(boo u)] c b (fun H' v=>v=(.tuple ⟨[(int r.1),(boo r.2)]⟩)):=by
 refine CM 32 Tryz.func94 hw fun S=>?_
 refine Ws<|Wg ?_
 refine W.box [j,k] S rfl rfl ?_
 intro b1 w2 S
 refine W.box [l] S rfl (congrArg Array.toList (Sl.cellsOne o)) ?_
 intro x w4 S
 refine A<|A<|We<|Ws<|Ws<|Wg<|Fb ?_
 refine Lo 1 S<|Nq aa<|Le<|We ?_
 rcases condE h with ⟨q,h⟩ | ⟨q,h⟩
 ·refine CT q<|Ws<|Wg<|Fb ?_
  refine Lo 1 S ?_
  obtain ⟨z,ac,ad,_,S⟩:=S.settle (i:=0) rfl
  replace S:St c b _ z [.box b1 62 [j,k]]:=S
  have ae:At z ⟨x,0,none⟩ [l]:=⟨_,_,rfl,ad,[],by simp⟩
  have ⟨p,o⟩:=U2 ac p o
  refine WL.w (R.mkFunc (vs:=[(.pointer (some ⟨x,0,none⟩))]) rfl)<|B h fun an af h=>W.call S rfl (zG3 S.holds (hG.post S.post) d.fEntries (fun t=>zD2 t f) p (fun hle hw hG t=>fun ah ai aj ak r h=>zGX hw hG t f ah ai aj ak (At.mono ae hle (by simp)) (o.up hle) h) af) ?_
  rintro ao ap aq ar S rfl
  refine A<|A<|We ?_
  obtain rfl:=oi h
  refine WP.ret (Out.two rfl S rfl rfl ?_)
  exact rfl
 refine CF q ?_
 cases h
theorem zHD {f:World} {l:Hp} (hw:Holds f l) (hG:Tryz.Gl f) (d:Int) (c:UInt8) {r:Int} (h:zGz d c=some r) :
  Ci Tryz.prog 283 [(int d),(byt c)] f l r:=by
 refine CM 21 Tryz.func283 hw fun S=>?_
 refine Ws<|Wg<|A<|We<|Ws<|Wb<|Ws<|Wg<|M<|Le<|A<|We ?_
 rcases condE h with ⟨i,h⟩ | ⟨i,h⟩
 ·refine CT i ?_
  cases h
 refine CF i<|Ws<|Wg<|M<|Le<|M ?_
 refine WL.grp 3 [12,13] 14 (boo ((d==1)&&(c==92))) ?_ ?_
 ·rcases boolE (d==1) with b | b
  ·refine Gy b<|M<|Gy b<|Me c 92<|Pt b ?_
   exact We ⟨(andT b),ag,rfl⟩
  refine Gn b<|Gn b<|Pf b ?_
  exact We ⟨(andF b),ag,rfl⟩
 intro us
 refine A<|We ?_
 rcases condE h with ⟨j,h⟩ | ⟨j,h⟩
 ·refine CT j ?_
  cases h
 refine CF j<|Ws<|Wg<|M<|Me c 34<|A<|We ?_
 rcases condE h with ⟨k,h⟩ | ⟨k,h⟩
 ·refine CT k ?_
  cases h
 refine CF k<|Wk<|Ws<|Wg<|M<|A<|We ?_
 exact WP.ret (Ri h S)
theorem zHB {x:World} {z:Hp} (hw:Holds x z) (hG:Tryz.Gl x) (q:Str) {r:(List Str)} (h:zGd q=some r) :
  Con Tryz.prog 225 [(str q)] x z (fun H' v=>Sl H' v r):=by
 refine CM 52 Tryz.func225 hw fun S=>?_
 refine Ws<|Wg<|A<|We<|Ws<|Wg<|A<|We<|Ws<|Wg<|A<|A ?_
 refine We<|Ws<|Ws<|Wg<|A<|We ?_
 have S:=S.addNil 9 1
 refine B h fun ah aq h=>WP.cut (fun f w=>∃ (ai:Hp) (ab:Value),f 3=ab∧Sl ai ab ah∧St x z w ai [.row ab 9 1 ah.length]) ?_ ?_
 ·refine Wb ?_
  refine WP.loopM (zFC q) (fun s f w=>match s with | (ac,ad,an,aa)=>∃ (H1:Hp) (u:Value),f 0=(str q)∧f 3=u∧f 4=(int ad)∧f 5=(int an)∧f 6=(int aa)∧Sl H1 u ac∧St x z w H1 [.row u 9 1 ac.length]) (([]:List Str),0,0,0) ah (lfW aq) ?_ ?_
  ·exact ⟨z,.slice none 0 0,rfl,rfl,rfl,rfl,rfl,Sl.nil,S⟩
  intro s f w hI bg b ar
  obtain ⟨ac,ad,an,aa⟩:=s
  obtain ⟨H1,u,t,h6,h8,ao,l,j,S⟩:=hI
  refine Ws<|Ws<|Wg<|M' l<|M' t<|Ns<|Lb<|M ?_
  refine WL.grp 4 [13,14,15] 16 (boo ((decide (aa≤(q.length:Int)))&&(decide ((ac.length:Int)<64)))) ?_ ?_
  ·rcases boolE (decide (aa≤(q.length:Int))) with k | k
   ·refine Gy k<|M' h6<|Gy k<|Nq j<|Gy k<|La<|Pt k ?_
    exact We ⟨(andT k),ag,rfl⟩
   refine Gn k<|Gn k<|Gn k<|Pf k ?_
   exact We ⟨(andF k),ag,rfl⟩
  intro us
  refine We ?_
  rcases condE b with ⟨ak,b⟩ | ⟨ak,b⟩
  ·refine CT ak<|Wk<|Ws<|Wb<|Ws<|Ws<|Wg<|M' l<|M' t<|Ns<|La<|M<|B b fun au o b=>WL.grp 9 [24,25,26,27,28,29,30,31] 32 (boo au) ?_ ?_
   ·rcases boolE (decide (aa<(q.length:Int))) with c | c
    ·replace o:=condT o c
     refine Gy c<|M' h8<|Gy c<|Lf<|Gy c<|M<|B o fun av p o=>WL.grp 5 [27,28,29,30] 31 (boo av) ?_ ?_
     ·rcases boolE (ad !=0) with d | d
      ·replace p:=condT p d
       refine Gn d<|Gn d<|Gn d<|Gn d<|Gy c<|Pt d ?_
       exact We ⟨(ob p),ag,rfl⟩
      replace p:=condF p d
      refine Gy d<|M' t<|Gy d<|M' l<|Gy d<|B p fun aw ax p=>Ja ax<|Gy d<|Mf aw 44<|Gy c<|Pf d ?_
      exact We ⟨(ob p),ag,rfl⟩
     intro us
     refine Pt c ?_
     exact We ⟨(ob o),ag,rfl⟩
    replace o:=condF o c
    refine Gn c<|Gn c<|Gn c<|WL.gund rfl rfl<|WL.gund rfl rfl<|WL.gund rfl rfl<|WL.gund rfl rfl<|Gn c<|Pf c ?_
    exact We ⟨(ob o),ag,rfl⟩
   intro us
   refine We ?_
   rcases condE b with ⟨al,b⟩ | ⟨al,b⟩
   ·refine CT al<|Ws<|Wg<|M' h8<|M' t<|M' l<|B b fun ay az b=>Ja az<|B b fun bh a0 b=>W.call S rfl (zHD S.holds (hG.post S.post) ad ay a0) ?_
    rintro bi bj a1 a2 S rfl
    have j:=j.up a2
    refine A<|We<|Wx<|Wg<|M' l<|Lg<|A<|We ?_
    obtain rfl:=oi b
    exact ⟨rfl,⟨a1,u,t,h6,rfl,ao,rfl,j,S⟩⟩
   refine CF al<|Wk<|Ws<|Ws<|Wg<|M' t<|M' ao<|M' l<|B b fun a3 a4 b=>Jb a4<|B b fun ap a5 b=>W.call S rfl (zDa S.holds (hG.post S.post) a3 a5) ?_
   rintro bk bn bo a6 S rfl
   have j:=j.up a6
   refine A<|We<|Ws<|Wg<|M<|Nb<|We ?_
   rcases condE b with ⟨am,b⟩ | ⟨am,b⟩
   ·refine CT am<|Wg<|M' h6<|M<|W.bslice (α:=Str) [(str ap)] ([ap]:List Str) S el45 rfl rfl rfl (by decide) (Go.Eng.encS ⟨rfl,rfl⟩ enc0) ?_
    intro bp bq br a7 a8 S
    have j:=j.up a7
    refine B b fun bs a9 b=>W.app (α:=Str) (i:=1) S el45 rfl rfl rfl j a8 a9 ?_
    intro ba bt bb bc bd S
    have j:=j.up bc
    refine A<|We<|Wg<|M' l<|Lg<|A<|We<|Wg<|M' l<|Lg<|A<|We ?_
    obtain rfl:=oi b
    exact ⟨rfl,⟨bb,ba,t,rfl,h8,rfl,rfl,bd,(S.pk [1])⟩⟩
   refine CF am ?_
   cases b
  refine CF ak<|Wx ?_
  obtain rfl:=oi b
  obtain rfl:=ar
  exact ⟨H1,u,h6,j,S⟩
 rintro f w ⟨ai,ab,be,bf,S⟩
 refine Ws<|Wg<|M' be<|A<|We ?_
 exact WP.ret (Rl h S bf)
theorem zDF {j:World} {k:Hp} (hw:Holds j k) (hG:Tryz.Gl j) (q:(List GField)) (t:Str) {ad:Value} (am:Sl k ad q) {r:(List Str)} (h:zEH q t=some r) :
  Con Tryz.prog 158 [ad,(str t)] j k (fun H' v=>Sl H' v r):=by
 refine CM 26 Tryz.func158 hw fun S=>?_
 refine Ws<|Wg<|A<|We<|Ws<|Wg<|A<|We<|Ws<|Ws<|Wg<|M ?_
 refine M<|B h fun u an h=>W.call S rfl (zB2 S.holds (hG.post S.post) q t am an) ?_
 rintro v2 w3 H4 a7 S c
 refine Nq c<|M<|We ?_
 have S:=S.addNil 9 1
 refine B h fun x ap h=>WP.cut (fun f w=>∃ (z:Hp) (p:Value),f 5=p∧Sl z p x∧St j k w z [.row p 9 1 x.length]) ?_ ?_
 ·refine Wb ?_
  refine WP.loopM (zGG u) (fun s f w=>match s with | (aa,af)=>∃ (l:Hp) (o:Value),f 5=o∧f 10=v2∧f 11=(int (u.length:Int))∧f 12=(int af)∧Sl l o aa∧Sl l v2 u∧St j k w l [.row o 9 1 aa.length]) (([]:List Str),0) x (lfW ap) ?_ ?_
  ·exact ⟨H4,.slice none 0 0,rfl,rfl,rfl,rfl,Sl.nil,c,S⟩
  intro s f w hI a8 b aq
  obtain ⟨aa,af⟩:=s
  obtain ⟨l,o,ah,ai,aj,ab,d,c,S⟩:=hI
  refine Ws<|Wg<|La' ab aj<|We<|Ws ?_
  rcases condE b with ⟨ac,b⟩ | ⟨ac,b⟩
  ·refine CT ac<|Wk<|Ws<|Wb<|Ws<|Wg<|B b fun ar au b=>W.idx (α:=Str) c ai ab el45 au ?_
   rintro a9 _ av rfl
   refine Lq S av<|A<|We<|Wg<|M' ah<|M<|B b fun ba aw b=>W.call S rfl (zHB S.holds (hG.post S.post) ar aw) ?_
   rintro bb bc bd ax S ay
   have ⟨d,c⟩:=U2 ax d c
   refine B b fun be az b=>W.app (α:=Str) (i:=0) S el45 rfl rfl rfl d ay az ?_
   intro a0 bf a1 a2 a3 S
   have ⟨d,c⟩:=U2 a2 d c
   refine A<|We<|Wg<|Lg' ab rfl<|M<|We ?_
   obtain rfl:=oi b
   exact ⟨rfl,⟨a1,a0,rfl,ai,aj,rfl,a3,c,S⟩⟩
  refine CF ac<|Wx ?_
  obtain rfl:=oi b
  obtain rfl:=aq
  exact ⟨l,o,ah,d,S⟩
 rintro f w ⟨z,p,ak,al,S⟩
 refine Ws<|Wg<|M' ak<|M' ak<|Nq al<|Ni<|B h fun bg a4 h=>W.subHi (α:=Str) al rfl rfl el45 a4 ?_
 intro bh a5
 refine A<|We ?_
 exact WP.ret (Rl h S a5)
theorem zEm {k:World} {l:Hp} (hw:Holds k l) (hG:Tryz.Gl k) (p:Str) {r:(Str×Gcachecontrol_directive)} (h:zDX p=some r) :
  Con Tryz.prog 184 [(str p)] k l (fun H' v=>v=(.tuple ⟨[(str r.1),(agg [(int r.2.fform),(str r.2.fvalue)])]⟩)):=by
 refine CM 63 Tryz.func184 hw fun S=>?_
 refine Ws<|Wg<|A ?_
 refine W.alloc [(int 0),(str [])] S zDI ?_
 intro q w2 S
 refine We<|Ws<|Wg<|A<|We<|Ws<|B h fun ae ao h=>WP.cut (fun f w=>∃ (H8:Hp),f 0=(str p)∧f 3=(ptr q 0)∧f 4=(int ae)∧St k l w H8 [.box q 258 [(int 0),(str [])]]) ?_ ?_
 ·refine Wb ?_
  refine WP.loopM (zCL p) (fun s f w=>match s with | aa=>∃ (x:Hp),f 0=(str p)∧f 3=(ptr q 0)∧f 4=(int aa)∧St k l w x [.box q 258 [(int 0),(str [])]]) 0 ae (lfW ao) ?_ ?_
  ·exact ⟨l,rfl,rfl,rfl,S⟩
  intro aa f w hI ba o ap
  obtain ⟨x,z,h5,t,S⟩:=hI
  refine Ws<|Ws<|Wg<|M' t<|M' z<|Ns<|La<|M<|B o fun aq c o=>WL.grpw 7 [15,16,17,18,19,20] 21 (boo aq) (fun w=>∃ H':Hp,x.le H'∧St k l w H' [.box q 258 [(int 0),(str [])]]) ?_ ?_
  ·rcases boolE (decide (aa<(p.length:Int))) with b | b
   ·replace c:=condT c b
    refine Gy b<|M' z<|Gy b<|M' t<|Gy b<|M' t<|Gy b<|Lg<|Gy b<|B c fun ar au c=>Jb au<|Gy b<|B c fun bb av c=>W.call S rfl (zA0 S.holds (hG.post S.post) ar av) ?_
    rintro bc bd aw ax S rfl
    refine Pt b ?_
    exact We ⟨(ob c),ag,⟨aw,ax,S⟩⟩
   replace c:=condF c b
   refine Gn b<|Gn b<|Gn b<|Gn b<|Gn b<|Gn b<|Pf b ?_
   exact We ⟨(ob c),ag,⟨x,lr,S⟩⟩
  intro us be ⟨ai,bf,S⟩
  refine We ?_
  rcases condE o with ⟨ab,o⟩ | ⟨ab,o⟩
  ·refine CT ab<|Wk<|Wb<|Wg<|M' t<|Lg<|A<|We ?_
   obtain rfl:=oi o
   exact ⟨rfl,⟨ai,z,h5,rfl,S⟩⟩
  refine CF ab<|Wx ?_
  obtain rfl:=oi o
  obtain rfl:=ap
  exact ⟨ai,z,h5,t,S⟩
 rintro f w ⟨H8,h9,ak,al,S⟩
 refine Ws<|WP.quiet S kr kr<|QM' h9<|QM' al<|B h fun ay az h=>QJd az<|B h fun a0 a1 h=>WQ.call (v:=str a0) rfl (fun w H' hq S=>zAk S.holds (hG.post S.post) ay a1)<|QM' h9<|QM' al<|B h fun bg a2 h=>QJc a2<|QA<|QA<|WQ.nil ?_
 intro bh am bi S
 refine Ws<|Ws<|Wg<|M<|Na<|We ?_
 rcases condE h with ⟨ac,h⟩ | ⟨ac,h⟩
 ·refine CT ac ?_
  cases h
 refine CF ac<|Wk<|Ws<|Wg<|M<|B h fun u a3 h=>Jc a3<|A<|We<|Ws<|Ws<|Wg<|M<|B h fun an a4 h=>Ja a4<|Me an 61<|M<|B h fun a5 j h=>WL.grpw 3 [41,42] 43 (boo a5) (fun w=>∃ H':Hp,am.le H'∧St k l w H' [.box q 258 [(int 0),(str [])]]) ?_ ?_
 ·rcases boolE (an==61) with d | d
  ·replace j:=condT j d
   refine Gy d<|M<|Gy d<|B j fun bj a6 j=>W.call S rfl (zA0 S.holds (hG.post S.post) u a6) ?_
   rintro bk bn a7 a8 S rfl
   refine Pt d ?_
   exact We ⟨(ob j),ag,⟨a7,a8,S⟩⟩
  replace j:=condF j d
  refine Gn d<|Gn d<|Pf d ?_
  exact We ⟨(ob j),ag,⟨am,lr,S⟩⟩
 intro us bo ⟨bp,bq,S⟩
 refine We ?_
 rcases condE h with ⟨ad,h⟩ | ⟨ad,h⟩
 ·refine CT ad<|Ws<|Wg<|M<|M ?_
  refine WL.w (R.build [(0,(int 1)),(1,(str u))] [(int 1),(str u)] bp258 zDI rfl rfl)<|A ?_
  refine W.store (i:=0) [(int 1),(str u)] S ak rfl rfl zBt rfl rfl (Nat.le_of_ble_eq_true rfl) rfl ?_
  intro br S
  refine We ?_
  obtain rfl:=oi h
  refine WP.ret (Out.two rfl S rfl (Res.cellB (i:=0) (cs:=[(int 1),(str u)]) S ak rfl zBt rfl rfl) ?_)
  exact rfl
 refine CF ad ?_
 cases h
theorem zAg {d:World} {j:Hp} (hw:Holds d j) (hG:Tryz.Gl d) (c:Gcachecontrol_directive) (k:Int) (l:Int) {r:Int} (h:zAd c k l=some r) :
  Ci Tryz.prog 185 [(agg [(int c.fform),(str c.fvalue)]),(int k),(int l)] d j r:=by
 refine CM 30 Tryz.func185 hw fun S=>?_
 refine Ws<|Wg ?_
 refine W.box [(int c.fform),(str c.fvalue)] S rfl rfl ?_
 intro q t S
 refine A<|We<|Ws<|Wg<|Fb ?_
 refine Lo 0 S<|B h fun o p h=>W.call S rfl (zA9 S.holds (hG.post S.post) c.fvalue p) ?_
 rintro u v x z S rfl
 refine M ?_
 refine Ex ?_
 refine Ex<|A<|A<|We<|Ws<|Wb<|Ws<|Wg<|Fb ?_
 refine Lo 0 S ?_
 refine Le<|A<|We ?_
 rcases condE h with ⟨f,h⟩ | ⟨f,h⟩
 ·refine CT f ?_
  cases h
 refine CF f<|Ws<|Wg<|Fb ?_
 refine Lo 0 S<|Le<|M ?_
 refine WL.grp 3 [25,26] 27 (boo ((c.fform==2)||(!o.2))) ?_ ?_
 ·rcases boolE (c.fform==2) with b | b
  ·refine Gn b<|Gn b<|Pt b ?_
   exact We ⟨(orT b),ag,rfl⟩
  refine Gy b<|M<|Gy b<|No<|Pf b ?_
  exact We ⟨(orF b),ag,rfl⟩
 intro us
 refine A<|We ?_
 rcases condE h with ⟨i,h⟩ | ⟨i,h⟩
 ·refine CT i ?_
  cases h
 refine CF i<|Wk<|Ws<|Wg<|M<|A<|We ?_
 exact WP.ret (Ri h S)
end Go.Proofs
