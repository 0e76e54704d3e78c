/- A part of the proof of laws of the seat: written by program over the translation. -/
import Derived.Test.YtipgfplekgdoiaaGreatDoorEng38
import Derived.Test.YtipgfplekgdoiaaGreatDoorEng32
import Derived.Test.YtipgfplekgdoiaaGreatDoorGenK14
namespace Go.Proofs
set_option maxHeartbeats 4000000
set_option maxRecDepth 10000
open Go.Eng Go.Eng.Pure
set_option linter.unusedVariables false
theorem zCf {w0:World} {H0:Hp} (hw:Holds w0 H0) (ae:GEntry) {dy:Value} {cr:Value} {ct:Value} {cu:Value} (aj:Sl (α:=(List Str)) H0 dy ae.fKeys) (g0:Sl (α:=Str) H0 cr ae.fVary) (g1:Sl (α:=Str) H0 ct ae.fSnapshot) (g2:Sl (α:=GField) H0 cu ae.fFields) {r:GEntry} (h:zEc ae=some r) :
  Con Tryz.prog 50 [(agg [dy,cr,ct,(str ae.fReason),cu,(str ae.fBody),(int ae.fRequested),(int ae.fReceived)])] w0 H0 (fun H' v=>∃ u1 u2 u3 u4:Value,v=(agg [u1,u2,u3,(str r.fReason),u4,(str r.fBody),(int r.fRequested),(int r.fReceived)])∧Sl (α:=(List Str)) H' u1 r.fKeys∧Sl (α:=Str) H' u2 r.fVary∧Sl (α:=Str) H' u3 r.fSnapshot∧Sl (α:=GField) H' u4 r.fFields):=by
 refine Con.mk (N:=36) Tryz.func50 rfl rfl kr rfl ?_
 have S:=St.start hw
 refine Ws<|Wg ?_
 refine W.box [dy,cr,ct,(str ae.fReason),cu,(str ae.fBody),(int ae.fRequested),(int ae.fReceived)] S rfl rfl ?_
 intro b1 w2 S
 refine W.alloc [(.slice none 0 0),(.slice none 0 0),(.slice none 0 0),(str []),(.slice none 0 0),(str []),(int 0),(int 0)] S zer36 ?_
 intro b3 w4 S
 refine We<|Ws<|Wg<|Fb ?_
 refine Lo 1 S<|A<|We<|Ws<|Wg<|Fb ?_
 refine W.store (i:=1) [(.slice none 0 0),cr,ct,(str ae.fReason),cu,(str ae.fBody),(int ae.fRequested),(int ae.fReceived)] S rfl rfl rfl lay33 rfl (AllOne.all (l:=[(.slice none 0 0)]) (.cons rfl .nil)) (Nat.le_of_ble_eq_true rfl) rfl ?_
 intro w5 S
 refine We<|Ws<|Ws<|Wg<|M<|Nq aj<|M<|We ?_
 obtain ⟨v6,fo⟩:∃ v:Value,v=.slice none 0 0:=⟨_,rfl⟩
 have R8:Sl (α:=(List Str)) H0 v6 []:=by rw [fo]; exact Sl.nil
 replace S:=(show ∀ {w:World},St w0 H0 w H0 [.box b3 36 [(.slice none 0 0),(.slice none 0 0),(.slice none 0 0),(str []),(.slice none 0 0),(str []),(int 0),(int 0)],.box b1 36 [(.slice none 0 0),cr,ct,(str ae.fReason),cu,(str ae.fBody),(int ae.fRequested),(int ae.fReceived)]]→St w0 H0 w H0 [.box b3 36 [(.slice none 0 0),(.slice none 0 0),(.slice none 0 0),(str []),(.slice none 0 0),(str []),(int 0),(int 0)],.box b1 36 [v6,cr,ct,(str ae.fReason),cu,(str ae.fBody),(int ae.fRequested),(int ae.fReceived)]] from fun S=>by rw [fo]; exact S) S
 replace S:=St.addNilV fo S 34 1
 refine B h fun fp g4 h=>WP.cut (fun f w=>match fp with | (af,a5,ay,q,az,t,u,x)=>∃ (ak:Hp) (b:Value) (fq:Value) (au:Value) (ah:Value),f 1=(ptr b1 0)∧f 2=(ptr b3 0)∧Sl (α:=(List Str)) ak b af∧Sl (α:=Str) ak fq a5∧Sl (α:=Str) ak au ay∧Sl (α:=GField) ak ah az∧St w0 H0 w ak [.row b 34 1 af.length,.box b3 36 [(.slice none 0 0),(.slice none 0 0),(.slice none 0 0),(str []),(.slice none 0 0),(str []),(int 0),(int 0)],.box b1 36 [b,fq,au,(str q),ah,(str t),(int u),(int x)]]) ?_ ?_
 ·refine Wb ?_
  refine WP.loopM (zDm ae) (fun s f w=>match s with | (fy,fr,fz,f0,dz,f1,d0,d1,d2)=>∃ (H9:Hp) (d3:Value) (bh:Value) (bi:Value) (bj:Value),f 1=(ptr b1 0)∧f 2=(ptr b3 0)∧f 9=dy∧f 10=(int (ae.fKeys.length:Int))∧f 11=(int fy)∧Sl (α:=(List Str)) H9 dy ae.fKeys∧Sl (α:=(List Str)) H9 d3 fr∧Sl (α:=Str) H9 bh fz∧Sl (α:=Str) H9 bi f0∧Sl (α:=GField) H9 bj f1∧St w0 H0 w H9 [.row d3 34 1 fr.length,.box b3 36 [(.slice none 0 0),(.slice none 0 0),(.slice none 0 0),(str []),(.slice none 0 0),(str []),(int 0),(int 0)],.box b1 36 [d3,bh,bi,(str dz),bj,(str d0),(int d1),(int d2)]]) (0,([]:List (List Str)),ae.fVary,ae.fSnapshot,ae.fReason,ae.fFields,ae.fBody,ae.fRequested,ae.fReceived) fp g4 ?_ ?_
  ·exact ⟨H0,v6,cr,ct,cu,rfl,rfl,rfl,rfl,rfl,aj,R8,g0,g1,g2,S⟩
  intro s f w hI h2 ar g5
  obtain ⟨fy,fr,fz,f0,dz,f1,d0,d1,d2⟩:=s
  obtain ⟨H9,d3,bh,bi,bj,cm,en,eo,ep,d4,aj,am,an,ao,ap,S⟩:=hI
  refine Ws<|Wg<|La' d4 ep<|We<|Ws ?_
  rcases condE ar with ⟨fs,ar⟩ | ⟨fs,ar⟩
  ·refine CT fs<|Wk<|Ws<|Wb<|Ws<|Wg<|B ar fun f2 g6 ar=>W.idx (α:=(List Str)) aj eo d4 el33 g6 ?_
   rintro h3 _ g7 ⟨g8,rfl,cn⟩
   refine Lq S g7<|A<|We<|WP.draw kr 8 rfl (bm 8 0) rfl ?_
   have S:=S.drew
   refine WA.take (i:=0) (bm 8 1) rfl kr kr kr rfl (fun _=>(R.fieldB cm zKB)) ?_
   refine WA.take (i:=2) (bm 8 5) rfl kr kr kr rfl (fun _=>(R.mv (v:=g8) rfl)) ?_
   refine WA.two (i:=1) (j:=3) (bm 8 7) (bm 8 13) rfl rfl kr rfl rfl ?_ ?_
   ·refine Lo 2 S<|We<|WA.one (i:=3) (bm 8 15) rfl kr rfl<|B ar fun eq ft ar=>W.call S rfl (zAD S.holds f2 cn ft) ?_
    rintro er g9 ha a6 S av
    have aj:=Sl.mono aj a6
    have cn:=Sl.mono cn a6
    have am:=Sl.mono am a6
    have an:=Sl.mono an a6
    have ao:=Sl.mono ao a6
    have ap:=Sl.mono ap a6
    refine We<|WA.one (i:=4) (bm 8 31) rfl kr rfl<|W.bslice (α:=(List Str)) [er] ([eq]:List (List Str)) S el33 rfl rfl rfl (by decide) (Go.Eng.encS ⟨(by rw [Sl.cellsOne av]; rfl),_,(by rw [Sl.cellsOne av]),av⟩ enc0) ?_
    intro f3 f4 f5 aq cj S
    have aj:=Sl.mono aj aq
    have cn:=Sl.mono cn aq
    have am:=Sl.mono am aq
    have av:=Sl.mono av aq
    have an:=Sl.mono an aq
    have ao:=Sl.mono ao aq
    have ap:=Sl.mono ap aq
    refine We<|WA.one (i:=5) (bm 8 63) rfl kr rfl<|B ar fun f6 d5 ar=>W.app (α:=(List Str)) (i:=1) S el33 rfl rfl rfl am cj d5 ?_
    intro co f7 d6 al cp S
    have aj:=Sl.mono aj al
    have cn:=Sl.mono cn al
    have am:=Sl.mono am al
    have av:=Sl.mono av al
    have cj:=Sl.mono cj al
    have an:=Sl.mono an al
    have ao:=Sl.mono ao al
    have ap:=Sl.mono ap al
    refine We ?_
    refine WA.take (i:=6) (bm 8 127) rfl kr kr kr rfl (fun _=>(R.fieldB cm zKB))<|WA.one (i:=7) (bm 8 255) rfl kr rfl ?_
    refine W.storeSl (α:=(List Str)) (i:=3) [co,bh,bi,(str dz),bj,(str d0),(int d1),(int d2)] S cp rfl rfl rfl lay33 (Nat.le_of_ble_eq_true rfl) rfl ?_
    intro f8 S
    refine We<|WA.done kr<|Wg<|Lg' d4 rfl<|M<|We ?_
    obtain rfl:=oi ar
    exact ⟨rfl,⟨d6,co,bh,bi,bj,cm,en,eo,ep,rfl,aj,cp,an,ao,ap,(S.drop _ (.cons _ (.cons_cons _ (.cons_cons _ (.cons_cons _ .slnil)))))⟩⟩
   refine B ar fun eq ft ar=>W.call S rfl (zAD S.holds f2 cn ft) ?_
   rintro er g9 ha a6 S av
   have aj:=Sl.mono aj a6
   have am:=Sl.mono am a6
   have an:=Sl.mono an a6
   have ao:=Sl.mono ao a6
   have ap:=Sl.mono ap a6
   refine We ?_
   refine WA.two (i:=1) (j:=4) (bm 8 15) (bm 8 29) rfl rfl kr rfl rfl ?_ ?_
   ·refine Lo 2 S<|We<|WA.one (i:=4) (bm 8 31) rfl kr rfl<|W.bslice (α:=(List Str)) [er] ([eq]:List (List Str)) S el33 rfl rfl rfl (by decide) (Go.Eng.encS ⟨(by rw [Sl.cellsOne av]; rfl),_,(by rw [Sl.cellsOne av]),av⟩ enc0) ?_
    intro f3 f4 f5 aq cj S
    have aj:=Sl.mono aj aq
    have av:=Sl.mono av aq
    have am:=Sl.mono am aq
    have an:=Sl.mono an aq
    have ao:=Sl.mono ao aq
    have ap:=Sl.mono ap aq
    refine We<|WA.one (i:=5) (bm 8 63) rfl kr rfl<|B ar fun f6 d5 ar=>W.app (α:=(List Str)) (i:=1) S el33 rfl rfl rfl am cj d5 ?_
    intro co f7 d6 al cp S
    have aj:=Sl.mono aj al
    have av:=Sl.mono av al
    have am:=Sl.mono am al
    have cj:=Sl.mono cj al
    have an:=Sl.mono an al
    have ao:=Sl.mono ao al
    have ap:=Sl.mono ap al
    refine We ?_
    refine WA.take (i:=6) (bm 8 127) rfl kr kr kr rfl (fun _=>(R.fieldB cm zKB))<|WA.one (i:=7) (bm 8 255) rfl kr rfl ?_
    refine W.storeSl (α:=(List Str)) (i:=3) [co,bh,bi,(str dz),bj,(str d0),(int d1),(int d2)] S cp rfl rfl rfl lay33 (Nat.le_of_ble_eq_true rfl) rfl ?_
    intro f8 S
    refine We<|WA.done kr<|Wg<|Lg' d4 rfl<|M<|We ?_
    obtain rfl:=oi ar
    exact ⟨rfl,⟨d6,co,bh,bi,bj,cm,en,eo,ep,rfl,aj,cp,an,ao,ap,(S.drop _ (.cons _ (.cons_cons _ (.cons_cons _ (.cons_cons _ .slnil)))))⟩⟩
   refine W.bslice (α:=(List Str)) [er] ([eq]:List (List Str)) S el33 rfl rfl rfl (by decide) (Go.Eng.encS ⟨(by rw [Sl.cellsOne av]; rfl),_,(by rw [Sl.cellsOne av]),av⟩ enc0) ?_
   intro f3 f4 f5 aq cj S
   have aj:=Sl.mono aj aq
   have am:=Sl.mono am aq
   have an:=Sl.mono an aq
   have ao:=Sl.mono ao aq
   have ap:=Sl.mono ap aq
   refine We<|WA.one (i:=1) (bm 8 31) rfl kr rfl ?_
   refine Lo 3 S<|We<|WA.one (i:=5) (bm 8 63) rfl kr rfl<|B ar fun f6 d5 ar=>W.app (α:=(List Str)) (i:=1) S el33 rfl rfl rfl am cj d5 ?_
   intro co f7 d6 al cp S
   have aj:=Sl.mono aj al
   have am:=Sl.mono am al
   have an:=Sl.mono an al
   have ao:=Sl.mono ao al
   have ap:=Sl.mono ap al
   refine We ?_
   refine WA.take (i:=6) (bm 8 127) rfl kr kr kr rfl (fun _=>(R.fieldB cm zKB))<|WA.one (i:=7) (bm 8 255) rfl kr rfl ?_
   refine W.storeSl (α:=(List Str)) (i:=3) [co,bh,bi,(str dz),bj,(str d0),(int d1),(int d2)] S cp rfl rfl rfl lay33 (Nat.le_of_ble_eq_true rfl) rfl ?_
   intro f8 S
   refine We<|WA.done kr<|Wg<|Lg' d4 rfl<|M<|We ?_
   obtain rfl:=oi ar
   exact ⟨rfl,⟨d6,co,bh,bi,bj,cm,en,eo,ep,rfl,aj,cp,an,ao,ap,(S.drop _ (.cons _ (.cons_cons _ (.cons_cons _ (.cons_cons _ .slnil)))))⟩⟩
  refine CF fs<|Wx ?_
  obtain rfl:=oi ar
  obtain rfl:=g5
  exact ⟨H9,d3,bh,bi,bj,cm,en,am,an,ao,ap,S⟩
 intro f w hM
 obtain ⟨af,a5,ay,q,az,t,u,x⟩:=fp
 obtain ⟨ak,b,fq,au,ah,z,a2,c,p,k,d,S⟩:=hM
 refine Ws<|B h fun hb bb h=>B h fun hc a3 h=>B h fun he a4 h=>WP.cut (fun f w=>∃ (de:Hp) (cv:Value) (cw:Value) (cx:Value),f 1=(ptr b1 0)∧f 2=(ptr b3 0)∧Sl (α:=(List Str)) de b af∧Sl (α:=Str) de cv hb∧Sl (α:=Str) de cw hc∧Sl (α:=GField) de cx he∧St w0 H0 w de [.row b 34 1 af.length,.box b3 36 [(.slice none 0 0),(.slice none 0 0),(.slice none 0 0),(str []),(.slice none 0 0),(str []),(int 0),(int 0)],.box b1 36 [b,cv,cw,(str q),cx,(str t),(int u),(int x)]]) ?_ ?_
 ·refine WP.drawC (Cl w0 H0 ak [.box b3 36 [(.slice none 0 0),(.slice none 0 0),(.slice none 0 0),(str []),(.slice none 0 0),(str []),(int 0),(int 0)]]) kr 15 rfl (bm 15 0) rfl ?_
  have S:=S.drew
  refine WC.take (i:=0) (bm 15 1) rfl kr kr kr rfl (fun _ _=>(R.fieldB z zCw)) ?_
  refine WC.take (i:=3) (bm 15 9) rfl kr kr kr rfl (fun _ _=>(R.fieldB z zC1)) ?_
  refine WC.take (i:=6) (bm 15 73) rfl kr kr kr rfl (fun _ _=>(R.fieldB z zCx)) ?_
  refine WC.next (rs:=[1,4,7]) ⟨ak,(Hp.le.refl _),S.drop _ (.cons _ (.cons_cons _ (.cons _ .slnil)))⟩ kr (List.cons_ne_nil _ _) (allS ?_ (allS ?_ (all1 ?_)))
  ·refine Nxt.mk (o:=_) (bm 15 75) rfl rfl ?_
   refine Lo 2 S<|We ?_
   refine WC.next (rs:=[2,4,7]) ⟨ak,(Hp.le.refl _),S.drop _ (.cons _ (.cons_cons _ (.cons _ .slnil)))⟩ kr (List.cons_ne_nil _ _) (allS ?_ (allS ?_ (all1 ?_)))
   ·refine Nxt.mk (o:=_) (bm 15 79) rfl rfl<|W.call S rfl (zAD S.holds a5 p bb) ?_
    rintro aw h4 d7 ai S ax
    have p:=Sl.mono p ai
    have c:=Sl.mono c ai
    have k:=Sl.mono k ai
    have d:=Sl.mono d ai
    refine We ?_
    refine WC.next (rs:=[4,7]) ⟨d7,ai,S.drop _ (.cons _ (.cons_cons _ (.cons _ .slnil)))⟩ kr (List.cons_ne_nil _ _) (allS ?_ (all1 ?_))
    ·refine Nxt.mk (o:=_) (bm 15 95) rfl rfl ?_
     refine Lo 2 S<|We ?_
     refine WC.next (rs:=[5,7]) ⟨d7,ai,S.drop _ (.cons _ (.cons_cons _ (.cons _ .slnil)))⟩ kr (List.cons_ne_nil _ _) (allS ?_ (all1 ?_))
     ·refine Nxt.mk (o:=_) (bm 15 127) rfl rfl<|W.call S rfl (zAD S.holds ay k a3) ?_
      rintro d8 h5 f9 bc S es
      have p:=Sl.mono p bc
      have ax:=Sl.mono ax bc
      have k:=Sl.mono k bc
      have c:=Sl.mono c bc
      have d:=Sl.mono d bc
      refine We ?_
      refine WC.next (rs:=[7]) ⟨f9,(ai.trans bc),S.drop _ (.cons _ (.cons_cons _ (.cons _ .slnil)))⟩ kr (List.cons_ne_nil _ _) (all1 ?_)
      refine Nxt.mk (o:=_) (bm 15 255) rfl rfl ?_
      refine Lo 2 S<|We ?_
      refine WC.take (i:=9) (bm 15 767) rfl kr kr kr rfl (fun _ _=>(R.fieldB z zCw)) ?_
      refine WC.next (rs:=[8]) ⟨f9,(ai.trans bc),S.drop _ (.cons _ (.cons_cons _ (.cons _ .slnil)))⟩ kr (List.cons_ne_nil _ _) (all1 ?_)
      refine Nxt.mk (o:=_) (bm 15 1023) rfl rfl<|W.call S rfl (zAJ S.holds az d a4) ?_
      rintro et h6 cy bk S ga
      have p:=Sl.mono p bk
      have ax:=Sl.mono ax bk
      have k:=Sl.mono k bk
      have es:=Sl.mono es bk
      have d:=Sl.mono d bk
      have c:=Sl.mono c bk
      refine We ?_
      refine WC.next (rs:=[10]) ⟨cy,((ai.trans bc).trans bk),S.drop _ (.cons _ (.cons_cons _ (.cons _ .slnil)))⟩ kr (List.cons_ne_nil _ _) (all1 ?_)
      refine Nxt.mk (o:=_) (bm 15 2047) rfl rfl ?_
      refine W.storeSl (α:=Str) (i:=2) [b,aw,au,(str q),ah,(str t),(int u),(int x)] S ax rfl rfl rfl lay34 (Nat.le_of_ble_eq_true rfl) rfl ?_
      intro h7 S
      refine We ?_
      refine WC.take (i:=11) (bm 15 4095) rfl kr kr kr rfl (fun _ _=>(R.fieldB z zC1)) ?_
      refine WC.next (rs:=[12]) ⟨cy,((ai.trans bc).trans bk),S.drop _ (.cons _ (.cons_cons _ (.cons _ .slnil)))⟩ kr (List.cons_ne_nil _ _) (all1 ?_)
      refine Nxt.mk (o:=_) (bm 15 8191) rfl rfl ?_
      refine W.storeSl (α:=Str) (i:=2) [b,aw,d8,(str q),ah,(str t),(int u),(int x)] S es rfl rfl rfl lay34 (Nat.le_of_ble_eq_true rfl) rfl ?_
      intro h8 S
      refine We ?_
      refine WC.take (i:=13) (bm 15 16383) rfl kr kr kr rfl (fun _ _=>(R.fieldB z zCx)) ?_
      refine WC.next (rs:=[14]) ⟨cy,((ai.trans bc).trans bk),S.drop _ (.cons _ (.cons_cons _ (.cons _ .slnil)))⟩ kr (List.cons_ne_nil _ _) (all1 ?_)
      refine Nxt.mk (o:=_) (bm 15 32767) rfl rfl ?_
      refine W.storeSl (α:=GField) (i:=2) [b,aw,d8,(str q),et,(str t),(int u),(int x)] S ga rfl rfl rfl lay26 (Nat.le_of_ble_eq_true rfl) rfl ?_
      intro h9 S
      refine We<|WC.done ⟨cy,((ai.trans bc).trans bk),S.drop _ (.cons _ (.cons_cons _ (.cons _ .slnil)))⟩ kr ?_
      have S3:=S
      replace S3:=S3.front 2 rfl
      replace S3:=S3.front 2 rfl
      replace S3:=S3.front 2 rfl
      replace S3:St w0 H0 _ cy [.row b 34 1 af.length,.box b3 36 [(.slice none 0 0),(.slice none 0 0),(.slice none 0 0),(str []),(.slice none 0 0),(str []),(int 0),(int 0)],.box b1 36 [b,aw,d8,(str q),et,(str t),(int u),(int x)]]:=S3
      replace S3:St w0 H0 _ cy [.row b 34 1 af.length,.box b3 36 [(.slice none 0 0),(.slice none 0 0),(.slice none 0 0),(str []),(.slice none 0 0),(str []),(int 0),(int 0)],.box b1 36 [b,aw,d8,(str q),et,(str t),(int u),(int x)]]:=S3.drop _ (.cons_cons _ (.cons_cons _ (.cons_cons _ .slnil)))
      exact ⟨cy,aw,d8,et,z,a2,c,ax,es,ga,S3⟩
     refine Nxt.mk (o:=_) (bm 15 223) rfl rfl ?_
     refine Lo 2 S<|We ?_
     refine WC.take (i:=9) (bm 15 735) rfl kr kr kr rfl (fun _ _=>(R.fieldB z zCw)) ?_
     refine WC.next (rs:=[5]) ⟨d7,ai,S.drop _ (.cons _ (.cons_cons _ (.cons _ .slnil)))⟩ kr (List.cons_ne_nil _ _) (all1 ?_)
     refine Nxt.mk (o:=_) (bm 15 767) rfl rfl<|W.call S rfl (zAD S.holds ay k a3) ?_
     rintro d9 ia hf bn S eu
     have p:=Sl.mono p bn
     have ax:=Sl.mono ax bn
     have k:=Sl.mono k bn
     have d:=Sl.mono d bn
     have c:=Sl.mono c bn
     refine We ?_
     refine WC.next (rs:=[8]) ⟨hf,(ai.trans bn),S.drop _ (.cons _ (.cons_cons _ (.cons _ .slnil)))⟩ kr (List.cons_ne_nil _ _) (all1 ?_)
     refine Nxt.mk (o:=_) (bm 15 1023) rfl rfl<|W.call S rfl (zAJ S.holds az d a4) ?_
     rintro ew ib cz bo S gb
     have p:=Sl.mono p bo
     have ax:=Sl.mono ax bo
     have k:=Sl.mono k bo
     have d:=Sl.mono d bo
     have eu:=Sl.mono eu bo
     have c:=Sl.mono c bo
     refine We ?_
     refine WC.next (rs:=[10]) ⟨cz,((ai.trans bn).trans bo),S.drop _ (.cons _ (.cons_cons _ (.cons _ .slnil)))⟩ kr (List.cons_ne_nil _ _) (all1 ?_)
     refine Nxt.mk (o:=_) (bm 15 2047) rfl rfl ?_
     refine W.storeSl (α:=Str) (i:=2) [b,aw,au,(str q),ah,(str t),(int u),(int x)] S ax rfl rfl rfl lay34 (Nat.le_of_ble_eq_true rfl) rfl ?_
     intro ic S
     refine We ?_
     refine WC.take (i:=11) (bm 15 4095) rfl kr kr kr rfl (fun _ _=>(R.fieldB z zC1)) ?_
     refine WC.next (rs:=[12]) ⟨cz,((ai.trans bn).trans bo),S.drop _ (.cons _ (.cons_cons _ (.cons _ .slnil)))⟩ kr (List.cons_ne_nil _ _) (all1 ?_)
     refine Nxt.mk (o:=_) (bm 15 8191) rfl rfl ?_
     refine W.storeSl (α:=Str) (i:=2) [b,aw,d9,(str q),ah,(str t),(int u),(int x)] S eu rfl rfl rfl lay34 (Nat.le_of_ble_eq_true rfl) rfl ?_
     intro id S
     refine We ?_
     refine WC.take (i:=13) (bm 15 16383) rfl kr kr kr rfl (fun _ _=>(R.fieldB z zCx)) ?_
     refine WC.next (rs:=[14]) ⟨cz,((ai.trans bn).trans bo),S.drop _ (.cons _ (.cons_cons _ (.cons _ .slnil)))⟩ kr (List.cons_ne_nil _ _) (all1 ?_)
     refine Nxt.mk (o:=_) (bm 15 32767) rfl rfl ?_
     refine W.storeSl (α:=GField) (i:=2) [b,aw,d9,(str q),ew,(str t),(int u),(int x)] S gb rfl rfl rfl lay26 (Nat.le_of_ble_eq_true rfl) rfl ?_
     intro ie S
     refine We<|WC.done ⟨cz,((ai.trans bn).trans bo),S.drop _ (.cons _ (.cons_cons _ (.cons _ .slnil)))⟩ kr ?_
     have S3:=S
     replace S3:=S3.front 2 rfl
     replace S3:=S3.front 2 rfl
     replace S3:=S3.front 2 rfl
     replace S3:St w0 H0 _ cz [.row b 34 1 af.length,.box b3 36 [(.slice none 0 0),(.slice none 0 0),(.slice none 0 0),(str []),(.slice none 0 0),(str []),(int 0),(int 0)],.box b1 36 [b,aw,d9,(str q),ew,(str t),(int u),(int x)]]:=S3
     replace S3:St w0 H0 _ cz [.row b 34 1 af.length,.box b3 36 [(.slice none 0 0),(.slice none 0 0),(.slice none 0 0),(str []),(.slice none 0 0),(str []),(int 0),(int 0)],.box b1 36 [b,aw,d9,(str q),ew,(str t),(int u),(int x)]]:=S3.drop _ (.cons_cons _ (.cons_cons _ (.cons_cons _ .slnil)))
     exact ⟨cz,aw,d9,ew,z,a2,c,ax,eu,gb,S3⟩
    refine Nxt.mk (o:=_) (bm 15 207) rfl rfl ?_
    refine Lo 2 S<|We ?_
    refine WC.next (rs:=[4]) ⟨d7,ai,S.drop _ (.cons _ (.cons_cons _ (.cons _ .slnil)))⟩ kr (List.cons_ne_nil _ _) (all1 ?_)
    refine Nxt.mk (o:=_) (bm 15 223) rfl rfl ?_
    refine Lo 2 S<|We ?_
    refine WC.take (i:=9) (bm 15 735) rfl kr kr kr rfl (fun _ _=>(R.fieldB z zCw)) ?_
    refine WC.next (rs:=[5]) ⟨d7,ai,S.drop _ (.cons _ (.cons_cons _ (.cons _ .slnil)))⟩ kr (List.cons_ne_nil _ _) (all1 ?_)
    refine Nxt.mk (o:=_) (bm 15 767) rfl rfl<|W.call S rfl (zAD S.holds ay k a3) ?_
    rintro ea ig hg bp S ex
    have p:=Sl.mono p bp
    have ax:=Sl.mono ax bp
    have d:=Sl.mono d bp
    have k:=Sl.mono k bp
    have c:=Sl.mono c bp
    refine We ?_
    refine WC.next (rs:=[8]) ⟨hg,(ai.trans bp),S.drop _ (.cons _ (.cons_cons _ (.cons _ .slnil)))⟩ kr (List.cons_ne_nil _ _) (all1 ?_)
    refine Nxt.mk (o:=_) (bm 15 1023) rfl rfl<|W.call S rfl (zAJ S.holds az d a4) ?_
    rintro ey ih c0 bq S gc
    have p:=Sl.mono p bq
    have ax:=Sl.mono ax bq
    have d:=Sl.mono d bq
    have k:=Sl.mono k bq
    have ex:=Sl.mono ex bq
    have c:=Sl.mono c bq
    refine We ?_
    refine WC.next (rs:=[10]) ⟨c0,((ai.trans bp).trans bq),S.drop _ (.cons _ (.cons_cons _ (.cons _ .slnil)))⟩ kr (List.cons_ne_nil _ _) (all1 ?_)
    refine Nxt.mk (o:=_) (bm 15 2047) rfl rfl ?_
    refine W.storeSl (α:=Str) (i:=2) [b,aw,au,(str q),ah,(str t),(int u),(int x)] S ax rfl rfl rfl lay34 (Nat.le_of_ble_eq_true rfl) rfl ?_
    intro ii S
    refine We ?_
    refine WC.take (i:=11) (bm 15 4095) rfl kr kr kr rfl (fun _ _=>(R.fieldB z zC1)) ?_
    refine WC.next (rs:=[12]) ⟨c0,((ai.trans bp).trans bq),S.drop _ (.cons _ (.cons_cons _ (.cons _ .slnil)))⟩ kr (List.cons_ne_nil _ _) (all1 ?_)
    refine Nxt.mk (o:=_) (bm 15 8191) rfl rfl ?_
    refine W.storeSl (α:=Str) (i:=2) [b,aw,ea,(str q),ah,(str t),(int u),(int x)] S ex rfl rfl rfl lay34 (Nat.le_of_ble_eq_true rfl) rfl ?_
    intro ij S
    refine We ?_
    refine WC.take (i:=13) (bm 15 16383) rfl kr kr kr rfl (fun _ _=>(R.fieldB z zCx)) ?_
    refine WC.next (rs:=[14]) ⟨c0,((ai.trans bp).trans bq),S.drop _ (.cons _ (.cons_cons _ (.cons _ .slnil)))⟩ kr (List.cons_ne_nil _ _) (all1 ?_)
    refine Nxt.mk (o:=_) (bm 15 32767) rfl rfl ?_
    refine W.storeSl (α:=GField) (i:=2) [b,aw,ea,(str q),ey,(str t),(int u),(int x)] S gc rfl rfl rfl lay26 (Nat.le_of_ble_eq_true rfl) rfl ?_
    intro ik S
    refine We<|WC.done ⟨c0,((ai.trans bp).trans bq),S.drop _ (.cons _ (.cons_cons _ (.cons _ .slnil)))⟩ kr ?_
    have S3:=S
    replace S3:=S3.front 2 rfl
    replace S3:=S3.front 2 rfl
    replace S3:=S3.front 2 rfl
    replace S3:St w0 H0 _ c0 [.row b 34 1 af.length,.box b3 36 [(.slice none 0 0),(.slice none 0 0),(.slice none 0 0),(str []),(.slice none 0 0),(str []),(int 0),(int 0)],.box b1 36 [b,aw,ea,(str q),ey,(str t),(int u),(int x)]]:=S3
    replace S3:St w0 H0 _ c0 [.row b 34 1 af.length,.box b3 36 [(.slice none 0 0),(.slice none 0 0),(.slice none 0 0),(str []),(.slice none 0 0),(str []),(int 0),(int 0)],.box b1 36 [b,aw,ea,(str q),ey,(str t),(int u),(int x)]]:=S3.drop _ (.cons_cons _ (.cons_cons _ (.cons_cons _ .slnil)))
    exact ⟨c0,aw,ea,ey,z,a2,c,ax,ex,gc,S3⟩
   ·refine Nxt.mk (o:=_) (bm 15 91) rfl rfl ?_
    refine Lo 2 S<|We ?_
    refine WC.next (rs:=[2,7]) ⟨ak,(Hp.le.refl _),S.drop _ (.cons _ (.cons_cons _ (.cons _ .slnil)))⟩ kr (List.cons_ne_nil _ _) (allS ?_ (all1 ?_))
    ·refine Nxt.mk (o:=_) (bm 15 95) rfl rfl<|W.call S rfl (zAD S.holds a5 p bb) ?_
     rintro a7 il gd a0 S a8
     have p:=Sl.mono p a0
     have k:=Sl.mono k a0
     have c:=Sl.mono c a0
     have d:=Sl.mono d a0
     refine We ?_
     refine WC.next (rs:=[5,7]) ⟨gd,a0,S.drop _ (.cons _ (.cons_cons _ (.cons _ .slnil)))⟩ kr (List.cons_ne_nil _ _) (allS ?_ (all1 ?_))
     ·refine Nxt.mk (o:=_) (bm 15 127) rfl rfl<|W.call S rfl (zAD S.holds ay k a3) ?_
      rintro eb im ge bd S ez
      have p:=Sl.mono p bd
      have k:=Sl.mono k bd
      have a8:=Sl.mono a8 bd
      have c:=Sl.mono c bd
      have d:=Sl.mono d bd
      refine We ?_
      refine WC.next (rs:=[7]) ⟨ge,(a0.trans bd),S.drop _ (.cons _ (.cons_cons _ (.cons _ .slnil)))⟩ kr (List.cons_ne_nil _ _) (all1 ?_)
      refine Nxt.mk (o:=_) (bm 15 255) rfl rfl ?_
      refine Lo 2 S<|We ?_
      refine WC.take (i:=9) (bm 15 767) rfl kr kr kr rfl (fun _ _=>(R.fieldB z zCw)) ?_
      refine WC.next (rs:=[8]) ⟨ge,(a0.trans bd),S.drop _ (.cons _ (.cons_cons _ (.cons _ .slnil)))⟩ kr (List.cons_ne_nil _ _) (all1 ?_)
      refine Nxt.mk (o:=_) (bm 15 1023) rfl rfl<|W.call S rfl (zAJ S.holds az d a4) ?_
      rintro e0 io c1 br S gf
      have p:=Sl.mono p br
      have k:=Sl.mono k br
      have a8:=Sl.mono a8 br
      have ez:=Sl.mono ez br
      have d:=Sl.mono d br
      have c:=Sl.mono c br
      refine We ?_
      refine WC.next (rs:=[10]) ⟨c1,((a0.trans bd).trans br),S.drop _ (.cons _ (.cons_cons _ (.cons _ .slnil)))⟩ kr (List.cons_ne_nil _ _) (all1 ?_)
      refine Nxt.mk (o:=_) (bm 15 2047) rfl rfl ?_
      refine W.storeSl (α:=Str) (i:=2) [b,a7,au,(str q),ah,(str t),(int u),(int x)] S a8 rfl rfl rfl lay34 (Nat.le_of_ble_eq_true rfl) rfl ?_
      intro ip S
      refine We ?_
      refine WC.take (i:=11) (bm 15 4095) rfl kr kr kr rfl (fun _ _=>(R.fieldB z zC1)) ?_
      refine WC.next (rs:=[12]) ⟨c1,((a0.trans bd).trans br),S.drop _ (.cons _ (.cons_cons _ (.cons _ .slnil)))⟩ kr (List.cons_ne_nil _ _) (all1 ?_)
      refine Nxt.mk (o:=_) (bm 15 8191) rfl rfl ?_
      refine W.storeSl (α:=Str) (i:=2) [b,a7,eb,(str q),ah,(str t),(int u),(int x)] S ez rfl rfl rfl lay34 (Nat.le_of_ble_eq_true rfl) rfl ?_
      intro iq S
      refine We ?_
      refine WC.take (i:=13) (bm 15 16383) rfl kr kr kr rfl (fun _ _=>(R.fieldB z zCx)) ?_
      refine WC.next (rs:=[14]) ⟨c1,((a0.trans bd).trans br),S.drop _ (.cons _ (.cons_cons _ (.cons _ .slnil)))⟩ kr (List.cons_ne_nil _ _) (all1 ?_)
      refine Nxt.mk (o:=_) (bm 15 32767) rfl rfl ?_
      refine W.storeSl (α:=GField) (i:=2) [b,a7,eb,(str q),e0,(str t),(int u),(int x)] S gf rfl rfl rfl lay26 (Nat.le_of_ble_eq_true rfl) rfl ?_
      intro ir S
      refine We<|WC.done ⟨c1,((a0.trans bd).trans br),S.drop _ (.cons _ (.cons_cons _ (.cons _ .slnil)))⟩ kr ?_
      have S3:=S
      replace S3:=S3.front 2 rfl
      replace S3:=S3.front 2 rfl
      replace S3:=S3.front 2 rfl
      replace S3:St w0 H0 _ c1 [.row b 34 1 af.length,.box b3 36 [(.slice none 0 0),(.slice none 0 0),(.slice none 0 0),(str []),(.slice none 0 0),(str []),(int 0),(int 0)],.box b1 36 [b,a7,eb,(str q),e0,(str t),(int u),(int x)]]:=S3
      replace S3:St w0 H0 _ c1 [.row b 34 1 af.length,.box b3 36 [(.slice none 0 0),(.slice none 0 0),(.slice none 0 0),(str []),(.slice none 0 0),(str []),(int 0),(int 0)],.box b1 36 [b,a7,eb,(str q),e0,(str t),(int u),(int x)]]:=S3.drop _ (.cons_cons _ (.cons_cons _ (.cons_cons _ .slnil)))
      exact ⟨c1,a7,eb,e0,z,a2,c,a8,ez,gf,S3⟩
     refine Nxt.mk (o:=_) (bm 15 223) rfl rfl ?_
     refine Lo 2 S<|We ?_
     refine WC.take (i:=9) (bm 15 735) rfl kr kr kr rfl (fun _ _=>(R.fieldB z zCw)) ?_
     refine WC.next (rs:=[5]) ⟨gd,a0,S.drop _ (.cons _ (.cons_cons _ (.cons _ .slnil)))⟩ kr (List.cons_ne_nil _ _) (all1 ?_)
     refine Nxt.mk (o:=_) (bm 15 767) rfl rfl<|W.call S rfl (zAD S.holds ay k a3) ?_
     rintro ec is hh bs S e1
     have p:=Sl.mono p bs
     have k:=Sl.mono k bs
     have a8:=Sl.mono a8 bs
     have d:=Sl.mono d bs
     have c:=Sl.mono c bs
     refine We ?_
     refine WC.next (rs:=[8]) ⟨hh,(a0.trans bs),S.drop _ (.cons _ (.cons_cons _ (.cons _ .slnil)))⟩ kr (List.cons_ne_nil _ _) (all1 ?_)
     refine Nxt.mk (o:=_) (bm 15 1023) rfl rfl<|W.call S rfl (zAJ S.holds az d a4) ?_
     rintro e2 it c2 bt S gg
     have p:=Sl.mono p bt
     have k:=Sl.mono k bt
     have a8:=Sl.mono a8 bt
     have d:=Sl.mono d bt
     have e1:=Sl.mono e1 bt
     have c:=Sl.mono c bt
     refine We ?_
     refine WC.next (rs:=[10]) ⟨c2,((a0.trans bs).trans bt),S.drop _ (.cons _ (.cons_cons _ (.cons _ .slnil)))⟩ kr (List.cons_ne_nil _ _) (all1 ?_)
     refine Nxt.mk (o:=_) (bm 15 2047) rfl rfl ?_
     refine W.storeSl (α:=Str) (i:=2) [b,a7,au,(str q),ah,(str t),(int u),(int x)] S a8 rfl rfl rfl lay34 (Nat.le_of_ble_eq_true rfl) rfl ?_
     intro iu S
     refine We ?_
     refine WC.take (i:=11) (bm 15 4095) rfl kr kr kr rfl (fun _ _=>(R.fieldB z zC1)) ?_
     refine WC.next (rs:=[12]) ⟨c2,((a0.trans bs).trans bt),S.drop _ (.cons _ (.cons_cons _ (.cons _ .slnil)))⟩ kr (List.cons_ne_nil _ _) (all1 ?_)
     refine Nxt.mk (o:=_) (bm 15 8191) rfl rfl ?_
     refine W.storeSl (α:=Str) (i:=2) [b,a7,ec,(str q),ah,(str t),(int u),(int x)] S e1 rfl rfl rfl lay34 (Nat.le_of_ble_eq_true rfl) rfl ?_
     intro iv S
     refine We ?_
     refine WC.take (i:=13) (bm 15 16383) rfl kr kr kr rfl (fun _ _=>(R.fieldB z zCx)) ?_
     refine WC.next (rs:=[14]) ⟨c2,((a0.trans bs).trans bt),S.drop _ (.cons _ (.cons_cons _ (.cons _ .slnil)))⟩ kr (List.cons_ne_nil _ _) (all1 ?_)
     refine Nxt.mk (o:=_) (bm 15 32767) rfl rfl ?_
     refine W.storeSl (α:=GField) (i:=2) [b,a7,ec,(str q),e2,(str t),(int u),(int x)] S gg rfl rfl rfl lay26 (Nat.le_of_ble_eq_true rfl) rfl ?_
     intro iw S
     refine We<|WC.done ⟨c2,((a0.trans bs).trans bt),S.drop _ (.cons _ (.cons_cons _ (.cons _ .slnil)))⟩ kr ?_
     have S3:=S
     replace S3:=S3.front 2 rfl
     replace S3:=S3.front 2 rfl
     replace S3:=S3.front 2 rfl
     replace S3:St w0 H0 _ c2 [.row b 34 1 af.length,.box b3 36 [(.slice none 0 0),(.slice none 0 0),(.slice none 0 0),(str []),(.slice none 0 0),(str []),(int 0),(int 0)],.box b1 36 [b,a7,ec,(str q),e2,(str t),(int u),(int x)]]:=S3
     replace S3:St w0 H0 _ c2 [.row b 34 1 af.length,.box b3 36 [(.slice none 0 0),(.slice none 0 0),(.slice none 0 0),(str []),(.slice none 0 0),(str []),(int 0),(int 0)],.box b1 36 [b,a7,ec,(str q),e2,(str t),(int u),(int x)]]:=S3.drop _ (.cons_cons _ (.cons_cons _ (.cons_cons _ .slnil)))
     exact ⟨c2,a7,ec,e2,z,a2,c,a8,e1,gg,S3⟩
    refine Nxt.mk (o:=_) (bm 15 219) rfl rfl ?_
    refine Lo 2 S<|We ?_
    refine WC.next (rs:=[2]) ⟨ak,(Hp.le.refl _),S.drop _ (.cons _ (.cons_cons _ (.cons _ .slnil)))⟩ kr (List.cons_ne_nil _ _) (all1 ?_)
    refine Nxt.mk (o:=_) (bm 15 223) rfl rfl<|W.call S rfl (zAD S.holds a5 p bb) ?_
    rintro df ix hi bu S dh
    have p:=Sl.mono p bu
    have k:=Sl.mono k bu
    have d:=Sl.mono d bu
    have c:=Sl.mono c bu
    refine We ?_
    refine WC.take (i:=9) (bm 15 735) rfl kr kr kr rfl (fun _ _=>(R.fieldB z zCw)) ?_
    refine WC.next (rs:=[5]) ⟨hi,bu,S.drop _ (.cons _ (.cons_cons _ (.cons _ .slnil)))⟩ kr (List.cons_ne_nil _ _) (all1 ?_)
    refine Nxt.mk (o:=_) (bm 15 767) rfl rfl<|W.call S rfl (zAD S.holds ay k a3) ?_
    rintro ed iy hj bv S e3
    have p:=Sl.mono p bv
    have k:=Sl.mono k bv
    have d:=Sl.mono d bv
    have dh:=Sl.mono dh bv
    have c:=Sl.mono c bv
    refine We ?_
    refine WC.next (rs:=[8]) ⟨hj,(bu.trans bv),S.drop _ (.cons _ (.cons_cons _ (.cons _ .slnil)))⟩ kr (List.cons_ne_nil _ _) (all1 ?_)
    refine Nxt.mk (o:=_) (bm 15 1023) rfl rfl<|W.call S rfl (zAJ S.holds az d a4) ?_
    rintro e4 iz c3 bw S gh
    have p:=Sl.mono p bw
    have k:=Sl.mono k bw
    have d:=Sl.mono d bw
    have dh:=Sl.mono dh bw
    have e3:=Sl.mono e3 bw
    have c:=Sl.mono c bw
    refine We ?_
    refine WC.next (rs:=[10]) ⟨c3,((bu.trans bv).trans bw),S.drop _ (.cons _ (.cons_cons _ (.cons _ .slnil)))⟩ kr (List.cons_ne_nil _ _) (all1 ?_)
    refine Nxt.mk (o:=_) (bm 15 2047) rfl rfl ?_
    refine W.storeSl (α:=Str) (i:=2) [b,df,au,(str q),ah,(str t),(int u),(int x)] S dh rfl rfl rfl lay34 (Nat.le_of_ble_eq_true rfl) rfl ?_
    intro i0 S
    refine We ?_
    refine WC.take (i:=11) (bm 15 4095) rfl kr kr kr rfl (fun _ _=>(R.fieldB z zC1)) ?_
    refine WC.next (rs:=[12]) ⟨c3,((bu.trans bv).trans bw),S.drop _ (.cons _ (.cons_cons _ (.cons _ .slnil)))⟩ kr (List.cons_ne_nil _ _) (all1 ?_)
    refine Nxt.mk (o:=_) (bm 15 8191) rfl rfl ?_
    refine W.storeSl (α:=Str) (i:=2) [b,df,ed,(str q),ah,(str t),(int u),(int x)] S e3 rfl rfl rfl lay34 (Nat.le_of_ble_eq_true rfl) rfl ?_
    intro i1 S
    refine We ?_
    refine WC.take (i:=13) (bm 15 16383) rfl kr kr kr rfl (fun _ _=>(R.fieldB z zCx)) ?_
    refine WC.next (rs:=[14]) ⟨c3,((bu.trans bv).trans bw),S.drop _ (.cons _ (.cons_cons _ (.cons _ .slnil)))⟩ kr (List.cons_ne_nil _ _) (all1 ?_)
    refine Nxt.mk (o:=_) (bm 15 32767) rfl rfl ?_
    refine W.storeSl (α:=GField) (i:=2) [b,df,ed,(str q),e4,(str t),(int u),(int x)] S gh rfl rfl rfl lay26 (Nat.le_of_ble_eq_true rfl) rfl ?_
    intro i2 S
    refine We<|WC.done ⟨c3,((bu.trans bv).trans bw),S.drop _ (.cons _ (.cons_cons _ (.cons _ .slnil)))⟩ kr ?_
    have S3:=S
    replace S3:=S3.front 2 rfl
    replace S3:=S3.front 2 rfl
    replace S3:=S3.front 2 rfl
    replace S3:St w0 H0 _ c3 [.row b 34 1 af.length,.box b3 36 [(.slice none 0 0),(.slice none 0 0),(.slice none 0 0),(str []),(.slice none 0 0),(str []),(int 0),(int 0)],.box b1 36 [b,df,ed,(str q),e4,(str t),(int u),(int x)]]:=S3
    replace S3:St w0 H0 _ c3 [.row b 34 1 af.length,.box b3 36 [(.slice none 0 0),(.slice none 0 0),(.slice none 0 0),(str []),(.slice none 0 0),(str []),(int 0),(int 0)],.box b1 36 [b,df,ed,(str q),e4,(str t),(int u),(int x)]]:=S3.drop _ (.cons_cons _ (.cons_cons _ (.cons_cons _ .slnil)))
    exact ⟨c3,df,ed,e4,z,a2,c,dh,e3,gh,S3⟩
   refine Nxt.mk (o:=_) (bm 15 203) rfl rfl ?_
   refine Lo 2 S<|We ?_
   refine WC.next (rs:=[2,4]) ⟨ak,(Hp.le.refl _),S.drop _ (.cons _ (.cons_cons _ (.cons _ .slnil)))⟩ kr (List.cons_ne_nil _ _) (allS ?_ (all1 ?_))
   ·refine Nxt.mk (o:=_) (bm 15 207) rfl rfl<|W.call S rfl (zAD S.holds a5 p bb) ?_
    rintro di i3 gi be S dj
    have p:=Sl.mono p be
    have d:=Sl.mono d be
    have c:=Sl.mono c be
    have k:=Sl.mono k be
    refine We ?_
    refine WC.next (rs:=[4]) ⟨gi,be,S.drop _ (.cons _ (.cons_cons _ (.cons _ .slnil)))⟩ kr (List.cons_ne_nil _ _) (all1 ?_)
    refine Nxt.mk (o:=_) (bm 15 223) rfl rfl ?_
    refine Lo 2 S<|We ?_
    refine WC.take (i:=9) (bm 15 735) rfl kr kr kr rfl (fun _ _=>(R.fieldB z zCw)) ?_
    refine WC.next (rs:=[5]) ⟨gi,be,S.drop _ (.cons _ (.cons_cons _ (.cons _ .slnil)))⟩ kr (List.cons_ne_nil _ _) (all1 ?_)
    refine Nxt.mk (o:=_) (bm 15 767) rfl rfl<|W.call S rfl (zAD S.holds ay k a3) ?_
    rintro ee i4 hk bx S e5
    have p:=Sl.mono p bx
    have d:=Sl.mono d bx
    have dj:=Sl.mono dj bx
    have k:=Sl.mono k bx
    have c:=Sl.mono c bx
    refine We ?_
    refine WC.next (rs:=[8]) ⟨hk,(be.trans bx),S.drop _ (.cons _ (.cons_cons _ (.cons _ .slnil)))⟩ kr (List.cons_ne_nil _ _) (all1 ?_)
    refine Nxt.mk (o:=_) (bm 15 1023) rfl rfl<|W.call S rfl (zAJ S.holds az d a4) ?_
    rintro e6 i5 c4 bz S gj
    have p:=Sl.mono p bz
    have d:=Sl.mono d bz
    have dj:=Sl.mono dj bz
    have k:=Sl.mono k bz
    have e5:=Sl.mono e5 bz
    have c:=Sl.mono c bz
    refine We ?_
    refine WC.next (rs:=[10]) ⟨c4,((be.trans bx).trans bz),S.drop _ (.cons _ (.cons_cons _ (.cons _ .slnil)))⟩ kr (List.cons_ne_nil _ _) (all1 ?_)
    refine Nxt.mk (o:=_) (bm 15 2047) rfl rfl ?_
    refine W.storeSl (α:=Str) (i:=2) [b,di,au,(str q),ah,(str t),(int u),(int x)] S dj rfl rfl rfl lay34 (Nat.le_of_ble_eq_true rfl) rfl ?_
    intro i6 S
    refine We ?_
    refine WC.take (i:=11) (bm 15 4095) rfl kr kr kr rfl (fun _ _=>(R.fieldB z zC1)) ?_
    refine WC.next (rs:=[12]) ⟨c4,((be.trans bx).trans bz),S.drop _ (.cons _ (.cons_cons _ (.cons _ .slnil)))⟩ kr (List.cons_ne_nil _ _) (all1 ?_)
    refine Nxt.mk (o:=_) (bm 15 8191) rfl rfl ?_
    refine W.storeSl (α:=Str) (i:=2) [b,di,ee,(str q),ah,(str t),(int u),(int x)] S e5 rfl rfl rfl lay34 (Nat.le_of_ble_eq_true rfl) rfl ?_
    intro i7 S
    refine We ?_
    refine WC.take (i:=13) (bm 15 16383) rfl kr kr kr rfl (fun _ _=>(R.fieldB z zCx)) ?_
    refine WC.next (rs:=[14]) ⟨c4,((be.trans bx).trans bz),S.drop _ (.cons _ (.cons_cons _ (.cons _ .slnil)))⟩ kr (List.cons_ne_nil _ _) (all1 ?_)
    refine Nxt.mk (o:=_) (bm 15 32767) rfl rfl ?_
    refine W.storeSl (α:=GField) (i:=2) [b,di,ee,(str q),e6,(str t),(int u),(int x)] S gj rfl rfl rfl lay26 (Nat.le_of_ble_eq_true rfl) rfl ?_
    intro i8 S
    refine We<|WC.done ⟨c4,((be.trans bx).trans bz),S.drop _ (.cons _ (.cons_cons _ (.cons _ .slnil)))⟩ kr ?_
    have S3:=S
    replace S3:=S3.front 2 rfl
    replace S3:=S3.front 2 rfl
    replace S3:=S3.front 2 rfl
    replace S3:St w0 H0 _ c4 [.row b 34 1 af.length,.box b3 36 [(.slice none 0 0),(.slice none 0 0),(.slice none 0 0),(str []),(.slice none 0 0),(str []),(int 0),(int 0)],.box b1 36 [b,di,ee,(str q),e6,(str t),(int u),(int x)]]:=S3
    replace S3:St w0 H0 _ c4 [.row b 34 1 af.length,.box b3 36 [(.slice none 0 0),(.slice none 0 0),(.slice none 0 0),(str []),(.slice none 0 0),(str []),(int 0),(int 0)],.box b1 36 [b,di,ee,(str q),e6,(str t),(int u),(int x)]]:=S3.drop _ (.cons_cons _ (.cons_cons _ (.cons_cons _ .slnil)))
    exact ⟨c4,di,ee,e6,z,a2,c,dj,e5,gj,S3⟩
   refine Nxt.mk (o:=_) (bm 15 219) rfl rfl ?_
   refine Lo 2 S<|We ?_
   refine WC.next (rs:=[2]) ⟨ak,(Hp.le.refl _),S.drop _ (.cons _ (.cons_cons _ (.cons _ .slnil)))⟩ kr (List.cons_ne_nil _ _) (all1 ?_)
   refine Nxt.mk (o:=_) (bm 15 223) rfl rfl<|W.call S rfl (zAD S.holds a5 p bb) ?_
   rintro dk i9 hl b0 S dl
   have p:=Sl.mono p b0
   have d:=Sl.mono d b0
   have k:=Sl.mono k b0
   have c:=Sl.mono c b0
   refine We ?_
   refine WC.take (i:=9) (bm 15 735) rfl kr kr kr rfl (fun _ _=>(R.fieldB z zCw)) ?_
   refine WC.next (rs:=[5]) ⟨hl,b0,S.drop _ (.cons _ (.cons_cons _ (.cons _ .slnil)))⟩ kr (List.cons_ne_nil _ _) (all1 ?_)
   refine Nxt.mk (o:=_) (bm 15 767) rfl rfl<|W.call S rfl (zAD S.holds ay k a3) ?_
   rintro ef ja hm b2 S e7
   have p:=Sl.mono p b2
   have d:=Sl.mono d b2
   have k:=Sl.mono k b2
   have dl:=Sl.mono dl b2
   have c:=Sl.mono c b2
   refine We ?_
   refine WC.next (rs:=[8]) ⟨hm,(b0.trans b2),S.drop _ (.cons _ (.cons_cons _ (.cons _ .slnil)))⟩ kr (List.cons_ne_nil _ _) (all1 ?_)
   refine Nxt.mk (o:=_) (bm 15 1023) rfl rfl<|W.call S rfl (zAJ S.holds az d a4) ?_
   rintro e8 jb c5 b4 S gk
   have p:=Sl.mono p b4
   have d:=Sl.mono d b4
   have k:=Sl.mono k b4
   have dl:=Sl.mono dl b4
   have e7:=Sl.mono e7 b4
   have c:=Sl.mono c b4
   refine We ?_
   refine WC.next (rs:=[10]) ⟨c5,((b0.trans b2).trans b4),S.drop _ (.cons _ (.cons_cons _ (.cons _ .slnil)))⟩ kr (List.cons_ne_nil _ _) (all1 ?_)
   refine Nxt.mk (o:=_) (bm 15 2047) rfl rfl ?_
   refine W.storeSl (α:=Str) (i:=2) [b,dk,au,(str q),ah,(str t),(int u),(int x)] S dl rfl rfl rfl lay34 (Nat.le_of_ble_eq_true rfl) rfl ?_
   intro jc S
   refine We ?_
   refine WC.take (i:=11) (bm 15 4095) rfl kr kr kr rfl (fun _ _=>(R.fieldB z zC1)) ?_
   refine WC.next (rs:=[12]) ⟨c5,((b0.trans b2).trans b4),S.drop _ (.cons _ (.cons_cons _ (.cons _ .slnil)))⟩ kr (List.cons_ne_nil _ _) (all1 ?_)
   refine Nxt.mk (o:=_) (bm 15 8191) rfl rfl ?_
   refine W.storeSl (α:=Str) (i:=2) [b,dk,ef,(str q),ah,(str t),(int u),(int x)] S e7 rfl rfl rfl lay34 (Nat.le_of_ble_eq_true rfl) rfl ?_
   intro jd S
   refine We ?_
   refine WC.take (i:=13) (bm 15 16383) rfl kr kr kr rfl (fun _ _=>(R.fieldB z zCx)) ?_
   refine WC.next (rs:=[14]) ⟨c5,((b0.trans b2).trans b4),S.drop _ (.cons _ (.cons_cons _ (.cons _ .slnil)))⟩ kr (List.cons_ne_nil _ _) (all1 ?_)
   refine Nxt.mk (o:=_) (bm 15 32767) rfl rfl ?_
   refine W.storeSl (α:=GField) (i:=2) [b,dk,ef,(str q),e8,(str t),(int u),(int x)] S gk rfl rfl rfl lay26 (Nat.le_of_ble_eq_true rfl) rfl ?_
   intro je S
   refine We<|WC.done ⟨c5,((b0.trans b2).trans b4),S.drop _ (.cons _ (.cons_cons _ (.cons _ .slnil)))⟩ kr ?_
   have S3:=S
   replace S3:=S3.front 2 rfl
   replace S3:=S3.front 2 rfl
   replace S3:=S3.front 2 rfl
   replace S3:St w0 H0 _ c5 [.row b 34 1 af.length,.box b3 36 [(.slice none 0 0),(.slice none 0 0),(.slice none 0 0),(str []),(.slice none 0 0),(str []),(int 0),(int 0)],.box b1 36 [b,dk,ef,(str q),e8,(str t),(int u),(int x)]]:=S3
   replace S3:St w0 H0 _ c5 [.row b 34 1 af.length,.box b3 36 [(.slice none 0 0),(.slice none 0 0),(.slice none 0 0),(str []),(.slice none 0 0),(str []),(int 0),(int 0)],.box b1 36 [b,dk,ef,(str q),e8,(str t),(int u),(int x)]]:=S3.drop _ (.cons_cons _ (.cons_cons _ (.cons_cons _ .slnil)))
   exact ⟨c5,dk,ef,e8,z,a2,c,dl,e7,gk,S3⟩
  ·refine Nxt.mk (o:=_) (bm 15 89) rfl rfl ?_
   refine Lo 2 S<|We ?_
   refine WC.next (rs:=[1,7]) ⟨ak,(Hp.le.refl _),S.drop _ (.cons _ (.cons_cons _ (.cons _ .slnil)))⟩ kr (List.cons_ne_nil _ _) (allS ?_ (all1 ?_))
   ·refine Nxt.mk (o:=_) (bm 15 91) rfl rfl ?_
    refine Lo 2 S<|We ?_
    refine WC.next (rs:=[2,7]) ⟨ak,(Hp.le.refl _),S.drop _ (.cons _ (.cons_cons _ (.cons _ .slnil)))⟩ kr (List.cons_ne_nil _ _) (allS ?_ (all1 ?_))
    ·refine Nxt.mk (o:=_) (bm 15 95) rfl rfl<|W.call S rfl (zAD S.holds a5 p bb) ?_
     rintro a9 jf gl a1 S ba
     have k:=Sl.mono k a1
     have p:=Sl.mono p a1
     have c:=Sl.mono c a1
     have d:=Sl.mono d a1
     refine We ?_
     refine WC.next (rs:=[5,7]) ⟨gl,a1,S.drop _ (.cons _ (.cons_cons _ (.cons _ .slnil)))⟩ kr (List.cons_ne_nil _ _) (allS ?_ (all1 ?_))
     ·refine Nxt.mk (o:=_) (bm 15 127) rfl rfl<|W.call S rfl (zAD S.holds ay k a3) ?_
      rintro eg jg gm bf S e9
      have k:=Sl.mono k bf
      have p:=Sl.mono p bf
      have ba:=Sl.mono ba bf
      have c:=Sl.mono c bf
      have d:=Sl.mono d bf
      refine We ?_
      refine WC.next (rs:=[7]) ⟨gm,(a1.trans bf),S.drop _ (.cons _ (.cons_cons _ (.cons _ .slnil)))⟩ kr (List.cons_ne_nil _ _) (all1 ?_)
      refine Nxt.mk (o:=_) (bm 15 255) rfl rfl ?_
      refine Lo 2 S<|We ?_
      refine WC.take (i:=9) (bm 15 767) rfl kr kr kr rfl (fun _ _=>(R.fieldB z zCw)) ?_
      refine WC.next (rs:=[8]) ⟨gm,(a1.trans bf),S.drop _ (.cons _ (.cons_cons _ (.cons _ .slnil)))⟩ kr (List.cons_ne_nil _ _) (all1 ?_)
      refine Nxt.mk (o:=_) (bm 15 1023) rfl rfl<|W.call S rfl (zAJ S.holds az d a4) ?_
      rintro fa jh c6 b5 S gn
      have k:=Sl.mono k b5
      have p:=Sl.mono p b5
      have ba:=Sl.mono ba b5
      have e9:=Sl.mono e9 b5
      have d:=Sl.mono d b5
      have c:=Sl.mono c b5
      refine We ?_
      refine WC.next (rs:=[10]) ⟨c6,((a1.trans bf).trans b5),S.drop _ (.cons _ (.cons_cons _ (.cons _ .slnil)))⟩ kr (List.cons_ne_nil _ _) (all1 ?_)
      refine Nxt.mk (o:=_) (bm 15 2047) rfl rfl ?_
      refine W.storeSl (α:=Str) (i:=2) [b,a9,au,(str q),ah,(str t),(int u),(int x)] S ba rfl rfl rfl lay34 (Nat.le_of_ble_eq_true rfl) rfl ?_
      intro ji S
      refine We ?_
      refine WC.take (i:=11) (bm 15 4095) rfl kr kr kr rfl (fun _ _=>(R.fieldB z zC1)) ?_
      refine WC.next (rs:=[12]) ⟨c6,((a1.trans bf).trans b5),S.drop _ (.cons _ (.cons_cons _ (.cons _ .slnil)))⟩ kr (List.cons_ne_nil _ _) (all1 ?_)
      refine Nxt.mk (o:=_) (bm 15 8191) rfl rfl ?_
      refine W.storeSl (α:=Str) (i:=2) [b,a9,eg,(str q),ah,(str t),(int u),(int x)] S e9 rfl rfl rfl lay34 (Nat.le_of_ble_eq_true rfl) rfl ?_
      intro jj S
      refine We ?_
      refine WC.take (i:=13) (bm 15 16383) rfl kr kr kr rfl (fun _ _=>(R.fieldB z zCx)) ?_
      refine WC.next (rs:=[14]) ⟨c6,((a1.trans bf).trans b5),S.drop _ (.cons _ (.cons_cons _ (.cons _ .slnil)))⟩ kr (List.cons_ne_nil _ _) (all1 ?_)
      refine Nxt.mk (o:=_) (bm 15 32767) rfl rfl ?_
      refine W.storeSl (α:=GField) (i:=2) [b,a9,eg,(str q),fa,(str t),(int u),(int x)] S gn rfl rfl rfl lay26 (Nat.le_of_ble_eq_true rfl) rfl ?_
      intro jk S
      refine We<|WC.done ⟨c6,((a1.trans bf).trans b5),S.drop _ (.cons _ (.cons_cons _ (.cons _ .slnil)))⟩ kr ?_
      have S3:=S
      replace S3:=S3.front 2 rfl
      replace S3:=S3.front 2 rfl
      replace S3:=S3.front 2 rfl
      replace S3:St w0 H0 _ c6 [.row b 34 1 af.length,.box b3 36 [(.slice none 0 0),(.slice none 0 0),(.slice none 0 0),(str []),(.slice none 0 0),(str []),(int 0),(int 0)],.box b1 36 [b,a9,eg,(str q),fa,(str t),(int u),(int x)]]:=S3
      replace S3:St w0 H0 _ c6 [.row b 34 1 af.length,.box b3 36 [(.slice none 0 0),(.slice none 0 0),(.slice none 0 0),(str []),(.slice none 0 0),(str []),(int 0),(int 0)],.box b1 36 [b,a9,eg,(str q),fa,(str t),(int u),(int x)]]:=S3.drop _ (.cons_cons _ (.cons_cons _ (.cons_cons _ .slnil)))
      exact ⟨c6,a9,eg,fa,z,a2,c,ba,e9,gn,S3⟩
     refine Nxt.mk (o:=_) (bm 15 223) rfl rfl ?_
     refine Lo 2 S<|We ?_
     refine WC.take (i:=9) (bm 15 735) rfl kr kr kr rfl (fun _ _=>(R.fieldB z zCw)) ?_
     refine WC.next (rs:=[5]) ⟨gl,a1,S.drop _ (.cons _ (.cons_cons _ (.cons _ .slnil)))⟩ kr (List.cons_ne_nil _ _) (all1 ?_)
     refine Nxt.mk (o:=_) (bm 15 767) rfl rfl<|W.call S rfl (zAD S.holds ay k a3) ?_
     rintro eh jl hn b6 S fb
     have k:=Sl.mono k b6
     have p:=Sl.mono p b6
     have ba:=Sl.mono ba b6
     have d:=Sl.mono d b6
     have c:=Sl.mono c b6
     refine We ?_
     refine WC.next (rs:=[8]) ⟨hn,(a1.trans b6),S.drop _ (.cons _ (.cons_cons _ (.cons _ .slnil)))⟩ kr (List.cons_ne_nil _ _) (all1 ?_)
     refine Nxt.mk (o:=_) (bm 15 1023) rfl rfl<|W.call S rfl (zAJ S.holds az d a4) ?_
     rintro fc jm c7 b7 S go
     have k:=Sl.mono k b7
     have p:=Sl.mono p b7
     have ba:=Sl.mono ba b7
     have d:=Sl.mono d b7
     have fb:=Sl.mono fb b7
     have c:=Sl.mono c b7
     refine We ?_
     refine WC.next (rs:=[10]) ⟨c7,((a1.trans b6).trans b7),S.drop _ (.cons _ (.cons_cons _ (.cons _ .slnil)))⟩ kr (List.cons_ne_nil _ _) (all1 ?_)
     refine Nxt.mk (o:=_) (bm 15 2047) rfl rfl ?_
     refine W.storeSl (α:=Str) (i:=2) [b,a9,au,(str q),ah,(str t),(int u),(int x)] S ba rfl rfl rfl lay34 (Nat.le_of_ble_eq_true rfl) rfl ?_
     intro jn S
     refine We ?_
     refine WC.take (i:=11) (bm 15 4095) rfl kr kr kr rfl (fun _ _=>(R.fieldB z zC1)) ?_
     refine WC.next (rs:=[12]) ⟨c7,((a1.trans b6).trans b7),S.drop _ (.cons _ (.cons_cons _ (.cons _ .slnil)))⟩ kr (List.cons_ne_nil _ _) (all1 ?_)
     refine Nxt.mk (o:=_) (bm 15 8191) rfl rfl ?_
     refine W.storeSl (α:=Str) (i:=2) [b,a9,eh,(str q),ah,(str t),(int u),(int x)] S fb rfl rfl rfl lay34 (Nat.le_of_ble_eq_true rfl) rfl ?_
     intro jp S
     refine We ?_
     refine WC.take (i:=13) (bm 15 16383) rfl kr kr kr rfl (fun _ _=>(R.fieldB z zCx)) ?_
     refine WC.next (rs:=[14]) ⟨c7,((a1.trans b6).trans b7),S.drop _ (.cons _ (.cons_cons _ (.cons _ .slnil)))⟩ kr (List.cons_ne_nil _ _) (all1 ?_)
     refine Nxt.mk (o:=_) (bm 15 32767) rfl rfl ?_
     refine W.storeSl (α:=GField) (i:=2) [b,a9,eh,(str q),fc,(str t),(int u),(int x)] S go rfl rfl rfl lay26 (Nat.le_of_ble_eq_true rfl) rfl ?_
     intro jq S
     refine We<|WC.done ⟨c7,((a1.trans b6).trans b7),S.drop _ (.cons _ (.cons_cons _ (.cons _ .slnil)))⟩ kr ?_
     have S3:=S
     replace S3:=S3.front 2 rfl
     replace S3:=S3.front 2 rfl
     replace S3:=S3.front 2 rfl
     replace S3:St w0 H0 _ c7 [.row b 34 1 af.length,.box b3 36 [(.slice none 0 0),(.slice none 0 0),(.slice none 0 0),(str []),(.slice none 0 0),(str []),(int 0),(int 0)],.box b1 36 [b,a9,eh,(str q),fc,(str t),(int u),(int x)]]:=S3
     replace S3:St w0 H0 _ c7 [.row b 34 1 af.length,.box b3 36 [(.slice none 0 0),(.slice none 0 0),(.slice none 0 0),(str []),(.slice none 0 0),(str []),(int 0),(int 0)],.box b1 36 [b,a9,eh,(str q),fc,(str t),(int u),(int x)]]:=S3.drop _ (.cons_cons _ (.cons_cons _ (.cons_cons _ .slnil)))
     exact ⟨c7,a9,eh,fc,z,a2,c,ba,fb,go,S3⟩
    refine Nxt.mk (o:=_) (bm 15 219) rfl rfl ?_
    refine Lo 2 S<|We ?_
    refine WC.next (rs:=[2]) ⟨ak,(Hp.le.refl _),S.drop _ (.cons _ (.cons_cons _ (.cons _ .slnil)))⟩ kr (List.cons_ne_nil _ _) (all1 ?_)
    refine Nxt.mk (o:=_) (bm 15 223) rfl rfl<|W.call S rfl (zAD S.holds a5 p bb) ?_
    rintro dm jr ho b8 S dn
    have k:=Sl.mono k b8
    have p:=Sl.mono p b8
    have d:=Sl.mono d b8
    have c:=Sl.mono c b8
    refine We ?_
    refine WC.take (i:=9) (bm 15 735) rfl kr kr kr rfl (fun _ _=>(R.fieldB z zCw)) ?_
    refine WC.next (rs:=[5]) ⟨ho,b8,S.drop _ (.cons _ (.cons_cons _ (.cons _ .slnil)))⟩ kr (List.cons_ne_nil _ _) (all1 ?_)
    refine Nxt.mk (o:=_) (bm 15 767) rfl rfl<|W.call S rfl (zAD S.holds ay k a3) ?_
    rintro ei js hp b9 S fd
    have k:=Sl.mono k b9
    have p:=Sl.mono p b9
    have d:=Sl.mono d b9
    have dn:=Sl.mono dn b9
    have c:=Sl.mono c b9
    refine We ?_
    refine WC.next (rs:=[8]) ⟨hp,(b8.trans b9),S.drop _ (.cons _ (.cons_cons _ (.cons _ .slnil)))⟩ kr (List.cons_ne_nil _ _) (all1 ?_)
    refine Nxt.mk (o:=_) (bm 15 1023) rfl rfl<|W.call S rfl (zAJ S.holds az d a4) ?_
    rintro fe jt c8 ca S gp
    have k:=Sl.mono k ca
    have p:=Sl.mono p ca
    have d:=Sl.mono d ca
    have dn:=Sl.mono dn ca
    have fd:=Sl.mono fd ca
    have c:=Sl.mono c ca
    refine We ?_
    refine WC.next (rs:=[10]) ⟨c8,((b8.trans b9).trans ca),S.drop _ (.cons _ (.cons_cons _ (.cons _ .slnil)))⟩ kr (List.cons_ne_nil _ _) (all1 ?_)
    refine Nxt.mk (o:=_) (bm 15 2047) rfl rfl ?_
    refine W.storeSl (α:=Str) (i:=2) [b,dm,au,(str q),ah,(str t),(int u),(int x)] S dn rfl rfl rfl lay34 (Nat.le_of_ble_eq_true rfl) rfl ?_
    intro ju S
    refine We ?_
    refine WC.take (i:=11) (bm 15 4095) rfl kr kr kr rfl (fun _ _=>(R.fieldB z zC1)) ?_
    refine WC.next (rs:=[12]) ⟨c8,((b8.trans b9).trans ca),S.drop _ (.cons _ (.cons_cons _ (.cons _ .slnil)))⟩ kr (List.cons_ne_nil _ _) (all1 ?_)
    refine Nxt.mk (o:=_) (bm 15 8191) rfl rfl ?_
    refine W.storeSl (α:=Str) (i:=2) [b,dm,ei,(str q),ah,(str t),(int u),(int x)] S fd rfl rfl rfl lay34 (Nat.le_of_ble_eq_true rfl) rfl ?_
    intro jv S
    refine We ?_
    refine WC.take (i:=13) (bm 15 16383) rfl kr kr kr rfl (fun _ _=>(R.fieldB z zCx)) ?_
    refine WC.next (rs:=[14]) ⟨c8,((b8.trans b9).trans ca),S.drop _ (.cons _ (.cons_cons _ (.cons _ .slnil)))⟩ kr (List.cons_ne_nil _ _) (all1 ?_)
    refine Nxt.mk (o:=_) (bm 15 32767) rfl rfl ?_
    refine W.storeSl (α:=GField) (i:=2) [b,dm,ei,(str q),fe,(str t),(int u),(int x)] S gp rfl rfl rfl lay26 (Nat.le_of_ble_eq_true rfl) rfl ?_
    intro jw S
    refine We<|WC.done ⟨c8,((b8.trans b9).trans ca),S.drop _ (.cons _ (.cons_cons _ (.cons _ .slnil)))⟩ kr ?_
    have S3:=S
    replace S3:=S3.front 2 rfl
    replace S3:=S3.front 2 rfl
    replace S3:=S3.front 2 rfl
    replace S3:St w0 H0 _ c8 [.row b 34 1 af.length,.box b3 36 [(.slice none 0 0),(.slice none 0 0),(.slice none 0 0),(str []),(.slice none 0 0),(str []),(int 0),(int 0)],.box b1 36 [b,dm,ei,(str q),fe,(str t),(int u),(int x)]]:=S3
    replace S3:St w0 H0 _ c8 [.row b 34 1 af.length,.box b3 36 [(.slice none 0 0),(.slice none 0 0),(.slice none 0 0),(str []),(.slice none 0 0),(str []),(int 0),(int 0)],.box b1 36 [b,dm,ei,(str q),fe,(str t),(int u),(int x)]]:=S3.drop _ (.cons_cons _ (.cons_cons _ (.cons_cons _ .slnil)))
    exact ⟨c8,dm,ei,fe,z,a2,c,dn,fd,gp,S3⟩
   refine Nxt.mk (o:=_) (bm 15 217) rfl rfl ?_
   refine Lo 2 S<|We ?_
   refine WC.next (rs:=[1]) ⟨ak,(Hp.le.refl _),S.drop _ (.cons _ (.cons_cons _ (.cons _ .slnil)))⟩ kr (List.cons_ne_nil _ _) (all1 ?_)
   refine Nxt.mk (o:=_) (bm 15 219) rfl rfl ?_
   refine Lo 2 S<|We ?_
   refine WC.next (rs:=[2]) ⟨ak,(Hp.le.refl _),S.drop _ (.cons _ (.cons_cons _ (.cons _ .slnil)))⟩ kr (List.cons_ne_nil _ _) (all1 ?_)
   refine Nxt.mk (o:=_) (bm 15 223) rfl rfl<|W.call S rfl (zAD S.holds a5 p bb) ?_
   rintro dp jx hq cb S dq
   have k:=Sl.mono k cb
   have d:=Sl.mono d cb
   have p:=Sl.mono p cb
   have c:=Sl.mono c cb
   refine We ?_
   refine WC.take (i:=9) (bm 15 735) rfl kr kr kr rfl (fun _ _=>(R.fieldB z zCw)) ?_
   refine WC.next (rs:=[5]) ⟨hq,cb,S.drop _ (.cons _ (.cons_cons _ (.cons _ .slnil)))⟩ kr (List.cons_ne_nil _ _) (all1 ?_)
   refine Nxt.mk (o:=_) (bm 15 767) rfl rfl<|W.call S rfl (zAD S.holds ay k a3) ?_
   rintro ej jy hr cc S ff
   have k:=Sl.mono k cc
   have d:=Sl.mono d cc
   have p:=Sl.mono p cc
   have dq:=Sl.mono dq cc
   have c:=Sl.mono c cc
   refine We ?_
   refine WC.next (rs:=[8]) ⟨hr,(cb.trans cc),S.drop _ (.cons _ (.cons_cons _ (.cons _ .slnil)))⟩ kr (List.cons_ne_nil _ _) (all1 ?_)
   refine Nxt.mk (o:=_) (bm 15 1023) rfl rfl<|W.call S rfl (zAJ S.holds az d a4) ?_
   rintro fg jz c9 cd S gq
   have k:=Sl.mono k cd
   have d:=Sl.mono d cd
   have p:=Sl.mono p cd
   have dq:=Sl.mono dq cd
   have ff:=Sl.mono ff cd
   have c:=Sl.mono c cd
   refine We ?_
   refine WC.next (rs:=[10]) ⟨c9,((cb.trans cc).trans cd),S.drop _ (.cons _ (.cons_cons _ (.cons _ .slnil)))⟩ kr (List.cons_ne_nil _ _) (all1 ?_)
   refine Nxt.mk (o:=_) (bm 15 2047) rfl rfl ?_
   refine W.storeSl (α:=Str) (i:=2) [b,dp,au,(str q),ah,(str t),(int u),(int x)] S dq rfl rfl rfl lay34 (Nat.le_of_ble_eq_true rfl) rfl ?_
   intro j0 S
   refine We ?_
   refine WC.take (i:=11) (bm 15 4095) rfl kr kr kr rfl (fun _ _=>(R.fieldB z zC1)) ?_
   refine WC.next (rs:=[12]) ⟨c9,((cb.trans cc).trans cd),S.drop _ (.cons _ (.cons_cons _ (.cons _ .slnil)))⟩ kr (List.cons_ne_nil _ _) (all1 ?_)
   refine Nxt.mk (o:=_) (bm 15 8191) rfl rfl ?_
   refine W.storeSl (α:=Str) (i:=2) [b,dp,ej,(str q),ah,(str t),(int u),(int x)] S ff rfl rfl rfl lay34 (Nat.le_of_ble_eq_true rfl) rfl ?_
   intro j1 S
   refine We ?_
   refine WC.take (i:=13) (bm 15 16383) rfl kr kr kr rfl (fun _ _=>(R.fieldB z zCx)) ?_
   refine WC.next (rs:=[14]) ⟨c9,((cb.trans cc).trans cd),S.drop _ (.cons _ (.cons_cons _ (.cons _ .slnil)))⟩ kr (List.cons_ne_nil _ _) (all1 ?_)
   refine Nxt.mk (o:=_) (bm 15 32767) rfl rfl ?_
   refine W.storeSl (α:=GField) (i:=2) [b,dp,ej,(str q),fg,(str t),(int u),(int x)] S gq rfl rfl rfl lay26 (Nat.le_of_ble_eq_true rfl) rfl ?_
   intro j2 S
   refine We<|WC.done ⟨c9,((cb.trans cc).trans cd),S.drop _ (.cons _ (.cons_cons _ (.cons _ .slnil)))⟩ kr ?_
   have S3:=S
   replace S3:=S3.front 2 rfl
   replace S3:=S3.front 2 rfl
   replace S3:=S3.front 2 rfl
   replace S3:St w0 H0 _ c9 [.row b 34 1 af.length,.box b3 36 [(.slice none 0 0),(.slice none 0 0),(.slice none 0 0),(str []),(.slice none 0 0),(str []),(int 0),(int 0)],.box b1 36 [b,dp,ej,(str q),fg,(str t),(int u),(int x)]]:=S3
   replace S3:St w0 H0 _ c9 [.row b 34 1 af.length,.box b3 36 [(.slice none 0 0),(.slice none 0 0),(.slice none 0 0),(str []),(.slice none 0 0),(str []),(int 0),(int 0)],.box b1 36 [b,dp,ej,(str q),fg,(str t),(int u),(int x)]]:=S3.drop _ (.cons_cons _ (.cons_cons _ (.cons_cons _ .slnil)))
   exact ⟨c9,dp,ej,fg,z,a2,c,dq,ff,gq,S3⟩
  refine Nxt.mk (o:=_) (bm 15 201) rfl rfl ?_
  refine Lo 2 S<|We ?_
  refine WC.next (rs:=[1,4]) ⟨ak,(Hp.le.refl _),S.drop _ (.cons _ (.cons_cons _ (.cons _ .slnil)))⟩ kr (List.cons_ne_nil _ _) (allS ?_ (all1 ?_))
  ·refine Nxt.mk (o:=_) (bm 15 203) rfl rfl ?_
   refine Lo 2 S<|We ?_
   refine WC.next (rs:=[2,4]) ⟨ak,(Hp.le.refl _),S.drop _ (.cons _ (.cons_cons _ (.cons _ .slnil)))⟩ kr (List.cons_ne_nil _ _) (allS ?_ (all1 ?_))
   ·refine Nxt.mk (o:=_) (bm 15 207) rfl rfl<|W.call S rfl (zAD S.holds a5 p bb) ?_
    rintro dr j3 gr bg S ds
    have d:=Sl.mono d bg
    have p:=Sl.mono p bg
    have c:=Sl.mono c bg
    have k:=Sl.mono k bg
    refine We ?_
    refine WC.next (rs:=[4]) ⟨gr,bg,S.drop _ (.cons _ (.cons_cons _ (.cons _ .slnil)))⟩ kr (List.cons_ne_nil _ _) (all1 ?_)
    refine Nxt.mk (o:=_) (bm 15 223) rfl rfl ?_
    refine Lo 2 S<|We ?_
    refine WC.take (i:=9) (bm 15 735) rfl kr kr kr rfl (fun _ _=>(R.fieldB z zCw)) ?_
    refine WC.next (rs:=[5]) ⟨gr,bg,S.drop _ (.cons _ (.cons_cons _ (.cons _ .slnil)))⟩ kr (List.cons_ne_nil _ _) (all1 ?_)
    refine Nxt.mk (o:=_) (bm 15 767) rfl rfl<|W.call S rfl (zAD S.holds ay k a3) ?_
    rintro ek j4 hs ce S fh
    have d:=Sl.mono d ce
    have p:=Sl.mono p ce
    have ds:=Sl.mono ds ce
    have k:=Sl.mono k ce
    have c:=Sl.mono c ce
    refine We ?_
    refine WC.next (rs:=[8]) ⟨hs,(bg.trans ce),S.drop _ (.cons _ (.cons_cons _ (.cons _ .slnil)))⟩ kr (List.cons_ne_nil _ _) (all1 ?_)
    refine Nxt.mk (o:=_) (bm 15 1023) rfl rfl<|W.call S rfl (zAJ S.holds az d a4) ?_
    rintro fi j5 da cf S gs
    have d:=Sl.mono d cf
    have p:=Sl.mono p cf
    have ds:=Sl.mono ds cf
    have k:=Sl.mono k cf
    have fh:=Sl.mono fh cf
    have c:=Sl.mono c cf
    refine We ?_
    refine WC.next (rs:=[10]) ⟨da,((bg.trans ce).trans cf),S.drop _ (.cons _ (.cons_cons _ (.cons _ .slnil)))⟩ kr (List.cons_ne_nil _ _) (all1 ?_)
    refine Nxt.mk (o:=_) (bm 15 2047) rfl rfl ?_
    refine W.storeSl (α:=Str) (i:=2) [b,dr,au,(str q),ah,(str t),(int u),(int x)] S ds rfl rfl rfl lay34 (Nat.le_of_ble_eq_true rfl) rfl ?_
    intro j6 S
    refine We ?_
    refine WC.take (i:=11) (bm 15 4095) rfl kr kr kr rfl (fun _ _=>(R.fieldB z zC1)) ?_
    refine WC.next (rs:=[12]) ⟨da,((bg.trans ce).trans cf),S.drop _ (.cons _ (.cons_cons _ (.cons _ .slnil)))⟩ kr (List.cons_ne_nil _ _) (all1 ?_)
    refine Nxt.mk (o:=_) (bm 15 8191) rfl rfl ?_
    refine W.storeSl (α:=Str) (i:=2) [b,dr,ek,(str q),ah,(str t),(int u),(int x)] S fh rfl rfl rfl lay34 (Nat.le_of_ble_eq_true rfl) rfl ?_
    intro j7 S
    refine We ?_
    refine WC.take (i:=13) (bm 15 16383) rfl kr kr kr rfl (fun _ _=>(R.fieldB z zCx)) ?_
    refine WC.next (rs:=[14]) ⟨da,((bg.trans ce).trans cf),S.drop _ (.cons _ (.cons_cons _ (.cons _ .slnil)))⟩ kr (List.cons_ne_nil _ _) (all1 ?_)
    refine Nxt.mk (o:=_) (bm 15 32767) rfl rfl ?_
    refine W.storeSl (α:=GField) (i:=2) [b,dr,ek,(str q),fi,(str t),(int u),(int x)] S gs rfl rfl rfl lay26 (Nat.le_of_ble_eq_true rfl) rfl ?_
    intro j8 S
    refine We<|WC.done ⟨da,((bg.trans ce).trans cf),S.drop _ (.cons _ (.cons_cons _ (.cons _ .slnil)))⟩ kr ?_
    have S3:=S
    replace S3:=S3.front 2 rfl
    replace S3:=S3.front 2 rfl
    replace S3:=S3.front 2 rfl
    replace S3:St w0 H0 _ da [.row b 34 1 af.length,.box b3 36 [(.slice none 0 0),(.slice none 0 0),(.slice none 0 0),(str []),(.slice none 0 0),(str []),(int 0),(int 0)],.box b1 36 [b,dr,ek,(str q),fi,(str t),(int u),(int x)]]:=S3
    replace S3:St w0 H0 _ da [.row b 34 1 af.length,.box b3 36 [(.slice none 0 0),(.slice none 0 0),(.slice none 0 0),(str []),(.slice none 0 0),(str []),(int 0),(int 0)],.box b1 36 [b,dr,ek,(str q),fi,(str t),(int u),(int x)]]:=S3.drop _ (.cons_cons _ (.cons_cons _ (.cons_cons _ .slnil)))
    exact ⟨da,dr,ek,fi,z,a2,c,ds,fh,gs,S3⟩
   refine Nxt.mk (o:=_) (bm 15 219) rfl rfl ?_
   refine Lo 2 S<|We ?_
   refine WC.next (rs:=[2]) ⟨ak,(Hp.le.refl _),S.drop _ (.cons _ (.cons_cons _ (.cons _ .slnil)))⟩ kr (List.cons_ne_nil _ _) (all1 ?_)
   refine Nxt.mk (o:=_) (bm 15 223) rfl rfl<|W.call S rfl (zAD S.holds a5 p bb) ?_
   rintro dt j9 ht cg S du
   have d:=Sl.mono d cg
   have p:=Sl.mono p cg
   have k:=Sl.mono k cg
   have c:=Sl.mono c cg
   refine We ?_
   refine WC.take (i:=9) (bm 15 735) rfl kr kr kr rfl (fun _ _=>(R.fieldB z zCw)) ?_
   refine WC.next (rs:=[5]) ⟨ht,cg,S.drop _ (.cons _ (.cons_cons _ (.cons _ .slnil)))⟩ kr (List.cons_ne_nil _ _) (all1 ?_)
   refine Nxt.mk (o:=_) (bm 15 767) rfl rfl<|W.call S rfl (zAD S.holds ay k a3) ?_
   rintro el ka hu ch S fj
   have d:=Sl.mono d ch
   have p:=Sl.mono p ch
   have k:=Sl.mono k ch
   have du:=Sl.mono du ch
   have c:=Sl.mono c ch
   refine We ?_
   refine WC.next (rs:=[8]) ⟨hu,(cg.trans ch),S.drop _ (.cons _ (.cons_cons _ (.cons _ .slnil)))⟩ kr (List.cons_ne_nil _ _) (all1 ?_)
   refine Nxt.mk (o:=_) (bm 15 1023) rfl rfl<|W.call S rfl (zAJ S.holds az d a4) ?_
   rintro fk kb db ci S gt
   have d:=Sl.mono d ci
   have p:=Sl.mono p ci
   have k:=Sl.mono k ci
   have du:=Sl.mono du ci
   have fj:=Sl.mono fj ci
   have c:=Sl.mono c ci
   refine We ?_
   refine WC.next (rs:=[10]) ⟨db,((cg.trans ch).trans ci),S.drop _ (.cons _ (.cons_cons _ (.cons _ .slnil)))⟩ kr (List.cons_ne_nil _ _) (all1 ?_)
   refine Nxt.mk (o:=_) (bm 15 2047) rfl rfl ?_
   refine W.storeSl (α:=Str) (i:=2) [b,dt,au,(str q),ah,(str t),(int u),(int x)] S du rfl rfl rfl lay34 (Nat.le_of_ble_eq_true rfl) rfl ?_
   intro kc S
   refine We ?_
   refine WC.take (i:=11) (bm 15 4095) rfl kr kr kr rfl (fun _ _=>(R.fieldB z zC1)) ?_
   refine WC.next (rs:=[12]) ⟨db,((cg.trans ch).trans ci),S.drop _ (.cons _ (.cons_cons _ (.cons _ .slnil)))⟩ kr (List.cons_ne_nil _ _) (all1 ?_)
   refine Nxt.mk (o:=_) (bm 15 8191) rfl rfl ?_
   refine W.storeSl (α:=Str) (i:=2) [b,dt,el,(str q),ah,(str t),(int u),(int x)] S fj rfl rfl rfl lay34 (Nat.le_of_ble_eq_true rfl) rfl ?_
   intro kd S
   refine We ?_
   refine WC.take (i:=13) (bm 15 16383) rfl kr kr kr rfl (fun _ _=>(R.fieldB z zCx)) ?_
   refine WC.next (rs:=[14]) ⟨db,((cg.trans ch).trans ci),S.drop _ (.cons _ (.cons_cons _ (.cons _ .slnil)))⟩ kr (List.cons_ne_nil _ _) (all1 ?_)
   refine Nxt.mk (o:=_) (bm 15 32767) rfl rfl ?_
   refine W.storeSl (α:=GField) (i:=2) [b,dt,el,(str q),fk,(str t),(int u),(int x)] S gt rfl rfl rfl lay26 (Nat.le_of_ble_eq_true rfl) rfl ?_
   intro ke S
   refine We<|WC.done ⟨db,((cg.trans ch).trans ci),S.drop _ (.cons _ (.cons_cons _ (.cons _ .slnil)))⟩ kr ?_
   have S3:=S
   replace S3:=S3.front 2 rfl
   replace S3:=S3.front 2 rfl
   replace S3:=S3.front 2 rfl
   replace S3:St w0 H0 _ db [.row b 34 1 af.length,.box b3 36 [(.slice none 0 0),(.slice none 0 0),(.slice none 0 0),(str []),(.slice none 0 0),(str []),(int 0),(int 0)],.box b1 36 [b,dt,el,(str q),fk,(str t),(int u),(int x)]]:=S3
   replace S3:St w0 H0 _ db [.row b 34 1 af.length,.box b3 36 [(.slice none 0 0),(.slice none 0 0),(.slice none 0 0),(str []),(.slice none 0 0),(str []),(int 0),(int 0)],.box b1 36 [b,dt,el,(str q),fk,(str t),(int u),(int x)]]:=S3.drop _ (.cons_cons _ (.cons_cons _ (.cons_cons _ .slnil)))
   exact ⟨db,dt,el,fk,z,a2,c,du,fj,gt,S3⟩
  refine Nxt.mk (o:=_) (bm 15 217) rfl rfl ?_
  refine Lo 2 S<|We ?_
  refine WC.next (rs:=[1]) ⟨ak,(Hp.le.refl _),S.drop _ (.cons _ (.cons_cons _ (.cons _ .slnil)))⟩ kr (List.cons_ne_nil _ _) (all1 ?_)
  refine Nxt.mk (o:=_) (bm 15 219) rfl rfl ?_
  refine Lo 2 S<|We ?_
  refine WC.next (rs:=[2]) ⟨ak,(Hp.le.refl _),S.drop _ (.cons _ (.cons_cons _ (.cons _ .slnil)))⟩ kr (List.cons_ne_nil _ _) (all1 ?_)
  refine Nxt.mk (o:=_) (bm 15 223) rfl rfl<|W.call S rfl (zAD S.holds a5 p bb) ?_
  rintro dw kf hv ck S dx
  have d:=Sl.mono d ck
  have k:=Sl.mono k ck
  have c:=Sl.mono c ck
  refine We ?_
  refine WC.take (i:=9) (bm 15 735) rfl kr kr kr rfl (fun _ _=>(R.fieldB z zCw)) ?_
  refine WC.next (rs:=[5]) ⟨hv,ck,S.drop _ (.cons _ (.cons_cons _ (.cons _ .slnil)))⟩ kr (List.cons_ne_nil _ _) (all1 ?_)
  refine Nxt.mk (o:=_) (bm 15 767) rfl rfl<|W.call S rfl (zAD S.holds ay k a3) ?_
  rintro em kg hx cq S fl
  have d:=Sl.mono d cq
  have dx:=Sl.mono dx cq
  have c:=Sl.mono c cq
  refine We ?_
  refine WC.next (rs:=[8]) ⟨hx,(ck.trans cq),S.drop _ (.cons _ (.cons_cons _ (.cons _ .slnil)))⟩ kr (List.cons_ne_nil _ _) (all1 ?_)
  refine Nxt.mk (o:=_) (bm 15 1023) rfl rfl<|W.call S rfl (zAJ S.holds az d a4) ?_
  rintro fm kh dc dd S gu
  have dx:=Sl.mono dx dd
  have fl:=Sl.mono fl dd
  have c:=Sl.mono c dd
  refine We ?_
  refine WC.next (rs:=[10]) ⟨dc,((ck.trans cq).trans dd),S.drop _ (.cons _ (.cons_cons _ (.cons _ .slnil)))⟩ kr (List.cons_ne_nil _ _) (all1 ?_)
  refine Nxt.mk (o:=_) (bm 15 2047) rfl rfl ?_
  refine W.storeSl (α:=Str) (i:=2) [b,dw,au,(str q),ah,(str t),(int u),(int x)] S dx rfl rfl rfl lay34 (Nat.le_of_ble_eq_true rfl) rfl ?_
  intro ki S
  refine We ?_
  refine WC.take (i:=11) (bm 15 4095) rfl kr kr kr rfl (fun _ _=>(R.fieldB z zC1)) ?_
  refine WC.next (rs:=[12]) ⟨dc,((ck.trans cq).trans dd),S.drop _ (.cons _ (.cons_cons _ (.cons _ .slnil)))⟩ kr (List.cons_ne_nil _ _) (all1 ?_)
  refine Nxt.mk (o:=_) (bm 15 8191) rfl rfl ?_
  refine W.storeSl (α:=Str) (i:=2) [b,dw,em,(str q),ah,(str t),(int u),(int x)] S fl rfl rfl rfl lay34 (Nat.le_of_ble_eq_true rfl) rfl ?_
  intro kj S
  refine We ?_
  refine WC.take (i:=13) (bm 15 16383) rfl kr kr kr rfl (fun _ _=>(R.fieldB z zCx)) ?_
  refine WC.next (rs:=[14]) ⟨dc,((ck.trans cq).trans dd),S.drop _ (.cons _ (.cons_cons _ (.cons _ .slnil)))⟩ kr (List.cons_ne_nil _ _) (all1 ?_)
  refine Nxt.mk (o:=_) (bm 15 32767) rfl rfl ?_
  refine W.storeSl (α:=GField) (i:=2) [b,dw,em,(str q),fm,(str t),(int u),(int x)] S gu rfl rfl rfl lay26 (Nat.le_of_ble_eq_true rfl) rfl ?_
  intro kk S
  refine We<|WC.done ⟨dc,((ck.trans cq).trans dd),S.drop _ (.cons _ (.cons_cons _ (.cons _ .slnil)))⟩ kr ?_
  have S3:=S
  replace S3:=S3.front 2 rfl
  replace S3:=S3.front 2 rfl
  replace S3:=S3.front 2 rfl
  replace S3:St w0 H0 _ dc [.row b 34 1 af.length,.box b3 36 [(.slice none 0 0),(.slice none 0 0),(.slice none 0 0),(str []),(.slice none 0 0),(str []),(int 0),(int 0)],.box b1 36 [b,dw,em,(str q),fm,(str t),(int u),(int x)]]:=S3
  replace S3:St w0 H0 _ dc [.row b 34 1 af.length,.box b3 36 [(.slice none 0 0),(.slice none 0 0),(.slice none 0 0),(str []),(.slice none 0 0),(str []),(int 0),(int 0)],.box b1 36 [b,dw,em,(str q),fm,(str t),(int u),(int x)]]:=S3.drop _ (.cons_cons _ (.cons_cons _ (.cons_cons _ .slnil)))
  exact ⟨dc,dw,em,fm,z,a2,c,dx,fl,gu,S3⟩
 rintro f w ⟨de,cv,cw,cx,hy,gv,gw,gx,gy,gz,S⟩
 refine Ws<|Wg ?_
 refine WL.w (R.loadBN (i:=2) (vs:=[b,cv,cw,(str q),cx,(str t),(int u),(int x)]) S hy rfl lay36 rfl rfl) ?_
 refine W.store (i:=1) [b,cv,cw,(str q),cx,(str t),(int u),(int x)] S gv rfl rfl lay36 rfl (AllOne.all (l:=[b,cv,cw,(str q),cx,(str t),(int u),(int x)]) (.cons (Sl.oneC gw) (.cons (Sl.oneC gx) (.cons (Sl.oneC gy) (.cons rfl (.cons (Sl.oneC gz) (.cons rfl (.cons rfl (.cons rfl .nil))))))))) (Nat.le_of_ble_eq_true rfl) rfl ?_
 intro kl S
 refine We ?_
 obtain rfl:=oi h
 refine WP.ret (Out.one rfl S (Res.cellB (i:=1) (cs:=[b,cv,cw,(str q),cx,(str t),(int u),(int x)]) S gv rfl lay36 rfl rfl) ?_)
 exact ⟨_,_,_,_,rfl,gw,gx,gy,gz⟩
end Go.Proofs
