/- A part of the proof of laws of the seat: written by program over the translation. -/
import Derived.Test.YtljjaiijlaeoeaaGreatDoorEng38
import Derived.Test.YtljjaiijlaeoeaaGreatDoorEng36
import Derived.Test.YtljjaiijlaeoeaaGreatDoorGenP4
namespace Go.Proofs
set_option maxHeartbeats 4000000
set_option maxRecDepth 10000
open Go.Eng Go.Eng.Pure
set_option linter.unusedVariables false
theorem zAl {t:World} {p:Hp} (hw:Holds t p) (hG:Tryz.Gl t) (b:GEntry) {ea:Value} {bs:Value} {aa:Value} {q:Value} (e7:Sl (α:=(List Str)) p ea b.fKeys) (j:Sl (α:=Str) p bs b.fVary) (d:Sl (α:=Str) p aa b.fSnapshot) (c:Sl (α:=GField) p q b.fFields) {r:GEntry} (h:zEK b=some r) :
  Con Tryz.prog 136 [(agg [ea,bs,aa,(str b.fReason),q,(str b.fBody),(int b.fRequested),(int b.fReceived)])] t p (fun H' v=>∃ u1 u2 u3 u4:Value,v=(agg [u1,u2,u3,(str r.fReason),u4,(str r.fBody),(int r.fRequested),(int r.fReceived)])∧Sl (α:=(List Str)) H' u1 r.fKeys∧Sl (α:=Str) H' u2 r.fVary∧Sl (α:=Str) H' u3 r.fSnapshot∧Sl (α:=GField) H' u4 r.fFields):=by
 refine Con.mk (N:=36) Tryz.func136 rfl rfl kr rfl ?_
 have S:=St.start hw
 refine Ws<|Wg ?_
 refine W.box [ea,bs,aa,(str b.fReason),q,(str b.fBody),(int b.fRequested),(int b.fReceived)] S rfl rfl ?_
 intro x w2 S
 refine W.alloc [(.slice none 0 0),(.slice none 0 0),(.slice none 0 0),(str []),(.slice none 0 0),(str []),(int 0),(int 0)] S zer92 ?_
 intro u w4 S
 refine We<|Ws<|Wg<|Fb ?_
 refine Lo 1 S<|A<|We<|Ws<|Wg<|Fb ?_
 refine W.store (i:=1) [(.slice none 0 0),bs,aa,(str b.fReason),q,(str b.fBody),(int b.fRequested),(int b.fReceived)] S rfl rfl rfl lay90 rfl (AllOne.all (l:=[(.slice none 0 0)]) (.cons rfl .nil)) (Nat.le_of_ble_eq_true rfl) rfl ?_
 intro w5 S
 refine We<|Ws<|Ws<|Wg<|M<|Nq e7<|M<|We<|B h fun e8 e9 h=>WP.cut (fun f w=>∃ (ab:Hp),f 1=(ptr x 0)∧f 2=(ptr u 0)∧Sl (α:=Str) ab bs b.fVary∧Sl (α:=Str) ab aa b.fSnapshot∧Sl (α:=GField) ab q b.fFields∧St t p w ab [.box u 92 [(.slice none 0 0),(.slice none 0 0),(.slice none 0 0),(str []),(.slice none 0 0),(str []),(int 0),(int 0)],.box x 92 [(.slice none 0 0),bs,aa,(str b.fReason),q,(str b.fBody),(int b.fRequested),(int b.fReceived)]]) ?_ ?_
 ·refine Wb ?_
  refine WP.loopM (zFi b) (fun s f w=>match s with | _=>∃ (H6:Hp),f 1=(ptr x 0)∧f 2=(ptr u 0)∧f 10=(int (b.fKeys.length:Int))∧f 11=(int 0)∧Sl (α:=Str) H6 bs b.fVary∧Sl (α:=Str) H6 aa b.fSnapshot∧Sl (α:=GField) H6 q b.fFields∧St t p w H6 [.box u 92 [(.slice none 0 0),(.slice none 0 0),(.slice none 0 0),(str []),(.slice none 0 0),(str []),(int 0),(int 0)],.box x 92 [(.slice none 0 0),bs,aa,(str b.fReason),q,(str b.fBody),(int b.fRequested),(int b.fReceived)]]) () e8 (lfW e9) ?_ ?_
  ·exact ⟨p,rfl,rfl,rfl,rfl,j,d,c,S⟩
  intro s f w hI f4 cx fa
  obtain ⟨H6,h7,h8,h9,fe,j,d,c,S⟩:=hI
  refine Ws<|Wg<|La' fe h9<|We<|Ws ?_
  rcases condE cx with ⟨eb,cx⟩ | ⟨eb,cx⟩
  ·refine CT eb ?_
   cases cx
  refine CF eb<|Wx ?_
  obtain rfl:=oi cx
  obtain rfl:=fa
  exact ⟨H6,h7,h8,j,d,c,S⟩
 rintro f w ⟨ab,k,ah,j,d,c,S⟩
 refine Ws<|B h fun ff ao h=>B h fun fg ai h=>B h fun fh aj h=>WP.cut (fun f w=>∃ (cy:Hp) (bu:Value) (bv:Value) (bw:Value),f 1=(ptr x 0)∧f 2=(ptr u 0)∧Sl (α:=Str) cy bu ff∧Sl (α:=Str) cy bv fg∧Sl (α:=GField) cy bw fh∧St t p w cy [.box u 92 [(.slice none 0 0),(.slice none 0 0),(.slice none 0 0),(str []),(.slice none 0 0),(str []),(int 0),(int 0)],.box x 92 [(.slice none 0 0),bu,bv,(str b.fReason),bw,(str b.fBody),(int b.fRequested),(int b.fReceived)]]) ?_ ?_
 ·refine WP.drawC (Cl t p ab [.box u 92 [(.slice none 0 0),(.slice none 0 0),(.slice none 0 0),(str []),(.slice none 0 0),(str []),(int 0),(int 0)]]) kr 15 rfl (bm 15 0) rfl ?_
  have S:=S.drew
  refine WC.take (i:=0) (bm 15 1) rfl kr kr kr rfl (fun _ _=>(R.fieldB k zDD)) ?_
  refine WC.take (i:=3) (bm 15 9) rfl kr kr kr rfl (fun _ _=>(R.fieldB k zDF)) ?_
  refine WC.take (i:=6) (bm 15 73) rfl kr kr kr rfl (fun _ _=>(R.fieldB k zDG)) ?_
  refine WC.next (rs:=[1,4,7]) ⟨ab,(Hp.le.refl _),S.drop _ (.cons_cons _ (.cons _ .slnil))⟩ kr (List.cons_ne_nil _ _) (allS ?_ (allS ?_ (all1 ?_)))
  ·refine Nxt.mk (o:=_) (bm 15 75) rfl rfl ?_
   refine Lo 1 S<|We ?_
   refine WC.next (rs:=[2,4,7]) ⟨ab,(Hp.le.refl _),S.drop _ (.cons_cons _ (.cons _ .slnil))⟩ kr (List.cons_ne_nil _ _) (allS ?_ (allS ?_ (all1 ?_)))
   ·refine Nxt.mk (o:=_) (bm 15 79) rfl rfl<|W.call S rfl (zAA S.holds (hG.post S.post) b.fVary j ao) ?_
    rintro ac f5 cz z S ad
    have j:=Sl.mono j z
    have d:=Sl.mono d z
    have c:=Sl.mono c z
    refine We ?_
    refine WC.next (rs:=[4,7]) ⟨cz,z,S.drop _ (.cons_cons _ (.cons _ .slnil))⟩ kr (List.cons_ne_nil _ _) (allS ?_ (all1 ?_))
    ·refine Nxt.mk (o:=_) (bm 15 95) rfl rfl ?_
     refine Lo 1 S<|We ?_
     refine WC.next (rs:=[5,7]) ⟨cz,z,S.drop _ (.cons_cons _ (.cons _ .slnil))⟩ kr (List.cons_ne_nil _ _) (allS ?_ (all1 ?_))
     ·refine Nxt.mk (o:=_) (bm 15 127) rfl rfl<|W.call S rfl (zAA S.holds (hG.post S.post) b.fSnapshot d ai) ?_
      rintro c0 f6 eg ap S df
      have j:=Sl.mono j ap
      have ad:=Sl.mono ad ap
      have d:=Sl.mono d ap
      have c:=Sl.mono c ap
      refine We ?_
      refine WC.next (rs:=[7]) ⟨eg,(z.trans ap),S.drop _ (.cons_cons _ (.cons _ .slnil))⟩ kr (List.cons_ne_nil _ _) (all1 ?_)
      refine Nxt.mk (o:=_) (bm 15 255) rfl rfl ?_
      refine Lo 1 S<|We ?_
      refine WC.take (i:=9) (bm 15 767) rfl kr kr kr rfl (fun _ _=>(R.fieldB k zDD)) ?_
      refine WC.next (rs:=[8]) ⟨eg,(z.trans ap),S.drop _ (.cons_cons _ (.cons _ .slnil))⟩ kr (List.cons_ne_nil _ _) (all1 ?_)
      refine Nxt.mk (o:=_) (bm 15 1023) rfl rfl<|W.call S rfl (zAC S.holds (hG.post S.post) b.fFields c aj) ?_
      rintro dg f7 bx aw S eh
      have j:=Sl.mono j aw
      have ad:=Sl.mono ad aw
      have d:=Sl.mono d aw
      have df:=Sl.mono df aw
      have c:=Sl.mono c aw
      refine We ?_
      refine WC.next (rs:=[10]) ⟨bx,((z.trans ap).trans aw),S.drop _ (.cons_cons _ (.cons _ .slnil))⟩ kr (List.cons_ne_nil _ _) (all1 ?_)
      refine Nxt.mk (o:=_) (bm 15 2047) rfl rfl ?_
      refine W.storeSl (α:=Str) (i:=1) [(.slice none 0 0),ac,aa,(str b.fReason),q,(str b.fBody),(int b.fRequested),(int b.fReceived)] S ad rfl rfl rfl lay45 (Nat.le_of_ble_eq_true rfl) rfl ?_
      intro f8 S
      refine We ?_
      refine WC.take (i:=11) (bm 15 4095) rfl kr kr kr rfl (fun _ _=>(R.fieldB k zDF)) ?_
      refine WC.next (rs:=[12]) ⟨bx,((z.trans ap).trans aw),S.drop _ (.cons_cons _ (.cons _ .slnil))⟩ kr (List.cons_ne_nil _ _) (all1 ?_)
      refine Nxt.mk (o:=_) (bm 15 8191) rfl rfl ?_
      refine W.storeSl (α:=Str) (i:=1) [(.slice none 0 0),ac,c0,(str b.fReason),q,(str b.fBody),(int b.fRequested),(int b.fReceived)] S df rfl rfl rfl lay45 (Nat.le_of_ble_eq_true rfl) rfl ?_
      intro f9 S
      refine We ?_
      refine WC.take (i:=13) (bm 15 16383) rfl kr kr kr rfl (fun _ _=>(R.fieldB k zDG)) ?_
      refine WC.next (rs:=[14]) ⟨bx,((z.trans ap).trans aw),S.drop _ (.cons_cons _ (.cons _ .slnil))⟩ kr (List.cons_ne_nil _ _) (all1 ?_)
      refine Nxt.mk (o:=_) (bm 15 32767) rfl rfl ?_
      refine W.storeSl (α:=GField) (i:=1) [(.slice none 0 0),ac,c0,(str b.fReason),dg,(str b.fBody),(int b.fRequested),(int b.fReceived)] S eh rfl rfl rfl lay22 (Nat.le_of_ble_eq_true rfl) rfl ?_
      intro ga S
      refine We<|WC.done ⟨bx,((z.trans ap).trans aw),S.drop _ (.cons_cons _ (.cons _ .slnil))⟩ kr ?_
      have S3:=S
      replace S3:=S3.front 1 rfl
      replace S3:=S3.front 1 rfl
      replace S3:St t p _ bx [.box u 92 [(.slice none 0 0),(.slice none 0 0),(.slice none 0 0),(str []),(.slice none 0 0),(str []),(int 0),(int 0)],.box x 92 [(.slice none 0 0),ac,c0,(str b.fReason),dg,(str b.fBody),(int b.fRequested),(int b.fReceived)]]:=S3
      replace S3:St t p _ bx [.box u 92 [(.slice none 0 0),(.slice none 0 0),(.slice none 0 0),(str []),(.slice none 0 0),(str []),(int 0),(int 0)],.box x 92 [(.slice none 0 0),ac,c0,(str b.fReason),dg,(str b.fBody),(int b.fRequested),(int b.fReceived)]]:=S3.drop _ (.cons_cons _ (.cons_cons _ .slnil))
      exact ⟨bx,ac,c0,dg,k,ah,ad,df,eh,S3⟩
     refine Nxt.mk (o:=_) (bm 15 223) rfl rfl ?_
     refine Lo 1 S<|We ?_
     refine WC.take (i:=9) (bm 15 735) rfl kr kr kr rfl (fun _ _=>(R.fieldB k zDD)) ?_
     refine WC.next (rs:=[5]) ⟨cz,z,S.drop _ (.cons_cons _ (.cons _ .slnil))⟩ kr (List.cons_ne_nil _ _) (all1 ?_)
     refine Nxt.mk (o:=_) (bm 15 767) rfl rfl<|W.call S rfl (zAA S.holds (hG.post S.post) b.fSnapshot d ai) ?_
     rintro c1 gb fi ax S dh
     have j:=Sl.mono j ax
     have ad:=Sl.mono ad ax
     have d:=Sl.mono d ax
     have c:=Sl.mono c ax
     refine We ?_
     refine WC.next (rs:=[8]) ⟨fi,(z.trans ax),S.drop _ (.cons_cons _ (.cons _ .slnil))⟩ kr (List.cons_ne_nil _ _) (all1 ?_)
     refine Nxt.mk (o:=_) (bm 15 1023) rfl rfl<|W.call S rfl (zAC S.holds (hG.post S.post) b.fFields c aj) ?_
     rintro di gc bz ay S ei
     have j:=Sl.mono j ay
     have ad:=Sl.mono ad ay
     have d:=Sl.mono d ay
     have c:=Sl.mono c ay
     have dh:=Sl.mono dh ay
     refine We ?_
     refine WC.next (rs:=[10]) ⟨bz,((z.trans ax).trans ay),S.drop _ (.cons_cons _ (.cons _ .slnil))⟩ kr (List.cons_ne_nil _ _) (all1 ?_)
     refine Nxt.mk (o:=_) (bm 15 2047) rfl rfl ?_
     refine W.storeSl (α:=Str) (i:=1) [(.slice none 0 0),ac,aa,(str b.fReason),q,(str b.fBody),(int b.fRequested),(int b.fReceived)] S ad rfl rfl rfl lay45 (Nat.le_of_ble_eq_true rfl) rfl ?_
     intro gd S
     refine We ?_
     refine WC.take (i:=11) (bm 15 4095) rfl kr kr kr rfl (fun _ _=>(R.fieldB k zDF)) ?_
     refine WC.next (rs:=[12]) ⟨bz,((z.trans ax).trans ay),S.drop _ (.cons_cons _ (.cons _ .slnil))⟩ kr (List.cons_ne_nil _ _) (all1 ?_)
     refine Nxt.mk (o:=_) (bm 15 8191) rfl rfl ?_
     refine W.storeSl (α:=Str) (i:=1) [(.slice none 0 0),ac,c1,(str b.fReason),q,(str b.fBody),(int b.fRequested),(int b.fReceived)] S dh rfl rfl rfl lay45 (Nat.le_of_ble_eq_true rfl) rfl ?_
     intro ge S
     refine We ?_
     refine WC.take (i:=13) (bm 15 16383) rfl kr kr kr rfl (fun _ _=>(R.fieldB k zDG)) ?_
     refine WC.next (rs:=[14]) ⟨bz,((z.trans ax).trans ay),S.drop _ (.cons_cons _ (.cons _ .slnil))⟩ kr (List.cons_ne_nil _ _) (all1 ?_)
     refine Nxt.mk (o:=_) (bm 15 32767) rfl rfl ?_
     refine W.storeSl (α:=GField) (i:=1) [(.slice none 0 0),ac,c1,(str b.fReason),di,(str b.fBody),(int b.fRequested),(int b.fReceived)] S ei rfl rfl rfl lay22 (Nat.le_of_ble_eq_true rfl) rfl ?_
     intro gf S
     refine We<|WC.done ⟨bz,((z.trans ax).trans ay),S.drop _ (.cons_cons _ (.cons _ .slnil))⟩ kr ?_
     have S3:=S
     replace S3:=S3.front 1 rfl
     replace S3:=S3.front 1 rfl
     replace S3:St t p _ bz [.box u 92 [(.slice none 0 0),(.slice none 0 0),(.slice none 0 0),(str []),(.slice none 0 0),(str []),(int 0),(int 0)],.box x 92 [(.slice none 0 0),ac,c1,(str b.fReason),di,(str b.fBody),(int b.fRequested),(int b.fReceived)]]:=S3
     replace S3:St t p _ bz [.box u 92 [(.slice none 0 0),(.slice none 0 0),(.slice none 0 0),(str []),(.slice none 0 0),(str []),(int 0),(int 0)],.box x 92 [(.slice none 0 0),ac,c1,(str b.fReason),di,(str b.fBody),(int b.fRequested),(int b.fReceived)]]:=S3.drop _ (.cons_cons _ (.cons_cons _ .slnil))
     exact ⟨bz,ac,c1,di,k,ah,ad,dh,ei,S3⟩
    refine Nxt.mk (o:=_) (bm 15 207) rfl rfl ?_
    refine Lo 1 S<|We ?_
    refine WC.next (rs:=[4]) ⟨cz,z,S.drop _ (.cons_cons _ (.cons _ .slnil))⟩ kr (List.cons_ne_nil _ _) (all1 ?_)
    refine Nxt.mk (o:=_) (bm 15 223) rfl rfl ?_
    refine Lo 1 S<|We ?_
    refine WC.take (i:=9) (bm 15 735) rfl kr kr kr rfl (fun _ _=>(R.fieldB k zDD)) ?_
    refine WC.next (rs:=[5]) ⟨cz,z,S.drop _ (.cons_cons _ (.cons _ .slnil))⟩ kr (List.cons_ne_nil _ _) (all1 ?_)
    refine Nxt.mk (o:=_) (bm 15 767) rfl rfl<|W.call S rfl (zAA S.holds (hG.post S.post) b.fSnapshot d ai) ?_
    rintro c2 gg fj az S dj
    have j:=Sl.mono j az
    have ad:=Sl.mono ad az
    have c:=Sl.mono c az
    have d:=Sl.mono d az
    refine We ?_
    refine WC.next (rs:=[8]) ⟨fj,(z.trans az),S.drop _ (.cons_cons _ (.cons _ .slnil))⟩ kr (List.cons_ne_nil _ _) (all1 ?_)
    refine Nxt.mk (o:=_) (bm 15 1023) rfl rfl<|W.call S rfl (zAC S.holds (hG.post S.post) b.fFields c aj) ?_
    rintro dk gh b0 a0 S ej
    have j:=Sl.mono j a0
    have ad:=Sl.mono ad a0
    have c:=Sl.mono c a0
    have d:=Sl.mono d a0
    have dj:=Sl.mono dj a0
    refine We ?_
    refine WC.next (rs:=[10]) ⟨b0,((z.trans az).trans a0),S.drop _ (.cons_cons _ (.cons _ .slnil))⟩ kr (List.cons_ne_nil _ _) (all1 ?_)
    refine Nxt.mk (o:=_) (bm 15 2047) rfl rfl ?_
    refine W.storeSl (α:=Str) (i:=1) [(.slice none 0 0),ac,aa,(str b.fReason),q,(str b.fBody),(int b.fRequested),(int b.fReceived)] S ad rfl rfl rfl lay45 (Nat.le_of_ble_eq_true rfl) rfl ?_
    intro gi S
    refine We ?_
    refine WC.take (i:=11) (bm 15 4095) rfl kr kr kr rfl (fun _ _=>(R.fieldB k zDF)) ?_
    refine WC.next (rs:=[12]) ⟨b0,((z.trans az).trans a0),S.drop _ (.cons_cons _ (.cons _ .slnil))⟩ kr (List.cons_ne_nil _ _) (all1 ?_)
    refine Nxt.mk (o:=_) (bm 15 8191) rfl rfl ?_
    refine W.storeSl (α:=Str) (i:=1) [(.slice none 0 0),ac,c2,(str b.fReason),q,(str b.fBody),(int b.fRequested),(int b.fReceived)] S dj rfl rfl rfl lay45 (Nat.le_of_ble_eq_true rfl) rfl ?_
    intro gj S
    refine We ?_
    refine WC.take (i:=13) (bm 15 16383) rfl kr kr kr rfl (fun _ _=>(R.fieldB k zDG)) ?_
    refine WC.next (rs:=[14]) ⟨b0,((z.trans az).trans a0),S.drop _ (.cons_cons _ (.cons _ .slnil))⟩ kr (List.cons_ne_nil _ _) (all1 ?_)
    refine Nxt.mk (o:=_) (bm 15 32767) rfl rfl ?_
    refine W.storeSl (α:=GField) (i:=1) [(.slice none 0 0),ac,c2,(str b.fReason),dk,(str b.fBody),(int b.fRequested),(int b.fReceived)] S ej rfl rfl rfl lay22 (Nat.le_of_ble_eq_true rfl) rfl ?_
    intro gk S
    refine We<|WC.done ⟨b0,((z.trans az).trans a0),S.drop _ (.cons_cons _ (.cons _ .slnil))⟩ kr ?_
    have S3:=S
    replace S3:=S3.front 1 rfl
    replace S3:=S3.front 1 rfl
    replace S3:St t p _ b0 [.box u 92 [(.slice none 0 0),(.slice none 0 0),(.slice none 0 0),(str []),(.slice none 0 0),(str []),(int 0),(int 0)],.box x 92 [(.slice none 0 0),ac,c2,(str b.fReason),dk,(str b.fBody),(int b.fRequested),(int b.fReceived)]]:=S3
    replace S3:St t p _ b0 [.box u 92 [(.slice none 0 0),(.slice none 0 0),(.slice none 0 0),(str []),(.slice none 0 0),(str []),(int 0),(int 0)],.box x 92 [(.slice none 0 0),ac,c2,(str b.fReason),dk,(str b.fBody),(int b.fRequested),(int b.fReceived)]]:=S3.drop _ (.cons_cons _ (.cons_cons _ .slnil))
    exact ⟨b0,ac,c2,dk,k,ah,ad,dj,ej,S3⟩
   ·refine Nxt.mk (o:=_) (bm 15 91) rfl rfl ?_
    refine Lo 1 S<|We ?_
    refine WC.next (rs:=[2,7]) ⟨ab,(Hp.le.refl _),S.drop _ (.cons_cons _ (.cons _ .slnil))⟩ kr (List.cons_ne_nil _ _) (allS ?_ (all1 ?_))
    ·refine Nxt.mk (o:=_) (bm 15 95) rfl rfl<|W.call S rfl (zAA S.holds (hG.post S.post) b.fVary j ao) ?_
     rintro ak gl ek ae S al
     have j:=Sl.mono j ae
     have d:=Sl.mono d ae
     have c:=Sl.mono c ae
     refine We ?_
     refine WC.next (rs:=[5,7]) ⟨ek,ae,S.drop _ (.cons_cons _ (.cons _ .slnil))⟩ kr (List.cons_ne_nil _ _) (allS ?_ (all1 ?_))
     ·refine Nxt.mk (o:=_) (bm 15 127) rfl rfl<|W.call S rfl (zAA S.holds (hG.post S.post) b.fSnapshot d ai) ?_
      rintro c3 gm el aq S dl
      have j:=Sl.mono j aq
      have d:=Sl.mono d aq
      have al:=Sl.mono al aq
      have c:=Sl.mono c aq
      refine We ?_
      refine WC.next (rs:=[7]) ⟨el,(ae.trans aq),S.drop _ (.cons_cons _ (.cons _ .slnil))⟩ kr (List.cons_ne_nil _ _) (all1 ?_)
      refine Nxt.mk (o:=_) (bm 15 255) rfl rfl ?_
      refine Lo 1 S<|We ?_
      refine WC.take (i:=9) (bm 15 767) rfl kr kr kr rfl (fun _ _=>(R.fieldB k zDD)) ?_
      refine WC.next (rs:=[8]) ⟨el,(ae.trans aq),S.drop _ (.cons_cons _ (.cons _ .slnil))⟩ kr (List.cons_ne_nil _ _) (all1 ?_)
      refine Nxt.mk (o:=_) (bm 15 1023) rfl rfl<|W.call S rfl (zAC S.holds (hG.post S.post) b.fFields c aj) ?_
      rintro dm gn b1 a1 S em
      have j:=Sl.mono j a1
      have d:=Sl.mono d a1
      have al:=Sl.mono al a1
      have dl:=Sl.mono dl a1
      have c:=Sl.mono c a1
      refine We ?_
      refine WC.next (rs:=[10]) ⟨b1,((ae.trans aq).trans a1),S.drop _ (.cons_cons _ (.cons _ .slnil))⟩ kr (List.cons_ne_nil _ _) (all1 ?_)
      refine Nxt.mk (o:=_) (bm 15 2047) rfl rfl ?_
      refine W.storeSl (α:=Str) (i:=1) [(.slice none 0 0),ak,aa,(str b.fReason),q,(str b.fBody),(int b.fRequested),(int b.fReceived)] S al rfl rfl rfl lay45 (Nat.le_of_ble_eq_true rfl) rfl ?_
      intro go S
      refine We ?_
      refine WC.take (i:=11) (bm 15 4095) rfl kr kr kr rfl (fun _ _=>(R.fieldB k zDF)) ?_
      refine WC.next (rs:=[12]) ⟨b1,((ae.trans aq).trans a1),S.drop _ (.cons_cons _ (.cons _ .slnil))⟩ kr (List.cons_ne_nil _ _) (all1 ?_)
      refine Nxt.mk (o:=_) (bm 15 8191) rfl rfl ?_
      refine W.storeSl (α:=Str) (i:=1) [(.slice none 0 0),ak,c3,(str b.fReason),q,(str b.fBody),(int b.fRequested),(int b.fReceived)] S dl rfl rfl rfl lay45 (Nat.le_of_ble_eq_true rfl) rfl ?_
      intro gp S
      refine We ?_
      refine WC.take (i:=13) (bm 15 16383) rfl kr kr kr rfl (fun _ _=>(R.fieldB k zDG)) ?_
      refine WC.next (rs:=[14]) ⟨b1,((ae.trans aq).trans a1),S.drop _ (.cons_cons _ (.cons _ .slnil))⟩ kr (List.cons_ne_nil _ _) (all1 ?_)
      refine Nxt.mk (o:=_) (bm 15 32767) rfl rfl ?_
      refine W.storeSl (α:=GField) (i:=1) [(.slice none 0 0),ak,c3,(str b.fReason),dm,(str b.fBody),(int b.fRequested),(int b.fReceived)] S em rfl rfl rfl lay22 (Nat.le_of_ble_eq_true rfl) rfl ?_
      intro gq S
      refine We<|WC.done ⟨b1,((ae.trans aq).trans a1),S.drop _ (.cons_cons _ (.cons _ .slnil))⟩ kr ?_
      have S3:=S
      replace S3:=S3.front 1 rfl
      replace S3:=S3.front 1 rfl
      replace S3:St t p _ b1 [.box u 92 [(.slice none 0 0),(.slice none 0 0),(.slice none 0 0),(str []),(.slice none 0 0),(str []),(int 0),(int 0)],.box x 92 [(.slice none 0 0),ak,c3,(str b.fReason),dm,(str b.fBody),(int b.fRequested),(int b.fReceived)]]:=S3
      replace S3:St t p _ b1 [.box u 92 [(.slice none 0 0),(.slice none 0 0),(.slice none 0 0),(str []),(.slice none 0 0),(str []),(int 0),(int 0)],.box x 92 [(.slice none 0 0),ak,c3,(str b.fReason),dm,(str b.fBody),(int b.fRequested),(int b.fReceived)]]:=S3.drop _ (.cons_cons _ (.cons_cons _ .slnil))
      exact ⟨b1,ak,c3,dm,k,ah,al,dl,em,S3⟩
     refine Nxt.mk (o:=_) (bm 15 223) rfl rfl ?_
     refine Lo 1 S<|We ?_
     refine WC.take (i:=9) (bm 15 735) rfl kr kr kr rfl (fun _ _=>(R.fieldB k zDD)) ?_
     refine WC.next (rs:=[5]) ⟨ek,ae,S.drop _ (.cons_cons _ (.cons _ .slnil))⟩ kr (List.cons_ne_nil _ _) (all1 ?_)
     refine Nxt.mk (o:=_) (bm 15 767) rfl rfl<|W.call S rfl (zAA S.holds (hG.post S.post) b.fSnapshot d ai) ?_
     rintro c4 gr fk a2 S dn
     have j:=Sl.mono j a2
     have d:=Sl.mono d a2
     have al:=Sl.mono al a2
     have c:=Sl.mono c a2
     refine We ?_
     refine WC.next (rs:=[8]) ⟨fk,(ae.trans a2),S.drop _ (.cons_cons _ (.cons _ .slnil))⟩ kr (List.cons_ne_nil _ _) (all1 ?_)
     refine Nxt.mk (o:=_) (bm 15 1023) rfl rfl<|W.call S rfl (zAC S.holds (hG.post S.post) b.fFields c aj) ?_
     rintro dp gs b2 a3 S en
     have j:=Sl.mono j a3
     have d:=Sl.mono d a3
     have al:=Sl.mono al a3
     have c:=Sl.mono c a3
     have dn:=Sl.mono dn a3
     refine We ?_
     refine WC.next (rs:=[10]) ⟨b2,((ae.trans a2).trans a3),S.drop _ (.cons_cons _ (.cons _ .slnil))⟩ kr (List.cons_ne_nil _ _) (all1 ?_)
     refine Nxt.mk (o:=_) (bm 15 2047) rfl rfl ?_
     refine W.storeSl (α:=Str) (i:=1) [(.slice none 0 0),ak,aa,(str b.fReason),q,(str b.fBody),(int b.fRequested),(int b.fReceived)] S al rfl rfl rfl lay45 (Nat.le_of_ble_eq_true rfl) rfl ?_
     intro gt S
     refine We ?_
     refine WC.take (i:=11) (bm 15 4095) rfl kr kr kr rfl (fun _ _=>(R.fieldB k zDF)) ?_
     refine WC.next (rs:=[12]) ⟨b2,((ae.trans a2).trans a3),S.drop _ (.cons_cons _ (.cons _ .slnil))⟩ kr (List.cons_ne_nil _ _) (all1 ?_)
     refine Nxt.mk (o:=_) (bm 15 8191) rfl rfl ?_
     refine W.storeSl (α:=Str) (i:=1) [(.slice none 0 0),ak,c4,(str b.fReason),q,(str b.fBody),(int b.fRequested),(int b.fReceived)] S dn rfl rfl rfl lay45 (Nat.le_of_ble_eq_true rfl) rfl ?_
     intro gu S
     refine We ?_
     refine WC.take (i:=13) (bm 15 16383) rfl kr kr kr rfl (fun _ _=>(R.fieldB k zDG)) ?_
     refine WC.next (rs:=[14]) ⟨b2,((ae.trans a2).trans a3),S.drop _ (.cons_cons _ (.cons _ .slnil))⟩ kr (List.cons_ne_nil _ _) (all1 ?_)
     refine Nxt.mk (o:=_) (bm 15 32767) rfl rfl ?_
     refine W.storeSl (α:=GField) (i:=1) [(.slice none 0 0),ak,c4,(str b.fReason),dp,(str b.fBody),(int b.fRequested),(int b.fReceived)] S en rfl rfl rfl lay22 (Nat.le_of_ble_eq_true rfl) rfl ?_
     intro gv S
     refine We<|WC.done ⟨b2,((ae.trans a2).trans a3),S.drop _ (.cons_cons _ (.cons _ .slnil))⟩ kr ?_
     have S3:=S
     replace S3:=S3.front 1 rfl
     replace S3:=S3.front 1 rfl
     replace S3:St t p _ b2 [.box u 92 [(.slice none 0 0),(.slice none 0 0),(.slice none 0 0),(str []),(.slice none 0 0),(str []),(int 0),(int 0)],.box x 92 [(.slice none 0 0),ak,c4,(str b.fReason),dp,(str b.fBody),(int b.fRequested),(int b.fReceived)]]:=S3
     replace S3:St t p _ b2 [.box u 92 [(.slice none 0 0),(.slice none 0 0),(.slice none 0 0),(str []),(.slice none 0 0),(str []),(int 0),(int 0)],.box x 92 [(.slice none 0 0),ak,c4,(str b.fReason),dp,(str b.fBody),(int b.fRequested),(int b.fReceived)]]:=S3.drop _ (.cons_cons _ (.cons_cons _ .slnil))
     exact ⟨b2,ak,c4,dp,k,ah,al,dn,en,S3⟩
    refine Nxt.mk (o:=_) (bm 15 219) rfl rfl ?_
    refine Lo 1 S<|We ?_
    refine WC.next (rs:=[2]) ⟨ab,(Hp.le.refl _),S.drop _ (.cons_cons _ (.cons _ .slnil))⟩ kr (List.cons_ne_nil _ _) (all1 ?_)
    refine Nxt.mk (o:=_) (bm 15 223) rfl rfl<|W.call S rfl (zAA S.holds (hG.post S.post) b.fVary j ao) ?_
    rintro cf gw fl a4 S cg
    have j:=Sl.mono j a4
    have d:=Sl.mono d a4
    have c:=Sl.mono c a4
    refine We ?_
    refine WC.take (i:=9) (bm 15 735) rfl kr kr kr rfl (fun _ _=>(R.fieldB k zDD)) ?_
    refine WC.next (rs:=[5]) ⟨fl,a4,S.drop _ (.cons_cons _ (.cons _ .slnil))⟩ kr (List.cons_ne_nil _ _) (all1 ?_)
    refine Nxt.mk (o:=_) (bm 15 767) rfl rfl<|W.call S rfl (zAA S.holds (hG.post S.post) b.fSnapshot d ai) ?_
    rintro c5 gx fm a5 S dq
    have j:=Sl.mono j a5
    have d:=Sl.mono d a5
    have c:=Sl.mono c a5
    have cg:=Sl.mono cg a5
    refine We ?_
    refine WC.next (rs:=[8]) ⟨fm,(a4.trans a5),S.drop _ (.cons_cons _ (.cons _ .slnil))⟩ kr (List.cons_ne_nil _ _) (all1 ?_)
    refine Nxt.mk (o:=_) (bm 15 1023) rfl rfl<|W.call S rfl (zAC S.holds (hG.post S.post) b.fFields c aj) ?_
    rintro dr gy b3 a6 S eo
    have j:=Sl.mono j a6
    have d:=Sl.mono d a6
    have c:=Sl.mono c a6
    have cg:=Sl.mono cg a6
    have dq:=Sl.mono dq a6
    refine We ?_
    refine WC.next (rs:=[10]) ⟨b3,((a4.trans a5).trans a6),S.drop _ (.cons_cons _ (.cons _ .slnil))⟩ kr (List.cons_ne_nil _ _) (all1 ?_)
    refine Nxt.mk (o:=_) (bm 15 2047) rfl rfl ?_
    refine W.storeSl (α:=Str) (i:=1) [(.slice none 0 0),cf,aa,(str b.fReason),q,(str b.fBody),(int b.fRequested),(int b.fReceived)] S cg rfl rfl rfl lay45 (Nat.le_of_ble_eq_true rfl) rfl ?_
    intro gz S
    refine We ?_
    refine WC.take (i:=11) (bm 15 4095) rfl kr kr kr rfl (fun _ _=>(R.fieldB k zDF)) ?_
    refine WC.next (rs:=[12]) ⟨b3,((a4.trans a5).trans a6),S.drop _ (.cons_cons _ (.cons _ .slnil))⟩ kr (List.cons_ne_nil _ _) (all1 ?_)
    refine Nxt.mk (o:=_) (bm 15 8191) rfl rfl ?_
    refine W.storeSl (α:=Str) (i:=1) [(.slice none 0 0),cf,c5,(str b.fReason),q,(str b.fBody),(int b.fRequested),(int b.fReceived)] S dq rfl rfl rfl lay45 (Nat.le_of_ble_eq_true rfl) rfl ?_
    intro g0 S
    refine We ?_
    refine WC.take (i:=13) (bm 15 16383) rfl kr kr kr rfl (fun _ _=>(R.fieldB k zDG)) ?_
    refine WC.next (rs:=[14]) ⟨b3,((a4.trans a5).trans a6),S.drop _ (.cons_cons _ (.cons _ .slnil))⟩ kr (List.cons_ne_nil _ _) (all1 ?_)
    refine Nxt.mk (o:=_) (bm 15 32767) rfl rfl ?_
    refine W.storeSl (α:=GField) (i:=1) [(.slice none 0 0),cf,c5,(str b.fReason),dr,(str b.fBody),(int b.fRequested),(int b.fReceived)] S eo rfl rfl rfl lay22 (Nat.le_of_ble_eq_true rfl) rfl ?_
    intro g1 S
    refine We<|WC.done ⟨b3,((a4.trans a5).trans a6),S.drop _ (.cons_cons _ (.cons _ .slnil))⟩ kr ?_
    have S3:=S
    replace S3:=S3.front 1 rfl
    replace S3:=S3.front 1 rfl
    replace S3:St t p _ b3 [.box u 92 [(.slice none 0 0),(.slice none 0 0),(.slice none 0 0),(str []),(.slice none 0 0),(str []),(int 0),(int 0)],.box x 92 [(.slice none 0 0),cf,c5,(str b.fReason),dr,(str b.fBody),(int b.fRequested),(int b.fReceived)]]:=S3
    replace S3:St t p _ b3 [.box u 92 [(.slice none 0 0),(.slice none 0 0),(.slice none 0 0),(str []),(.slice none 0 0),(str []),(int 0),(int 0)],.box x 92 [(.slice none 0 0),cf,c5,(str b.fReason),dr,(str b.fBody),(int b.fRequested),(int b.fReceived)]]:=S3.drop _ (.cons_cons _ (.cons_cons _ .slnil))
    exact ⟨b3,cf,c5,dr,k,ah,cg,dq,eo,S3⟩
   refine Nxt.mk (o:=_) (bm 15 203) rfl rfl ?_
   refine Lo 1 S<|We ?_
   refine WC.next (rs:=[2,4]) ⟨ab,(Hp.le.refl _),S.drop _ (.cons_cons _ (.cons _ .slnil))⟩ kr (List.cons_ne_nil _ _) (allS ?_ (all1 ?_))
   ·refine Nxt.mk (o:=_) (bm 15 207) rfl rfl<|W.call S rfl (zAA S.holds (hG.post S.post) b.fVary j ao) ?_
    rintro ch g2 ep ar S ci
    have j:=Sl.mono j ar
    have c:=Sl.mono c ar
    have d:=Sl.mono d ar
    refine We ?_
    refine WC.next (rs:=[4]) ⟨ep,ar,S.drop _ (.cons_cons _ (.cons _ .slnil))⟩ kr (List.cons_ne_nil _ _) (all1 ?_)
    refine Nxt.mk (o:=_) (bm 15 223) rfl rfl ?_
    refine Lo 1 S<|We ?_
    refine WC.take (i:=9) (bm 15 735) rfl kr kr kr rfl (fun _ _=>(R.fieldB k zDD)) ?_
    refine WC.next (rs:=[5]) ⟨ep,ar,S.drop _ (.cons_cons _ (.cons _ .slnil))⟩ kr (List.cons_ne_nil _ _) (all1 ?_)
    refine Nxt.mk (o:=_) (bm 15 767) rfl rfl<|W.call S rfl (zAA S.holds (hG.post S.post) b.fSnapshot d ai) ?_
    rintro c6 g3 fn a7 S ds
    have j:=Sl.mono j a7
    have c:=Sl.mono c a7
    have ci:=Sl.mono ci a7
    have d:=Sl.mono d a7
    refine We ?_
    refine WC.next (rs:=[8]) ⟨fn,(ar.trans a7),S.drop _ (.cons_cons _ (.cons _ .slnil))⟩ kr (List.cons_ne_nil _ _) (all1 ?_)
    refine Nxt.mk (o:=_) (bm 15 1023) rfl rfl<|W.call S rfl (zAC S.holds (hG.post S.post) b.fFields c aj) ?_
    rintro dt g4 b4 a8 S eq
    have j:=Sl.mono j a8
    have c:=Sl.mono c a8
    have ci:=Sl.mono ci a8
    have d:=Sl.mono d a8
    have ds:=Sl.mono ds a8
    refine We ?_
    refine WC.next (rs:=[10]) ⟨b4,((ar.trans a7).trans a8),S.drop _ (.cons_cons _ (.cons _ .slnil))⟩ kr (List.cons_ne_nil _ _) (all1 ?_)
    refine Nxt.mk (o:=_) (bm 15 2047) rfl rfl ?_
    refine W.storeSl (α:=Str) (i:=1) [(.slice none 0 0),ch,aa,(str b.fReason),q,(str b.fBody),(int b.fRequested),(int b.fReceived)] S ci rfl rfl rfl lay45 (Nat.le_of_ble_eq_true rfl) rfl ?_
    intro g5 S
    refine We ?_
    refine WC.take (i:=11) (bm 15 4095) rfl kr kr kr rfl (fun _ _=>(R.fieldB k zDF)) ?_
    refine WC.next (rs:=[12]) ⟨b4,((ar.trans a7).trans a8),S.drop _ (.cons_cons _ (.cons _ .slnil))⟩ kr (List.cons_ne_nil _ _) (all1 ?_)
    refine Nxt.mk (o:=_) (bm 15 8191) rfl rfl ?_
    refine W.storeSl (α:=Str) (i:=1) [(.slice none 0 0),ch,c6,(str b.fReason),q,(str b.fBody),(int b.fRequested),(int b.fReceived)] S ds rfl rfl rfl lay45 (Nat.le_of_ble_eq_true rfl) rfl ?_
    intro g6 S
    refine We ?_
    refine WC.take (i:=13) (bm 15 16383) rfl kr kr kr rfl (fun _ _=>(R.fieldB k zDG)) ?_
    refine WC.next (rs:=[14]) ⟨b4,((ar.trans a7).trans a8),S.drop _ (.cons_cons _ (.cons _ .slnil))⟩ kr (List.cons_ne_nil _ _) (all1 ?_)
    refine Nxt.mk (o:=_) (bm 15 32767) rfl rfl ?_
    refine W.storeSl (α:=GField) (i:=1) [(.slice none 0 0),ch,c6,(str b.fReason),dt,(str b.fBody),(int b.fRequested),(int b.fReceived)] S eq rfl rfl rfl lay22 (Nat.le_of_ble_eq_true rfl) rfl ?_
    intro g7 S
    refine We<|WC.done ⟨b4,((ar.trans a7).trans a8),S.drop _ (.cons_cons _ (.cons _ .slnil))⟩ kr ?_
    have S3:=S
    replace S3:=S3.front 1 rfl
    replace S3:=S3.front 1 rfl
    replace S3:St t p _ b4 [.box u 92 [(.slice none 0 0),(.slice none 0 0),(.slice none 0 0),(str []),(.slice none 0 0),(str []),(int 0),(int 0)],.box x 92 [(.slice none 0 0),ch,c6,(str b.fReason),dt,(str b.fBody),(int b.fRequested),(int b.fReceived)]]:=S3
    replace S3:St t p _ b4 [.box u 92 [(.slice none 0 0),(.slice none 0 0),(.slice none 0 0),(str []),(.slice none 0 0),(str []),(int 0),(int 0)],.box x 92 [(.slice none 0 0),ch,c6,(str b.fReason),dt,(str b.fBody),(int b.fRequested),(int b.fReceived)]]:=S3.drop _ (.cons_cons _ (.cons_cons _ .slnil))
    exact ⟨b4,ch,c6,dt,k,ah,ci,ds,eq,S3⟩
   refine Nxt.mk (o:=_) (bm 15 219) rfl rfl ?_
   refine Lo 1 S<|We ?_
   refine WC.next (rs:=[2]) ⟨ab,(Hp.le.refl _),S.drop _ (.cons_cons _ (.cons _ .slnil))⟩ kr (List.cons_ne_nil _ _) (all1 ?_)
   refine Nxt.mk (o:=_) (bm 15 223) rfl rfl<|W.call S rfl (zAA S.holds (hG.post S.post) b.fVary j ao) ?_
   rintro cj g8 fo a9 S ck
   have j:=Sl.mono j a9
   have c:=Sl.mono c a9
   have d:=Sl.mono d a9
   refine We ?_
   refine WC.take (i:=9) (bm 15 735) rfl kr kr kr rfl (fun _ _=>(R.fieldB k zDD)) ?_
   refine WC.next (rs:=[5]) ⟨fo,a9,S.drop _ (.cons_cons _ (.cons _ .slnil))⟩ kr (List.cons_ne_nil _ _) (all1 ?_)
   refine Nxt.mk (o:=_) (bm 15 767) rfl rfl<|W.call S rfl (zAA S.holds (hG.post S.post) b.fSnapshot d ai) ?_
   rintro c7 g9 fp ba S du
   have j:=Sl.mono j ba
   have c:=Sl.mono c ba
   have d:=Sl.mono d ba
   have ck:=Sl.mono ck ba
   refine We ?_
   refine WC.next (rs:=[8]) ⟨fp,(a9.trans ba),S.drop _ (.cons_cons _ (.cons _ .slnil))⟩ kr (List.cons_ne_nil _ _) (all1 ?_)
   refine Nxt.mk (o:=_) (bm 15 1023) rfl rfl<|W.call S rfl (zAC S.holds (hG.post S.post) b.fFields c aj) ?_
   rintro dv ha b5 bb S er
   have j:=Sl.mono j bb
   have c:=Sl.mono c bb
   have d:=Sl.mono d bb
   have ck:=Sl.mono ck bb
   have du:=Sl.mono du bb
   refine We ?_
   refine WC.next (rs:=[10]) ⟨b5,((a9.trans ba).trans bb),S.drop _ (.cons_cons _ (.cons _ .slnil))⟩ kr (List.cons_ne_nil _ _) (all1 ?_)
   refine Nxt.mk (o:=_) (bm 15 2047) rfl rfl ?_
   refine W.storeSl (α:=Str) (i:=1) [(.slice none 0 0),cj,aa,(str b.fReason),q,(str b.fBody),(int b.fRequested),(int b.fReceived)] S ck rfl rfl rfl lay45 (Nat.le_of_ble_eq_true rfl) rfl ?_
   intro hb S
   refine We ?_
   refine WC.take (i:=11) (bm 15 4095) rfl kr kr kr rfl (fun _ _=>(R.fieldB k zDF)) ?_
   refine WC.next (rs:=[12]) ⟨b5,((a9.trans ba).trans bb),S.drop _ (.cons_cons _ (.cons _ .slnil))⟩ kr (List.cons_ne_nil _ _) (all1 ?_)
   refine Nxt.mk (o:=_) (bm 15 8191) rfl rfl ?_
   refine W.storeSl (α:=Str) (i:=1) [(.slice none 0 0),cj,c7,(str b.fReason),q,(str b.fBody),(int b.fRequested),(int b.fReceived)] S du rfl rfl rfl lay45 (Nat.le_of_ble_eq_true rfl) rfl ?_
   intro hc S
   refine We ?_
   refine WC.take (i:=13) (bm 15 16383) rfl kr kr kr rfl (fun _ _=>(R.fieldB k zDG)) ?_
   refine WC.next (rs:=[14]) ⟨b5,((a9.trans ba).trans bb),S.drop _ (.cons_cons _ (.cons _ .slnil))⟩ kr (List.cons_ne_nil _ _) (all1 ?_)
   refine Nxt.mk (o:=_) (bm 15 32767) rfl rfl ?_
   refine W.storeSl (α:=GField) (i:=1) [(.slice none 0 0),cj,c7,(str b.fReason),dv,(str b.fBody),(int b.fRequested),(int b.fReceived)] S er rfl rfl rfl lay22 (Nat.le_of_ble_eq_true rfl) rfl ?_
   intro hd S
   refine We<|WC.done ⟨b5,((a9.trans ba).trans bb),S.drop _ (.cons_cons _ (.cons _ .slnil))⟩ kr ?_
   have S3:=S
   replace S3:=S3.front 1 rfl
   replace S3:=S3.front 1 rfl
   replace S3:St t p _ b5 [.box u 92 [(.slice none 0 0),(.slice none 0 0),(.slice none 0 0),(str []),(.slice none 0 0),(str []),(int 0),(int 0)],.box x 92 [(.slice none 0 0),cj,c7,(str b.fReason),dv,(str b.fBody),(int b.fRequested),(int b.fReceived)]]:=S3
   replace S3:St t p _ b5 [.box u 92 [(.slice none 0 0),(.slice none 0 0),(.slice none 0 0),(str []),(.slice none 0 0),(str []),(int 0),(int 0)],.box x 92 [(.slice none 0 0),cj,c7,(str b.fReason),dv,(str b.fBody),(int b.fRequested),(int b.fReceived)]]:=S3.drop _ (.cons_cons _ (.cons_cons _ .slnil))
   exact ⟨b5,cj,c7,dv,k,ah,ck,du,er,S3⟩
  ·refine Nxt.mk (o:=_) (bm 15 89) rfl rfl ?_
   refine Lo 1 S<|We ?_
   refine WC.next (rs:=[1,7]) ⟨ab,(Hp.le.refl _),S.drop _ (.cons_cons _ (.cons _ .slnil))⟩ kr (List.cons_ne_nil _ _) (allS ?_ (all1 ?_))
   ·refine Nxt.mk (o:=_) (bm 15 91) rfl rfl ?_
    refine Lo 1 S<|We ?_
    refine WC.next (rs:=[2,7]) ⟨ab,(Hp.le.refl _),S.drop _ (.cons_cons _ (.cons _ .slnil))⟩ kr (List.cons_ne_nil _ _) (allS ?_ (all1 ?_))
    ·refine Nxt.mk (o:=_) (bm 15 95) rfl rfl<|W.call S rfl (zAA S.holds (hG.post S.post) b.fVary j ao) ?_
     rintro am he es af S an
     have d:=Sl.mono d af
     have j:=Sl.mono j af
     have c:=Sl.mono c af
     refine We ?_
     refine WC.next (rs:=[5,7]) ⟨es,af,S.drop _ (.cons_cons _ (.cons _ .slnil))⟩ kr (List.cons_ne_nil _ _) (allS ?_ (all1 ?_))
     ·refine Nxt.mk (o:=_) (bm 15 127) rfl rfl<|W.call S rfl (zAA S.holds (hG.post S.post) b.fSnapshot d ai) ?_
      rintro c8 hf et au S dw
      have d:=Sl.mono d au
      have j:=Sl.mono j au
      have an:=Sl.mono an au
      have c:=Sl.mono c au
      refine We ?_
      refine WC.next (rs:=[7]) ⟨et,(af.trans au),S.drop _ (.cons_cons _ (.cons _ .slnil))⟩ kr (List.cons_ne_nil _ _) (all1 ?_)
      refine Nxt.mk (o:=_) (bm 15 255) rfl rfl ?_
      refine Lo 1 S<|We ?_
      refine WC.take (i:=9) (bm 15 767) rfl kr kr kr rfl (fun _ _=>(R.fieldB k zDD)) ?_
      refine WC.next (rs:=[8]) ⟨et,(af.trans au),S.drop _ (.cons_cons _ (.cons _ .slnil))⟩ kr (List.cons_ne_nil _ _) (all1 ?_)
      refine Nxt.mk (o:=_) (bm 15 1023) rfl rfl<|W.call S rfl (zAC S.holds (hG.post S.post) b.fFields c aj) ?_
      rintro dx hg b6 bc S eu
      have d:=Sl.mono d bc
      have j:=Sl.mono j bc
      have an:=Sl.mono an bc
      have dw:=Sl.mono dw bc
      have c:=Sl.mono c bc
      refine We ?_
      refine WC.next (rs:=[10]) ⟨b6,((af.trans au).trans bc),S.drop _ (.cons_cons _ (.cons _ .slnil))⟩ kr (List.cons_ne_nil _ _) (all1 ?_)
      refine Nxt.mk (o:=_) (bm 15 2047) rfl rfl ?_
      refine W.storeSl (α:=Str) (i:=1) [(.slice none 0 0),am,aa,(str b.fReason),q,(str b.fBody),(int b.fRequested),(int b.fReceived)] S an rfl rfl rfl lay45 (Nat.le_of_ble_eq_true rfl) rfl ?_
      intro hh S
      refine We ?_
      refine WC.take (i:=11) (bm 15 4095) rfl kr kr kr rfl (fun _ _=>(R.fieldB k zDF)) ?_
      refine WC.next (rs:=[12]) ⟨b6,((af.trans au).trans bc),S.drop _ (.cons_cons _ (.cons _ .slnil))⟩ kr (List.cons_ne_nil _ _) (all1 ?_)
      refine Nxt.mk (o:=_) (bm 15 8191) rfl rfl ?_
      refine W.storeSl (α:=Str) (i:=1) [(.slice none 0 0),am,c8,(str b.fReason),q,(str b.fBody),(int b.fRequested),(int b.fReceived)] S dw rfl rfl rfl lay45 (Nat.le_of_ble_eq_true rfl) rfl ?_
      intro hi S
      refine We ?_
      refine WC.take (i:=13) (bm 15 16383) rfl kr kr kr rfl (fun _ _=>(R.fieldB k zDG)) ?_
      refine WC.next (rs:=[14]) ⟨b6,((af.trans au).trans bc),S.drop _ (.cons_cons _ (.cons _ .slnil))⟩ kr (List.cons_ne_nil _ _) (all1 ?_)
      refine Nxt.mk (o:=_) (bm 15 32767) rfl rfl ?_
      refine W.storeSl (α:=GField) (i:=1) [(.slice none 0 0),am,c8,(str b.fReason),dx,(str b.fBody),(int b.fRequested),(int b.fReceived)] S eu rfl rfl rfl lay22 (Nat.le_of_ble_eq_true rfl) rfl ?_
      intro hj S
      refine We<|WC.done ⟨b6,((af.trans au).trans bc),S.drop _ (.cons_cons _ (.cons _ .slnil))⟩ kr ?_
      have S3:=S
      replace S3:=S3.front 1 rfl
      replace S3:=S3.front 1 rfl
      replace S3:St t p _ b6 [.box u 92 [(.slice none 0 0),(.slice none 0 0),(.slice none 0 0),(str []),(.slice none 0 0),(str []),(int 0),(int 0)],.box x 92 [(.slice none 0 0),am,c8,(str b.fReason),dx,(str b.fBody),(int b.fRequested),(int b.fReceived)]]:=S3
      replace S3:St t p _ b6 [.box u 92 [(.slice none 0 0),(.slice none 0 0),(.slice none 0 0),(str []),(.slice none 0 0),(str []),(int 0),(int 0)],.box x 92 [(.slice none 0 0),am,c8,(str b.fReason),dx,(str b.fBody),(int b.fRequested),(int b.fReceived)]]:=S3.drop _ (.cons_cons _ (.cons_cons _ .slnil))
      exact ⟨b6,am,c8,dx,k,ah,an,dw,eu,S3⟩
     refine Nxt.mk (o:=_) (bm 15 223) rfl rfl ?_
     refine Lo 1 S<|We ?_
     refine WC.take (i:=9) (bm 15 735) rfl kr kr kr rfl (fun _ _=>(R.fieldB k zDD)) ?_
     refine WC.next (rs:=[5]) ⟨es,af,S.drop _ (.cons_cons _ (.cons _ .slnil))⟩ kr (List.cons_ne_nil _ _) (all1 ?_)
     refine Nxt.mk (o:=_) (bm 15 767) rfl rfl<|W.call S rfl (zAA S.holds (hG.post S.post) b.fSnapshot d ai) ?_
     rintro c9 hk fq bd S dy
     have d:=Sl.mono d bd
     have j:=Sl.mono j bd
     have an:=Sl.mono an bd
     have c:=Sl.mono c bd
     refine We ?_
     refine WC.next (rs:=[8]) ⟨fq,(af.trans bd),S.drop _ (.cons_cons _ (.cons _ .slnil))⟩ kr (List.cons_ne_nil _ _) (all1 ?_)
     refine Nxt.mk (o:=_) (bm 15 1023) rfl rfl<|W.call S rfl (zAC S.holds (hG.post S.post) b.fFields c aj) ?_
     rintro dz hl b7 be S ew
     have d:=Sl.mono d be
     have j:=Sl.mono j be
     have an:=Sl.mono an be
     have c:=Sl.mono c be
     have dy:=Sl.mono dy be
     refine We ?_
     refine WC.next (rs:=[10]) ⟨b7,((af.trans bd).trans be),S.drop _ (.cons_cons _ (.cons _ .slnil))⟩ kr (List.cons_ne_nil _ _) (all1 ?_)
     refine Nxt.mk (o:=_) (bm 15 2047) rfl rfl ?_
     refine W.storeSl (α:=Str) (i:=1) [(.slice none 0 0),am,aa,(str b.fReason),q,(str b.fBody),(int b.fRequested),(int b.fReceived)] S an rfl rfl rfl lay45 (Nat.le_of_ble_eq_true rfl) rfl ?_
     intro hm S
     refine We ?_
     refine WC.take (i:=11) (bm 15 4095) rfl kr kr kr rfl (fun _ _=>(R.fieldB k zDF)) ?_
     refine WC.next (rs:=[12]) ⟨b7,((af.trans bd).trans be),S.drop _ (.cons_cons _ (.cons _ .slnil))⟩ kr (List.cons_ne_nil _ _) (all1 ?_)
     refine Nxt.mk (o:=_) (bm 15 8191) rfl rfl ?_
     refine W.storeSl (α:=Str) (i:=1) [(.slice none 0 0),am,c9,(str b.fReason),q,(str b.fBody),(int b.fRequested),(int b.fReceived)] S dy rfl rfl rfl lay45 (Nat.le_of_ble_eq_true rfl) rfl ?_
     intro hn S
     refine We ?_
     refine WC.take (i:=13) (bm 15 16383) rfl kr kr kr rfl (fun _ _=>(R.fieldB k zDG)) ?_
     refine WC.next (rs:=[14]) ⟨b7,((af.trans bd).trans be),S.drop _ (.cons_cons _ (.cons _ .slnil))⟩ kr (List.cons_ne_nil _ _) (all1 ?_)
     refine Nxt.mk (o:=_) (bm 15 32767) rfl rfl ?_
     refine W.storeSl (α:=GField) (i:=1) [(.slice none 0 0),am,c9,(str b.fReason),dz,(str b.fBody),(int b.fRequested),(int b.fReceived)] S ew rfl rfl rfl lay22 (Nat.le_of_ble_eq_true rfl) rfl ?_
     intro ho S
     refine We<|WC.done ⟨b7,((af.trans bd).trans be),S.drop _ (.cons_cons _ (.cons _ .slnil))⟩ kr ?_
     have S3:=S
     replace S3:=S3.front 1 rfl
     replace S3:=S3.front 1 rfl
     replace S3:St t p _ b7 [.box u 92 [(.slice none 0 0),(.slice none 0 0),(.slice none 0 0),(str []),(.slice none 0 0),(str []),(int 0),(int 0)],.box x 92 [(.slice none 0 0),am,c9,(str b.fReason),dz,(str b.fBody),(int b.fRequested),(int b.fReceived)]]:=S3
     replace S3:St t p _ b7 [.box u 92 [(.slice none 0 0),(.slice none 0 0),(.slice none 0 0),(str []),(.slice none 0 0),(str []),(int 0),(int 0)],.box x 92 [(.slice none 0 0),am,c9,(str b.fReason),dz,(str b.fBody),(int b.fRequested),(int b.fReceived)]]:=S3.drop _ (.cons_cons _ (.cons_cons _ .slnil))
     exact ⟨b7,am,c9,dz,k,ah,an,dy,ew,S3⟩
    refine Nxt.mk (o:=_) (bm 15 219) rfl rfl ?_
    refine Lo 1 S<|We ?_
    refine WC.next (rs:=[2]) ⟨ab,(Hp.le.refl _),S.drop _ (.cons_cons _ (.cons _ .slnil))⟩ kr (List.cons_ne_nil _ _) (all1 ?_)
    refine Nxt.mk (o:=_) (bm 15 223) rfl rfl<|W.call S rfl (zAA S.holds (hG.post S.post) b.fVary j ao) ?_
    rintro cl hp fr bf S cm
    have d:=Sl.mono d bf
    have j:=Sl.mono j bf
    have c:=Sl.mono c bf
    refine We ?_
    refine WC.take (i:=9) (bm 15 735) rfl kr kr kr rfl (fun _ _=>(R.fieldB k zDD)) ?_
    refine WC.next (rs:=[5]) ⟨fr,bf,S.drop _ (.cons_cons _ (.cons _ .slnil))⟩ kr (List.cons_ne_nil _ _) (all1 ?_)
    refine Nxt.mk (o:=_) (bm 15 767) rfl rfl<|W.call S rfl (zAA S.holds (hG.post S.post) b.fSnapshot d ai) ?_
    rintro da hq fs bg S d0
    have d:=Sl.mono d bg
    have j:=Sl.mono j bg
    have c:=Sl.mono c bg
    have cm:=Sl.mono cm bg
    refine We ?_
    refine WC.next (rs:=[8]) ⟨fs,(bf.trans bg),S.drop _ (.cons_cons _ (.cons _ .slnil))⟩ kr (List.cons_ne_nil _ _) (all1 ?_)
    refine Nxt.mk (o:=_) (bm 15 1023) rfl rfl<|W.call S rfl (zAC S.holds (hG.post S.post) b.fFields c aj) ?_
    rintro d1 hr b8 bh S ex
    have d:=Sl.mono d bh
    have j:=Sl.mono j bh
    have c:=Sl.mono c bh
    have cm:=Sl.mono cm bh
    have d0:=Sl.mono d0 bh
    refine We ?_
    refine WC.next (rs:=[10]) ⟨b8,((bf.trans bg).trans bh),S.drop _ (.cons_cons _ (.cons _ .slnil))⟩ kr (List.cons_ne_nil _ _) (all1 ?_)
    refine Nxt.mk (o:=_) (bm 15 2047) rfl rfl ?_
    refine W.storeSl (α:=Str) (i:=1) [(.slice none 0 0),cl,aa,(str b.fReason),q,(str b.fBody),(int b.fRequested),(int b.fReceived)] S cm rfl rfl rfl lay45 (Nat.le_of_ble_eq_true rfl) rfl ?_
    intro hs S
    refine We ?_
    refine WC.take (i:=11) (bm 15 4095) rfl kr kr kr rfl (fun _ _=>(R.fieldB k zDF)) ?_
    refine WC.next (rs:=[12]) ⟨b8,((bf.trans bg).trans bh),S.drop _ (.cons_cons _ (.cons _ .slnil))⟩ kr (List.cons_ne_nil _ _) (all1 ?_)
    refine Nxt.mk (o:=_) (bm 15 8191) rfl rfl ?_
    refine W.storeSl (α:=Str) (i:=1) [(.slice none 0 0),cl,da,(str b.fReason),q,(str b.fBody),(int b.fRequested),(int b.fReceived)] S d0 rfl rfl rfl lay45 (Nat.le_of_ble_eq_true rfl) rfl ?_
    intro ht S
    refine We ?_
    refine WC.take (i:=13) (bm 15 16383) rfl kr kr kr rfl (fun _ _=>(R.fieldB k zDG)) ?_
    refine WC.next (rs:=[14]) ⟨b8,((bf.trans bg).trans bh),S.drop _ (.cons_cons _ (.cons _ .slnil))⟩ kr (List.cons_ne_nil _ _) (all1 ?_)
    refine Nxt.mk (o:=_) (bm 15 32767) rfl rfl ?_
    refine W.storeSl (α:=GField) (i:=1) [(.slice none 0 0),cl,da,(str b.fReason),d1,(str b.fBody),(int b.fRequested),(int b.fReceived)] S ex rfl rfl rfl lay22 (Nat.le_of_ble_eq_true rfl) rfl ?_
    intro hu S
    refine We<|WC.done ⟨b8,((bf.trans bg).trans bh),S.drop _ (.cons_cons _ (.cons _ .slnil))⟩ kr ?_
    have S3:=S
    replace S3:=S3.front 1 rfl
    replace S3:=S3.front 1 rfl
    replace S3:St t p _ b8 [.box u 92 [(.slice none 0 0),(.slice none 0 0),(.slice none 0 0),(str []),(.slice none 0 0),(str []),(int 0),(int 0)],.box x 92 [(.slice none 0 0),cl,da,(str b.fReason),d1,(str b.fBody),(int b.fRequested),(int b.fReceived)]]:=S3
    replace S3:St t p _ b8 [.box u 92 [(.slice none 0 0),(.slice none 0 0),(.slice none 0 0),(str []),(.slice none 0 0),(str []),(int 0),(int 0)],.box x 92 [(.slice none 0 0),cl,da,(str b.fReason),d1,(str b.fBody),(int b.fRequested),(int b.fReceived)]]:=S3.drop _ (.cons_cons _ (.cons_cons _ .slnil))
    exact ⟨b8,cl,da,d1,k,ah,cm,d0,ex,S3⟩
   refine Nxt.mk (o:=_) (bm 15 217) rfl rfl ?_
   refine Lo 1 S<|We ?_
   refine WC.next (rs:=[1]) ⟨ab,(Hp.le.refl _),S.drop _ (.cons_cons _ (.cons _ .slnil))⟩ kr (List.cons_ne_nil _ _) (all1 ?_)
   refine Nxt.mk (o:=_) (bm 15 219) rfl rfl ?_
   refine Lo 1 S<|We ?_
   refine WC.next (rs:=[2]) ⟨ab,(Hp.le.refl _),S.drop _ (.cons_cons _ (.cons _ .slnil))⟩ kr (List.cons_ne_nil _ _) (all1 ?_)
   refine Nxt.mk (o:=_) (bm 15 223) rfl rfl<|W.call S rfl (zAA S.holds (hG.post S.post) b.fVary j ao) ?_
   rintro cn hv ft bi S co
   have d:=Sl.mono d bi
   have c:=Sl.mono c bi
   have j:=Sl.mono j bi
   refine We ?_
   refine WC.take (i:=9) (bm 15 735) rfl kr kr kr rfl (fun _ _=>(R.fieldB k zDD)) ?_
   refine WC.next (rs:=[5]) ⟨ft,bi,S.drop _ (.cons_cons _ (.cons _ .slnil))⟩ kr (List.cons_ne_nil _ _) (all1 ?_)
   refine Nxt.mk (o:=_) (bm 15 767) rfl rfl<|W.call S rfl (zAA S.holds (hG.post S.post) b.fSnapshot d ai) ?_
   rintro db hx fu bj S d2
   have d:=Sl.mono d bj
   have c:=Sl.mono c bj
   have j:=Sl.mono j bj
   have co:=Sl.mono co bj
   refine We ?_
   refine WC.next (rs:=[8]) ⟨fu,(bi.trans bj),S.drop _ (.cons_cons _ (.cons _ .slnil))⟩ kr (List.cons_ne_nil _ _) (all1 ?_)
   refine Nxt.mk (o:=_) (bm 15 1023) rfl rfl<|W.call S rfl (zAC S.holds (hG.post S.post) b.fFields c aj) ?_
   rintro d3 hy b9 bk S ey
   have d:=Sl.mono d bk
   have c:=Sl.mono c bk
   have j:=Sl.mono j bk
   have co:=Sl.mono co bk
   have d2:=Sl.mono d2 bk
   refine We ?_
   refine WC.next (rs:=[10]) ⟨b9,((bi.trans bj).trans bk),S.drop _ (.cons_cons _ (.cons _ .slnil))⟩ kr (List.cons_ne_nil _ _) (all1 ?_)
   refine Nxt.mk (o:=_) (bm 15 2047) rfl rfl ?_
   refine W.storeSl (α:=Str) (i:=1) [(.slice none 0 0),cn,aa,(str b.fReason),q,(str b.fBody),(int b.fRequested),(int b.fReceived)] S co rfl rfl rfl lay45 (Nat.le_of_ble_eq_true rfl) rfl ?_
   intro hz S
   refine We ?_
   refine WC.take (i:=11) (bm 15 4095) rfl kr kr kr rfl (fun _ _=>(R.fieldB k zDF)) ?_
   refine WC.next (rs:=[12]) ⟨b9,((bi.trans bj).trans bk),S.drop _ (.cons_cons _ (.cons _ .slnil))⟩ kr (List.cons_ne_nil _ _) (all1 ?_)
   refine Nxt.mk (o:=_) (bm 15 8191) rfl rfl ?_
   refine W.storeSl (α:=Str) (i:=1) [(.slice none 0 0),cn,db,(str b.fReason),q,(str b.fBody),(int b.fRequested),(int b.fReceived)] S d2 rfl rfl rfl lay45 (Nat.le_of_ble_eq_true rfl) rfl ?_
   intro h0 S
   refine We ?_
   refine WC.take (i:=13) (bm 15 16383) rfl kr kr kr rfl (fun _ _=>(R.fieldB k zDG)) ?_
   refine WC.next (rs:=[14]) ⟨b9,((bi.trans bj).trans bk),S.drop _ (.cons_cons _ (.cons _ .slnil))⟩ kr (List.cons_ne_nil _ _) (all1 ?_)
   refine Nxt.mk (o:=_) (bm 15 32767) rfl rfl ?_
   refine W.storeSl (α:=GField) (i:=1) [(.slice none 0 0),cn,db,(str b.fReason),d3,(str b.fBody),(int b.fRequested),(int b.fReceived)] S ey rfl rfl rfl lay22 (Nat.le_of_ble_eq_true rfl) rfl ?_
   intro h1 S
   refine We<|WC.done ⟨b9,((bi.trans bj).trans bk),S.drop _ (.cons_cons _ (.cons _ .slnil))⟩ kr ?_
   have S3:=S
   replace S3:=S3.front 1 rfl
   replace S3:=S3.front 1 rfl
   replace S3:St t p _ b9 [.box u 92 [(.slice none 0 0),(.slice none 0 0),(.slice none 0 0),(str []),(.slice none 0 0),(str []),(int 0),(int 0)],.box x 92 [(.slice none 0 0),cn,db,(str b.fReason),d3,(str b.fBody),(int b.fRequested),(int b.fReceived)]]:=S3
   replace S3:St t p _ b9 [.box u 92 [(.slice none 0 0),(.slice none 0 0),(.slice none 0 0),(str []),(.slice none 0 0),(str []),(int 0),(int 0)],.box x 92 [(.slice none 0 0),cn,db,(str b.fReason),d3,(str b.fBody),(int b.fRequested),(int b.fReceived)]]:=S3.drop _ (.cons_cons _ (.cons_cons _ .slnil))
   exact ⟨b9,cn,db,d3,k,ah,co,d2,ey,S3⟩
  refine Nxt.mk (o:=_) (bm 15 201) rfl rfl ?_
  refine Lo 1 S<|We ?_
  refine WC.next (rs:=[1,4]) ⟨ab,(Hp.le.refl _),S.drop _ (.cons_cons _ (.cons _ .slnil))⟩ kr (List.cons_ne_nil _ _) (allS ?_ (all1 ?_))
  ·refine Nxt.mk (o:=_) (bm 15 203) rfl rfl ?_
   refine Lo 1 S<|We ?_
   refine WC.next (rs:=[2,4]) ⟨ab,(Hp.le.refl _),S.drop _ (.cons_cons _ (.cons _ .slnil))⟩ kr (List.cons_ne_nil _ _) (allS ?_ (all1 ?_))
   ·refine Nxt.mk (o:=_) (bm 15 207) rfl rfl<|W.call S rfl (zAA S.holds (hG.post S.post) b.fVary j ao) ?_
    rintro cp h2 ez av S cq
    have c:=Sl.mono c av
    have j:=Sl.mono j av
    have d:=Sl.mono d av
    refine We ?_
    refine WC.next (rs:=[4]) ⟨ez,av,S.drop _ (.cons_cons _ (.cons _ .slnil))⟩ kr (List.cons_ne_nil _ _) (all1 ?_)
    refine Nxt.mk (o:=_) (bm 15 223) rfl rfl ?_
    refine Lo 1 S<|We ?_
    refine WC.take (i:=9) (bm 15 735) rfl kr kr kr rfl (fun _ _=>(R.fieldB k zDD)) ?_
    refine WC.next (rs:=[5]) ⟨ez,av,S.drop _ (.cons_cons _ (.cons _ .slnil))⟩ kr (List.cons_ne_nil _ _) (all1 ?_)
    refine Nxt.mk (o:=_) (bm 15 767) rfl rfl<|W.call S rfl (zAA S.holds (hG.post S.post) b.fSnapshot d ai) ?_
    rintro dc h3 fv bn S d4
    have c:=Sl.mono c bn
    have j:=Sl.mono j bn
    have cq:=Sl.mono cq bn
    have d:=Sl.mono d bn
    refine We ?_
    refine WC.next (rs:=[8]) ⟨fv,(av.trans bn),S.drop _ (.cons_cons _ (.cons _ .slnil))⟩ kr (List.cons_ne_nil _ _) (all1 ?_)
    refine Nxt.mk (o:=_) (bm 15 1023) rfl rfl<|W.call S rfl (zAC S.holds (hG.post S.post) b.fFields c aj) ?_
    rintro d5 h4 ca bo S e0
    have c:=Sl.mono c bo
    have j:=Sl.mono j bo
    have cq:=Sl.mono cq bo
    have d:=Sl.mono d bo
    have d4:=Sl.mono d4 bo
    refine We ?_
    refine WC.next (rs:=[10]) ⟨ca,((av.trans bn).trans bo),S.drop _ (.cons_cons _ (.cons _ .slnil))⟩ kr (List.cons_ne_nil _ _) (all1 ?_)
    refine Nxt.mk (o:=_) (bm 15 2047) rfl rfl ?_
    refine W.storeSl (α:=Str) (i:=1) [(.slice none 0 0),cp,aa,(str b.fReason),q,(str b.fBody),(int b.fRequested),(int b.fReceived)] S cq rfl rfl rfl lay45 (Nat.le_of_ble_eq_true rfl) rfl ?_
    intro h5 S
    refine We ?_
    refine WC.take (i:=11) (bm 15 4095) rfl kr kr kr rfl (fun _ _=>(R.fieldB k zDF)) ?_
    refine WC.next (rs:=[12]) ⟨ca,((av.trans bn).trans bo),S.drop _ (.cons_cons _ (.cons _ .slnil))⟩ kr (List.cons_ne_nil _ _) (all1 ?_)
    refine Nxt.mk (o:=_) (bm 15 8191) rfl rfl ?_
    refine W.storeSl (α:=Str) (i:=1) [(.slice none 0 0),cp,dc,(str b.fReason),q,(str b.fBody),(int b.fRequested),(int b.fReceived)] S d4 rfl rfl rfl lay45 (Nat.le_of_ble_eq_true rfl) rfl ?_
    intro h6 S
    refine We ?_
    refine WC.take (i:=13) (bm 15 16383) rfl kr kr kr rfl (fun _ _=>(R.fieldB k zDG)) ?_
    refine WC.next (rs:=[14]) ⟨ca,((av.trans bn).trans bo),S.drop _ (.cons_cons _ (.cons _ .slnil))⟩ kr (List.cons_ne_nil _ _) (all1 ?_)
    refine Nxt.mk (o:=_) (bm 15 32767) rfl rfl ?_
    refine W.storeSl (α:=GField) (i:=1) [(.slice none 0 0),cp,dc,(str b.fReason),d5,(str b.fBody),(int b.fRequested),(int b.fReceived)] S e0 rfl rfl rfl lay22 (Nat.le_of_ble_eq_true rfl) rfl ?_
    intro ia S
    refine We<|WC.done ⟨ca,((av.trans bn).trans bo),S.drop _ (.cons_cons _ (.cons _ .slnil))⟩ kr ?_
    have S3:=S
    replace S3:=S3.front 1 rfl
    replace S3:=S3.front 1 rfl
    replace S3:St t p _ ca [.box u 92 [(.slice none 0 0),(.slice none 0 0),(.slice none 0 0),(str []),(.slice none 0 0),(str []),(int 0),(int 0)],.box x 92 [(.slice none 0 0),cp,dc,(str b.fReason),d5,(str b.fBody),(int b.fRequested),(int b.fReceived)]]:=S3
    replace S3:St t p _ ca [.box u 92 [(.slice none 0 0),(.slice none 0 0),(.slice none 0 0),(str []),(.slice none 0 0),(str []),(int 0),(int 0)],.box x 92 [(.slice none 0 0),cp,dc,(str b.fReason),d5,(str b.fBody),(int b.fRequested),(int b.fReceived)]]:=S3.drop _ (.cons_cons _ (.cons_cons _ .slnil))
    exact ⟨ca,cp,dc,d5,k,ah,cq,d4,e0,S3⟩
   refine Nxt.mk (o:=_) (bm 15 219) rfl rfl ?_
   refine Lo 1 S<|We ?_
   refine WC.next (rs:=[2]) ⟨ab,(Hp.le.refl _),S.drop _ (.cons_cons _ (.cons _ .slnil))⟩ kr (List.cons_ne_nil _ _) (all1 ?_)
   refine Nxt.mk (o:=_) (bm 15 223) rfl rfl<|W.call S rfl (zAA S.holds (hG.post S.post) b.fVary j ao) ?_
   rintro cr ib fw bp S ct
   have c:=Sl.mono c bp
   have j:=Sl.mono j bp
   have d:=Sl.mono d bp
   refine We ?_
   refine WC.take (i:=9) (bm 15 735) rfl kr kr kr rfl (fun _ _=>(R.fieldB k zDD)) ?_
   refine WC.next (rs:=[5]) ⟨fw,bp,S.drop _ (.cons_cons _ (.cons _ .slnil))⟩ kr (List.cons_ne_nil _ _) (all1 ?_)
   refine Nxt.mk (o:=_) (bm 15 767) rfl rfl<|W.call S rfl (zAA S.holds (hG.post S.post) b.fSnapshot d ai) ?_
   rintro dd ic fx bq S d6
   have c:=Sl.mono c bq
   have j:=Sl.mono j bq
   have d:=Sl.mono d bq
   have ct:=Sl.mono ct bq
   refine We ?_
   refine WC.next (rs:=[8]) ⟨fx,(bp.trans bq),S.drop _ (.cons_cons _ (.cons _ .slnil))⟩ kr (List.cons_ne_nil _ _) (all1 ?_)
   refine Nxt.mk (o:=_) (bm 15 1023) rfl rfl<|W.call S rfl (zAC S.holds (hG.post S.post) b.fFields c aj) ?_
   rintro d7 id cb br S e1
   have c:=Sl.mono c br
   have j:=Sl.mono j br
   have d:=Sl.mono d br
   have ct:=Sl.mono ct br
   have d6:=Sl.mono d6 br
   refine We ?_
   refine WC.next (rs:=[10]) ⟨cb,((bp.trans bq).trans br),S.drop _ (.cons_cons _ (.cons _ .slnil))⟩ kr (List.cons_ne_nil _ _) (all1 ?_)
   refine Nxt.mk (o:=_) (bm 15 2047) rfl rfl ?_
   refine W.storeSl (α:=Str) (i:=1) [(.slice none 0 0),cr,aa,(str b.fReason),q,(str b.fBody),(int b.fRequested),(int b.fReceived)] S ct rfl rfl rfl lay45 (Nat.le_of_ble_eq_true rfl) rfl ?_
   intro ie S
   refine We ?_
   refine WC.take (i:=11) (bm 15 4095) rfl kr kr kr rfl (fun _ _=>(R.fieldB k zDF)) ?_
   refine WC.next (rs:=[12]) ⟨cb,((bp.trans bq).trans br),S.drop _ (.cons_cons _ (.cons _ .slnil))⟩ kr (List.cons_ne_nil _ _) (all1 ?_)
   refine Nxt.mk (o:=_) (bm 15 8191) rfl rfl ?_
   refine W.storeSl (α:=Str) (i:=1) [(.slice none 0 0),cr,dd,(str b.fReason),q,(str b.fBody),(int b.fRequested),(int b.fReceived)] S d6 rfl rfl rfl lay45 (Nat.le_of_ble_eq_true rfl) rfl ?_
   intro ig S
   refine We ?_
   refine WC.take (i:=13) (bm 15 16383) rfl kr kr kr rfl (fun _ _=>(R.fieldB k zDG)) ?_
   refine WC.next (rs:=[14]) ⟨cb,((bp.trans bq).trans br),S.drop _ (.cons_cons _ (.cons _ .slnil))⟩ kr (List.cons_ne_nil _ _) (all1 ?_)
   refine Nxt.mk (o:=_) (bm 15 32767) rfl rfl ?_
   refine W.storeSl (α:=GField) (i:=1) [(.slice none 0 0),cr,dd,(str b.fReason),d7,(str b.fBody),(int b.fRequested),(int b.fReceived)] S e1 rfl rfl rfl lay22 (Nat.le_of_ble_eq_true rfl) rfl ?_
   intro ih S
   refine We<|WC.done ⟨cb,((bp.trans bq).trans br),S.drop _ (.cons_cons _ (.cons _ .slnil))⟩ kr ?_
   have S3:=S
   replace S3:=S3.front 1 rfl
   replace S3:=S3.front 1 rfl
   replace S3:St t p _ cb [.box u 92 [(.slice none 0 0),(.slice none 0 0),(.slice none 0 0),(str []),(.slice none 0 0),(str []),(int 0),(int 0)],.box x 92 [(.slice none 0 0),cr,dd,(str b.fReason),d7,(str b.fBody),(int b.fRequested),(int b.fReceived)]]:=S3
   replace S3:St t p _ cb [.box u 92 [(.slice none 0 0),(.slice none 0 0),(.slice none 0 0),(str []),(.slice none 0 0),(str []),(int 0),(int 0)],.box x 92 [(.slice none 0 0),cr,dd,(str b.fReason),d7,(str b.fBody),(int b.fRequested),(int b.fReceived)]]:=S3.drop _ (.cons_cons _ (.cons_cons _ .slnil))
   exact ⟨cb,cr,dd,d7,k,ah,ct,d6,e1,S3⟩
  refine Nxt.mk (o:=_) (bm 15 217) rfl rfl ?_
  refine Lo 1 S<|We ?_
  refine WC.next (rs:=[1]) ⟨ab,(Hp.le.refl _),S.drop _ (.cons_cons _ (.cons _ .slnil))⟩ kr (List.cons_ne_nil _ _) (all1 ?_)
  refine Nxt.mk (o:=_) (bm 15 219) rfl rfl ?_
  refine Lo 1 S<|We ?_
  refine WC.next (rs:=[2]) ⟨ab,(Hp.le.refl _),S.drop _ (.cons_cons _ (.cons _ .slnil))⟩ kr (List.cons_ne_nil _ _) (all1 ?_)
  refine Nxt.mk (o:=_) (bm 15 223) rfl rfl<|W.call S rfl (zAA S.holds (hG.post S.post) b.fVary j ao) ?_
  rintro cu ii fy bt S cv
  have c:=Sl.mono c bt
  have d:=Sl.mono d bt
  refine We ?_
  refine WC.take (i:=9) (bm 15 735) rfl kr kr kr rfl (fun _ _=>(R.fieldB k zDD)) ?_
  refine WC.next (rs:=[5]) ⟨fy,bt,S.drop _ (.cons_cons _ (.cons _ .slnil))⟩ kr (List.cons_ne_nil _ _) (all1 ?_)
  refine Nxt.mk (o:=_) (bm 15 767) rfl rfl<|W.call S rfl (zAA S.holds (hG.post S.post) b.fSnapshot d ai) ?_
  rintro de ij fz cc S d8
  have c:=Sl.mono c cc
  have cv:=Sl.mono cv cc
  refine We ?_
  refine WC.next (rs:=[8]) ⟨fz,(bt.trans cc),S.drop _ (.cons_cons _ (.cons _ .slnil))⟩ kr (List.cons_ne_nil _ _) (all1 ?_)
  refine Nxt.mk (o:=_) (bm 15 1023) rfl rfl<|W.call S rfl (zAC S.holds (hG.post S.post) b.fFields c aj) ?_
  rintro d9 ik cd cw S e2
  have cv:=Sl.mono cv cw
  have d8:=Sl.mono d8 cw
  refine We ?_
  refine WC.next (rs:=[10]) ⟨cd,((bt.trans cc).trans cw),S.drop _ (.cons_cons _ (.cons _ .slnil))⟩ kr (List.cons_ne_nil _ _) (all1 ?_)
  refine Nxt.mk (o:=_) (bm 15 2047) rfl rfl ?_
  refine W.storeSl (α:=Str) (i:=1) [(.slice none 0 0),cu,aa,(str b.fReason),q,(str b.fBody),(int b.fRequested),(int b.fReceived)] S cv rfl rfl rfl lay45 (Nat.le_of_ble_eq_true rfl) rfl ?_
  intro il S
  refine We ?_
  refine WC.take (i:=11) (bm 15 4095) rfl kr kr kr rfl (fun _ _=>(R.fieldB k zDF)) ?_
  refine WC.next (rs:=[12]) ⟨cd,((bt.trans cc).trans cw),S.drop _ (.cons_cons _ (.cons _ .slnil))⟩ kr (List.cons_ne_nil _ _) (all1 ?_)
  refine Nxt.mk (o:=_) (bm 15 8191) rfl rfl ?_
  refine W.storeSl (α:=Str) (i:=1) [(.slice none 0 0),cu,de,(str b.fReason),q,(str b.fBody),(int b.fRequested),(int b.fReceived)] S d8 rfl rfl rfl lay45 (Nat.le_of_ble_eq_true rfl) rfl ?_
  intro im S
  refine We ?_
  refine WC.take (i:=13) (bm 15 16383) rfl kr kr kr rfl (fun _ _=>(R.fieldB k zDG)) ?_
  refine WC.next (rs:=[14]) ⟨cd,((bt.trans cc).trans cw),S.drop _ (.cons_cons _ (.cons _ .slnil))⟩ kr (List.cons_ne_nil _ _) (all1 ?_)
  refine Nxt.mk (o:=_) (bm 15 32767) rfl rfl ?_
  refine W.storeSl (α:=GField) (i:=1) [(.slice none 0 0),cu,de,(str b.fReason),d9,(str b.fBody),(int b.fRequested),(int b.fReceived)] S e2 rfl rfl rfl lay22 (Nat.le_of_ble_eq_true rfl) rfl ?_
  intro io S
  refine We<|WC.done ⟨cd,((bt.trans cc).trans cw),S.drop _ (.cons_cons _ (.cons _ .slnil))⟩ kr ?_
  have S3:=S
  replace S3:=S3.front 1 rfl
  replace S3:=S3.front 1 rfl
  replace S3:St t p _ cd [.box u 92 [(.slice none 0 0),(.slice none 0 0),(.slice none 0 0),(str []),(.slice none 0 0),(str []),(int 0),(int 0)],.box x 92 [(.slice none 0 0),cu,de,(str b.fReason),d9,(str b.fBody),(int b.fRequested),(int b.fReceived)]]:=S3
  replace S3:St t p _ cd [.box u 92 [(.slice none 0 0),(.slice none 0 0),(.slice none 0 0),(str []),(.slice none 0 0),(str []),(int 0),(int 0)],.box x 92 [(.slice none 0 0),cu,de,(str b.fReason),d9,(str b.fBody),(int b.fRequested),(int b.fReceived)]]:=S3.drop _ (.cons_cons _ (.cons_cons _ .slnil))
  exact ⟨cd,cu,de,d9,k,ah,cv,d8,e2,S3⟩
 rintro f w ⟨cy,bu,bv,bw,f0,e3,e4,e5,e6,S⟩
 refine Ws<|Wg ?_
 refine WL.w (R.loadBN (i:=1) (vs:=[(.slice none 0 0),bu,bv,(str b.fReason),bw,(str b.fBody),(int b.fRequested),(int b.fReceived)]) S f0 rfl lay92 rfl rfl) ?_
 refine W.store (i:=0) [(.slice none 0 0),bu,bv,(str b.fReason),bw,(str b.fBody),(int b.fRequested),(int b.fReceived)] S e3 rfl rfl lay92 rfl (AllOne.all (l:=[(.slice none 0 0),bu,bv,(str b.fReason),bw,(str b.fBody),(int b.fRequested),(int b.fReceived)]) (.cons rfl (.cons (Sl.oneC e4) (.cons (Sl.oneC e5) (.cons rfl (.cons (Sl.oneC e6) (.cons rfl (.cons rfl (.cons rfl .nil))))))))) (Nat.le_of_ble_eq_true rfl) rfl ?_
 intro ip S
 refine We ?_
 obtain rfl:=oi h
 refine WP.ret (Out.one rfl S (Res.cellB (i:=0) (cs:=[(.slice none 0 0),bu,bv,(str b.fReason),bw,(str b.fBody),(int b.fRequested),(int b.fReceived)]) S e3 rfl lay92 rfl rfl) ?_)
 exact ⟨_,_,_,_,rfl,Sl.nil,e4,e5,e6⟩
end Go.Proofs
