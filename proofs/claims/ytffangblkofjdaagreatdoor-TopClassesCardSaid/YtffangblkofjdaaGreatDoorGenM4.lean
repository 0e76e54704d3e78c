/- A part. -/
import Derived.Test.YtffangblkofjdaaGreatDoorEng38
import Derived.Test.YtffangblkofjdaaGreatDoorEng35
import Derived.Test.YtffangblkofjdaaGreatDoorGenM3
namespace Go.Proofs
set_option maxHeartbeats 4000000
set_option maxRecDepth 10000
open Go.Eng Go.Eng.Pure
set_option linter.unusedVariables false
theorem zGn {c : World} {d : Hp} (hw : Holds c d) (hG : Tryz.Gl c) (b : GMediaType) {f : Value} (i : Sl d f b.fParams) {r : Str} (h : zCh b = some r) :
    Cs Tryz.prog 240 [(agg [(str b.fType),(str b.fSub),f])] c d r:=by
  refine CM 12 Tryz.func240 hw fun S=>?_
  refine Ws<|Wg ?_
  refine W.box [(str b.fType),(str b.fSub),f] S rfl rfl ?_
  intro p t S
  refine A<|We<|Ws<|Wg<|Fb ?_
  refine Lo 0 S<|B h fun u j h=>Je j<|Fb ?_
  refine Lo 0 S<|B h fun k l h=>Je l<|Fb ?_
  refine Lo 0 S<|B h fun v o h=>W.call S rfl (zJD S.holds (hG.post S.post) k b.fParams i o) ?_
  rintro x z H8 ab S rfl
  refine A<|We ?_
  exact WP.ret (Rs h S)
theorem zHP {j : World} {c : Hp} (hw : Holds j c) (hG : Tryz.Gl j) (k : Str) (o : (List GParam)) {d : Value} {t : Addr} {u : Addr} (aa : At c t [(str k)]) (p : At c u [d]) (f : Sl c d o) {r : (Str × Bool)} (h : zEF k o = some r) :
    Con Tryz.prog 238 [(.pointer (some t)),(.pointer (some u))] j c (fun H' v=>v=(.tuple ⟨[(str r.1),(boo r.2)]⟩)):=by
  refine CM 16 Tryz.func238 hw fun S=>?_
  refine Ws<|Wg<|A<|A<|We<|Ws<|Wg ?_
  refine Lq S aa<|B h fun b ab h=>W.call S rfl (zFY S.holds (hG.post S.post) k ab) ?_
  rintro v2 w3 H4 x S ⟨z,rfl,R7⟩
  have p:=At.mono p x (by simp)
  have f:=f.up x
  refine M ?_
  refine Ex ?_
  refine Ex ?_
  refine W.alloc [(str []),(str []),(.slice none 0 0)] S zQ3 ?_
  intro b8 w9 S
  refine W.store (i:=0) [(str b.1.fType),(str b.1.fSub),z] S rfl rfl rfl zNd rfl (AllOne.all (l:=[(str b.1.fType),(str b.1.fSub),z]) (.cons rfl (.cons rfl (.cons (Sl.oneC R7) .nil)))) (Nat.le_of_ble_eq_true rfl) rfl ?_
  intro ak S
  refine A<|We<|Ws<|Wg ?_
  refine Lq S p<|Fb ?_
  refine W.storeSl (α:=GParam) (i:=0) [(str b.1.fType),(str b.1.fSub),d] S f rfl rfl rfl zQ8 (Nat.le_of_ble_eq_true rfl) rfl ?_
  intro al S
  refine We<|Ws<|Wg ?_
  refine WL.w (R.loadBN (i:=0) (vs:=[(str b.1.fType),(str b.1.fSub),d]) S rfl rfl zNd rfl rfl)<|B h fun am ad h=>W.call S rfl (zGn S.holds (hG.post S.post) (⟨b.1.fType,b.1.fSub,o⟩:GMediaType) f ad) ?_
  rintro an ao ap aq S rfl
  refine M<|A<|A<|We ?_
  obtain rfl:=oi h
  refine WP.ret (Out.two rfl S rfl rfl ?_)
  exact rfl
end Go.Proofs
namespace Go.Proofs
open Go Go.Eng Go.VI Go.Eng.Pure
set_option linter.unusedVariables false
set_option maxRecDepth 10000
set_option maxHeartbeats 4000000
theorem zED {b : World} {f : Hp} (hw : Holds b f) (hG : Tryz.Gl b) (c : Int) (d : Str) {r : Str} (h : zAo c d = some r) :
    Cs Tryz.prog 242 [(int c),(str d)] b f r:=by
  refine (c242 (xs:=(c,d)) (y:=r) hw (fun _ _ e=>by cases e) hG ⟨_,_,rfl,rfl,⟨_,rfl,rfl⟩⟩ h).mono ?_
  rintro _ v ⟨_,rfl,D⟩
  obtain ⟨i,rfl,j⟩:=D
  obtain rfl:i=_:=j
  exact rfl
theorem zHl {b : World} {d : Hp} (hw : Holds b d) (hG : Tryz.Gl b) (c : Str) {r : Bool} (h : zB3 c = some r) :
    Cb Tryz.prog 243 [(str c)] b d r:=by
  refine (c243 (xs:=(c)) (y:=r) hw (fun _ _ e=>by cases e) hG ⟨_,rfl,rfl⟩ h).mono ?_
  rintro _ v ⟨_,rfl,D⟩
  obtain ⟨f,rfl,i⟩:=D
  obtain rfl:f=_:=i
  exact rfl
end Go.Proofs
namespace Go.Proofs
open Go.Eng Go.Eng.Pure
set_option linter.unusedVariables false
theorem zG5 {j : World} {c : Hp} (hw : Holds j c) (hG : Tryz.Gl j) (f : Int) (d : Str) (i : (List GParam)) {k : Value} {o : Addr} {p : Addr} {t : Addr} (x : At c o [(int f)]) (u : At c p [(str d)]) (z : At c t [k]) (aa : Sl c k i) {r : (Str × Bool)} (h : zEE f d i = some r) :
    Con Tryz.prog 241 [(.pointer (some o)),(.pointer (some p)),(.pointer (some t))] j c (fun H' v=>v=(.tuple ⟨[(str r.1),(boo r.2)]⟩)):=by
  refine CM 15 Tryz.func241 hw fun S=>?_
  refine Ws<|Wg<|A<|A<|We<|Ws<|WP.quiet S kr kr ?_
  refine QH (int f) x ?_
  refine QH (str d) u<|B h fun r4 ac h=>WQ.call (v:=str r4) rfl (fun w H' hq S=>zED S.holds (hG.post S.post) f d ac) ?_
  refine QH (str d) u<|B h fun l ad h=>WQ.call (v:=boo l) rfl (fun w H' hq S=>zHl S.holds (hG.post S.post) d ad)<|QM ?_
  refine WQ.grp 4 [11,12,13] 14 (boo (l&&((i.length:Int)==0))) ?_ ?_
  · rcases boolE l with b | b
    · refine WQ.gyes rfl rfl b<|QH k z<|WQ.gyes rfl rfl b<|WQ.val (fun _ _=>(R.lenL (α:=GParam) (xs:=i) (H:=c) aa rfl Tryz.underlying266))<|WQ.gyes rfl rfl b<|WQ.val (fun _ _=>(R.eql rfl rfl))<|WQ.val (fun _ _=>(R.pickT rfl b rfl)) ?_
      exact WQ.nil ⟨(andT b),ag⟩
     refine WQ.gno rfl rfl b<|WQ.gno rfl rfl b<|WQ.gno rfl rfl b<|WQ.val (fun _ _=>(R.pickF rfl b rfl)) ?_
     exact WQ.nil ⟨(andF b),ag⟩
   intro us
   refine QA<|QA<|WQ.nil ?_
   intro w1 H2 ah S
   obtain rfl:=oi h
   refine WP.ret (Out.two rfl S rfl rfl ?_)
   exact rfl
theorem mz342:((Tryz.prog.info? 342).bind (·.zero))=some .nilFunc:=by kernel_rfl
theorem zII {x : World} {u : Hp} (hw : Holds x u) (hG : Tryz.Gl x) (f : Int) (o : Str) (ac : (List GParam)) {aa : Value} (j : Sl u aa ac) {r : (Str × Bool)} (h : zDC f o ac = some r) :
    Con Tryz.prog 167 [(int f),(str o),aa] x u (fun H' v=>v=(.tuple ⟨[(str r.1),(boo r.2)]⟩)):=by
  refine CM 36 Tryz.func167 hw fun S=>?_
  refine Ws<|Wg ?_
  refine W.box [(int f)] S rfl rfl ?_
  intro p w2 S
  refine W.box [(str o)] S rfl rfl ?_
  intro d w4 S
  refine W.box [aa] S rfl (congrArg Array.toList (Sl.cellsOne j)) ?_
  intro c w6 S
  refine A<|A<|We<|Ws<|Wg<|W.makeMap S ?_
  intro b7 w8 S
  replace S:St x u _ u [.mp b7 (enci []),.box c 266 [aa],.box d 9 [(str o)],.box p 3 [(int f)]]:=S
  obtain ⟨H9,ap,aq,_,S⟩:=S.settle (i:=2) rfl
  replace S:St x u _ H9 [.mp b7 (enci []),.box c 266 [aa],.box p 3 [(int f)]]:=S
  have l:At H9 ⟨d,0,none⟩ [(str o)]:=⟨_,_,rfl,aq,[],by simp⟩
  have j:=j.up ap
  obtain ⟨aj,ao,au,_,S⟩:=S.settle (i:=1) rfl
  replace S:St x u _ aj [.mp b7 (enci []),.box p 3 [(int f)]]:=S
  have z:At aj ⟨c,0,none⟩ [aa]:=⟨_,_,rfl,au,[],by simp⟩
  have j:=j.up ao
  have l:=At.mono l ao (by simp)
  refine WL.w (R.mkFunc (vs:=[(.pointer (some ⟨d,0,none⟩)),(.pointer (some ⟨c,0,none⟩))]) rfl)<|W.insertI (i:=0) (m:=[]) (k:=1) (v:=.func (.func 238) #[] [(.pointer (some ⟨d,0,none⟩)),(.pointer (some ⟨c,0,none⟩))].toArray) S rfl rfl rfl rfl Tryz.underlying344 Tryz.underlying3 rfl ?_
  intro a5 S
  replace S:St x u _ aj [.mp b7 (enci [(1,(.func (.func 238) #[] [(.pointer (some ⟨d,0,none⟩)),(.pointer (some ⟨c,0,none⟩))].toArray))]),.box p 3 [(int f)]]:=S
  obtain ⟨ae,ak,av,_,S⟩:=S.settle (i:=1) rfl
  replace S:St x u _ ae [.mp b7 (enci [(1,(.func (.func 238) #[] [(.pointer (some ⟨d,0,none⟩)),(.pointer (some ⟨c,0,none⟩))].toArray))])]:=S
  have ab:At ae ⟨p,0,none⟩ [(int f)]:=⟨_,_,rfl,av,[],by simp⟩
  have j:=j.up ak
  have l:=At.mono l ak (by simp)
  have z:=At.mono z ak (by simp)
  refine WL.w (R.mkFunc (vs:=[(.pointer (some ⟨p,0,none⟩)),(.pointer (some ⟨d,0,none⟩)),(.pointer (some ⟨c,0,none⟩))]) rfl)<|W.insertI (i:=0) (m:=[(1,(.func (.func 238) #[] [(.pointer (some ⟨d,0,none⟩)),(.pointer (some ⟨c,0,none⟩))].toArray))]) (k:=2) (v:=.func (.func 241) #[] [(.pointer (some ⟨p,0,none⟩)),(.pointer (some ⟨d,0,none⟩)),(.pointer (some ⟨c,0,none⟩))].toArray) S rfl rfl rfl rfl Tryz.underlying344 Tryz.underlying3 rfl ?_
  intro a6 S
  replace S:St x u _ ae [.mp b7 (enci [(1,(.func (.func 238) #[] [(.pointer (some ⟨d,0,none⟩)),(.pointer (some ⟨c,0,none⟩))].toArray)),(2,(.func (.func 241) #[] [(.pointer (some ⟨p,0,none⟩)),(.pointer (some ⟨d,0,none⟩)),(.pointer (some ⟨c,0,none⟩))].toArray))])]:=S
  refine M<|A<|We<|Ws<|Ws<|Wg<|M ?_
  refine Lq S ab ?_
  rcases condE h with ⟨af,h⟩ | ⟨af,h⟩
  · refine WL.w (v:=.tuple ⟨[(.func (.func 238) #[] [(.pointer (some ⟨d,0,none⟩)),(.pointer (some ⟨c,0,none⟩))].toArray),(boo true)]⟩) (R.lookupI (i:=0) (k:=f) S rfl rfl rfl Tryz.underlying344 Tryz.underlying3 (zLw af))<|WL.m (.tuple ⟨[(.func (.func 238) #[] [(.pointer (some ⟨d,0,none⟩)),(.pointer (some ⟨c,0,none⟩))].toArray),(boo true)]⟩) rfl<|WL.w (R.ext rfl rfl)<|WL.w (R.ext rfl rfl)<|WL.a (.func (.func 238) #[] [(.pointer (some ⟨d,0,none⟩)),(.pointer (some ⟨c,0,none⟩))].toArray) rfl<|WL.a (boo true) rfl<|WL.e<|WP.s<|WP.g<|WL.m (boo true) rfl<|WL.e<|WP.condT (b:=true) rfl rfl ?_
    refine Ws<|Wg<|M<|B h fun a7 aw h=>W.callv S rfl rfl (zHP S.holds (hG.post S.post) o ac l z j aw) ?_
    rintro a8 a9 ba ah S rfl
    have j:=j.up ah
    have ab:=At.mono ab ah (by simp)
    have l:=At.mono l ah (by simp)
    have z:=At.mono z ah (by simp)
    refine Ex ?_
    refine Ex<|A<|A<|We ?_
    obtain rfl:=oi h
    refine WP.ret (Out.two rfl S rfl rfl ?_)
    exact rfl
   rcases condE h with ⟨al,h⟩ | ⟨al,h⟩
   · refine WL.w (v:=.tuple ⟨[(.func (.func 241) #[] [(.pointer (some ⟨p,0,none⟩)),(.pointer (some ⟨d,0,none⟩)),(.pointer (some ⟨c,0,none⟩))].toArray),(boo true)]⟩) (R.lookupI (i:=0) (k:=f) S rfl rfl rfl Tryz.underlying344 Tryz.underlying3 (zHw af (zLw al)))<|WL.m (.tuple ⟨[(.func (.func 241) #[] [(.pointer (some ⟨p,0,none⟩)),(.pointer (some ⟨d,0,none⟩)),(.pointer (some ⟨c,0,none⟩))].toArray),(boo true)]⟩) rfl<|WL.w (R.ext rfl rfl)<|WL.w (R.ext rfl rfl)<|WL.a (.func (.func 241) #[] [(.pointer (some ⟨p,0,none⟩)),(.pointer (some ⟨d,0,none⟩)),(.pointer (some ⟨c,0,none⟩))].toArray) rfl<|WL.a (boo true) rfl<|WL.e<|WP.s<|WP.g<|WL.m (boo true) rfl<|WL.e<|WP.condT (b:=true) rfl rfl ?_
     refine Ws<|Wg<|M<|B h fun bb ax h=>W.callv S rfl rfl (zG5 S.holds (hG.post S.post) f o ac ab l z j ax) ?_
     rintro bc bd be ai S rfl
     have j:=j.up ai
     have ab:=At.mono ab ai (by simp)
     have l:=At.mono l ai (by simp)
     have z:=At.mono z ai (by simp)
     refine Ex ?_
     refine Ex<|A<|A<|We ?_
     obtain rfl:=oi h
     refine WP.ret (Out.two rfl S rfl rfl ?_)
     exact rfl
    refine WL.w (v:=.tuple ⟨[.nilFunc,(boo false)]⟩) (R.lookupIN (i:=0) (k:=f) S rfl rfl rfl Tryz.underlying344 Tryz.underlying3 mz342 (zHw af (zHw al zOr)))<|WL.m (.tuple ⟨[.nilFunc,(boo false)]⟩) rfl<|WL.w (R.ext rfl rfl)<|WL.w (R.ext rfl rfl)<|WL.a (.nilFunc) rfl<|WL.a (boo false) rfl<|WL.e<|WP.s<|WP.g<|WL.m (boo false) rfl<|WL.e<|WP.condF (b:=false) rfl rfl ?_
    refine Wk<|Ws<|WP.quiet S kr kr ?_
    refine QH (int f) ab ?_
    refine QH (str o) l<|B h fun ay az h=>WQ.call (v:=str ay) rfl (fun w H' hq S=>zED S.holds (hG.post S.post) f o az) ?_
    refine QH (str o) l<|B h fun am a0 h=>WQ.call (v:=boo am) rfl (fun w H' hq S=>zEs S.holds (hG.post S.post) o a0)<|QM ?_
    refine WQ.grp 4 [32,33,34] 35 (boo (am&&((ac.length:Int)==0))) ?_ ?_
    · rcases boolE am with t | t
      · refine WQ.gyes rfl rfl t<|QH aa z<|WQ.gyes rfl rfl t<|WQ.val (fun _ _=>(R.lenL (α:=GParam) (xs:=ac) (H:=ae) j rfl Tryz.underlying266))<|WQ.gyes rfl rfl t<|WQ.val (fun _ _=>(R.eql rfl rfl))<|WQ.val (fun _ _=>(R.pickT rfl t rfl)) ?_
        exact WQ.nil ⟨(andT t),ag⟩
       refine WQ.gno rfl rfl t<|WQ.gno rfl rfl t<|WQ.gno rfl rfl t<|WQ.val (fun _ _=>(R.pickF rfl t rfl)) ?_
       exact WQ.nil ⟨(andF t),ag⟩
     intro us
     refine QA<|QA<|WQ.nil ?_
     intro bf bg bh S
     obtain rfl:=oi h
     refine WP.ret (Out.two rfl S rfl rfl ?_)
     exact rfl
end Go.Proofs
namespace Go.Proofs
open Go Go.Eng Go.VI Go.Eng.Pure
set_option linter.unusedVariables false
set_option maxRecDepth 10000
set_option maxHeartbeats 4000000
theorem c167:FE.ok (U:=UU) Tryz.prog ⟨167,[.int,.str,(.sl (.st 270))],[.str,.boo],fun x=>zDC x.1 x.2.1 x.2.2⟩:=@fun w H az x y hw hg b hT h=>by
 obtain ⟨c,_,rfl,d,⟨f,_,rfl,i,⟨k,rfl,j⟩⟩⟩:=hT
 obtain rfl:c=_:=d
 obtain rfl:f=_:=i
 exact (zII hw b x.1 x.2.1 x.2.2 j h).mono (fun _ _ e=>⟨[_,_],e,_,_,rfl,rfl,⟨_,rfl,rfl⟩⟩)
theorem c166:FE.ok (U:=UU) Tryz.prog ⟨166,[.str],[.int,.boo],fun x=>zBW x⟩:=mk anil (.n .e (.n .e (.n .e (.n .e (.n (.n .e (.lp ⟨[⟨.sl 5,.int,none⟩,⟨.sl 40,.int,none⟩],some [],[]⟩ (some ⟨[⟨.sl 5,.int,none⟩],some [],[]⟩) true .e)) .e))))) Tryz.func166
theorem c165:FE.ok (U:=UU) Tryz.prog ⟨165,[(.st 270)],[.boo],fun x=>zCV x⟩:=mk anil (.e) Tryz.func165
theorem c99:FE.ok (U:=UU) Tryz.prog ⟨99,[.int,.str],[(.st 183),.boo],fun x=>zFW x.1 x.2⟩:=mk (wc w164 (fcons c167 (fcons c166 (fcons c165 (fcons c163 anil))))) (.n .e (.n .e (.n .e (.n .e (.n (.n .e (.n .e (.j ⟨[⟨.sl 7,(.sl (.st 270)),none⟩,⟨.sl 9,.int,none⟩],some [],[]⟩ true .e))) .e))))) Tryz.func99
end Go.Proofs
namespace Go.Proofs
open Go.Eng Go.Eng.Pure
set_option linter.unusedVariables false
theorem zIP {b : World} {c : Hp} (hw : Holds b c) (hG : Tryz.Gl b) (d : (List GField)) (f : Str) {j : Value} (i : Sl c j d) {r : Bool} (h : zA4 d f = some r) :
    Cb Tryz.prog 80 [j,(str f)] b c r:=by
  refine CM 11 Tryz.func80 hw fun S=>?_
  refine Ws<|Wg<|A<|We<|Ws<|Wg<|M<|M<|B h fun k l h=>W.call S rfl (zEj S.holds (hG.post S.post) f l) ?_
  rintro u v x o S ⟨kr1,cr1,rfl,Fr1⟩
  have i:=i.up o
  refine B h fun z p h=>W.call S rfl (zEQ S.holds (hG.post S.post) d k i (fun hle=>Fr1 (Hp.le.trans lr hle)) p) ?_
  rintro v7 w8 H9 ad S t
  refine Nq t<|Lc<|A<|We ?_
  exact WP.ret (Rb h S)
end Go.Proofs
namespace Go.Proofs
open Go Go.Eng Go.VI Go.Eng.Pure
set_option linter.unusedVariables false
set_option maxRecDepth 10000
set_option maxHeartbeats 4000000
theorem c80:FE.ok (U:=UU) Tryz.prog ⟨80,[(.sl (.st 41)),.str],[.boo],fun x=>zA4 x.1 x.2⟩:=@fun w H az x y hw hg b hT h=>by
 obtain ⟨i,_,rfl,c,⟨d,rfl,f⟩⟩:=hT
 obtain rfl:d=_:=f
 exact (zIP hw b x.1 x.2 c h).mono (fun _ _ e=>⟨[_],e,_,rfl,rfl⟩)
theorem c52:FE.ok (U:=UU) Tryz.prog ⟨52,[.int,(.sl (.st 41))],[(.sl (.st 183)),.boo],fun x=>zDg x.1 x.2⟩:=mk (fcons c99 (fcons c98 (fcons c80 (fcons c55 anil)))) (.n .e (.n .e (.n .e (.n .e (.n (.n .e (.lp ⟨[⟨.sl 7,(.sl (.st 183)),some 183⟩,⟨.sl 26,.int,none⟩],some [],[]⟩ (some ⟨[⟨.sl 7,(.sl (.st 183)),some 183⟩],some [],[]⟩) false .e)) .e))))) Tryz.func52
theorem c29:FE.ok (U:=UU) Tryz.prog ⟨29,[(.st 62),(.sl (.st 41)),.boo],[(.sl .str)],fun x=>zBA x.1 x.2.1 x.2.2⟩:=mk (fcons c56 (fcons c55 (fcons c54 (fcons c53 (fcons c52 (fcons c51 (fcons c11 anil))))))) (.n .e (.n .e (.n .e (.n (.n .e (.n .e (.j ⟨[⟨.sl 7,(.sl .str),none⟩],some [],[]⟩ false .e))) (.n (.n .e (.j ⟨[⟨.sl 7,(.sl .str),none⟩],some [],[]⟩ false .e)) .e))))) Tryz.func29
theorem zEL {d : World} {b : Hp} (hw : Holds d b) (hG : Tryz.Gl d) (c : GAxis) (f : (List GField)) (i : Bool) {j : Value} {k : Value} (l : Sl b j c.fValues) (o : Sl b k f) {r : (List Str)} (h : zBA c f i = some r) :
    Con Tryz.prog 29 [(agg [(str c.fName),j]),k,(boo i)] d b (fun H' v=>Sl H' v r):=by
  refine (c29 (xs:=(c,f,i)) (y:=r) hw (fun _ _ e=>by cases e) hG ⟨_,_,rfl,⟨_,rfl,⟨_,rfl,l⟩⟩,⟨_,_,rfl,o,⟨_,rfl,rfl⟩⟩⟩ h).mono ?_
  rintro _ v ⟨_,rfl,D⟩
  obtain ⟨p,rfl,K0⟩:=D
  exact K0
end Go.Proofs
namespace Go.Proofs
open Go.Eng Go.Eng.Pure
set_option linter.unusedVariables false
theorem zGZ {b : World} {c : Hp} (hw : Holds b c) (d : Str) (f : UInt8) {r : Int} (h : strings_IndexByte d f = some r) :
    Ci Tryz.prog 95 [(str d),(byt f)] b c r :=
  zPn Tryz.func95 rfl kr hw h Tryz.strings_IndexByte
end Go.Proofs
namespace Go.Proofs
open Go Go.Eng Go.VI Go.Eng.Pure
set_option linter.unusedVariables false
set_option maxRecDepth 10000
set_option maxHeartbeats 4000000
theorem c95:FE.ok (U:=UU) Tryz.prog ⟨95,[.str,.byt],[.int],fun x=>strings_IndexByte x.1 x.2⟩:=@fun w H az x y hw hg i hT h=>by
 obtain ⟨b,_,rfl,c,⟨d,rfl,f⟩⟩:=hT
 obtain rfl:b=_:=c
 obtain rfl:d=_:=f
 exact (zGZ hw x.1 x.2 h).mono (fun _ _ e=>⟨[_],e,_,rfl,rfl⟩)
theorem c48:FE.ok (U:=UU) Tryz.prog ⟨48,[.str],[.boo],fun x=>zFV x⟩:=mk (fcons c95 anil) (.n .e (.n (.n .e (.lp ⟨[⟨.sl 6,.int,none⟩],some [],[]⟩ (some ⟨[],some [],[]⟩) true .e)) .e)) Tryz.func48
theorem c28:FE.ok (U:=UU) Tryz.prog ⟨28,[(.sl .str)],[.str],fun x=>zDT x⟩:=mk (fcons c50 (fcons c49 (fcons c48 anil))) (.n .e (.n .e (.n (.n .e (.lp ⟨[⟨.sl 3,(.sl .str),some 9⟩,⟨.sl 8,.int,none⟩],some [],[]⟩ (some ⟨[⟨.sl 3,(.sl .str),some 9⟩],some [],[]⟩) false (.n .e (.n .e (.n (.n (.n .e (.n (.n .e (.j ⟨[⟨.sl 5,.str,none⟩],some [.sl 3],[]⟩ false .e)) .e)) .e) .e))))) .e))) Tryz.func28
theorem zJk {b : World} {c : Hp} (hw : Holds b c) (hG : Tryz.Gl b) (d : (List Str)) {f : Value} (i : Sl c f d) {r : Str} (h : zDT d = some r) :
    Cs Tryz.prog 28 [f] b c r:=by
  refine (c28 (xs:=(d)) (y:=r) hw (fun _ _ e=>by cases e) hG ⟨_,rfl,i⟩ h).mono ?_
  rintro _ v ⟨_,rfl,D⟩
  obtain ⟨j,rfl,k⟩:=D
  obtain rfl:j=_:=k
  exact rfl
end Go.Proofs
namespace Go.Proofs
open Go.Eng Go.Eng.Pure
set_option linter.unusedVariables false
theorem zJg {o : World} {d : Hp} (hw : Holds o d) (hG : Tryz.Gl o) (x : (List GAxis)) (ah : (List GField)) (ab : Bool) {ac : Value} {z : Value} (j : Sl d ac x) (p : Sl d z ah) {r : Str} (h : zDM x ah ab = some r) :
    Cs Tryz.prog 12 [ac,z,(boo ab)] o d r:=by
  refine CM 35 Tryz.func12 hw fun S=>?_
  refine Ws<|Wg<|A<|We<|Ws<|Ws<|Wg<|M<|B h fun r1 bz h=>W.call S rfl (zEw S.holds (hG.post S.post) x j bz) ?_
  rintro v2 w3 H4 b0 S rfl
  have ⟨j,p⟩:=U2 b0 j p
  refine No<|We ?_
  rcases condE h with ⟨a9,h⟩ | ⟨a9,h⟩
  · refine WP.condT rfl a9<|WP.s<|WP.g<|WL.a (str []) rfl<|WL.e ?_
    exact WP.ret (Rs h S)
   refine WP.condF rfl a9<|WP.skip<|WP.s<|WP.g<|W.alloc [(.pointer none),(.slice none 0 0)] S zer69 ?_
   intro c w8 S
   refine We<|Ws<|Ws<|Wg<|M<|Nq j<|M<|We ?_
   obtain ⟨v9,bb⟩:∃ v:Value,v=.slice none 0 0:=⟨_,rfl⟩
   have b1:Sl (α:=UInt8) H4 v9 []:=by rw [bb]; exact Sl.nil
   replace S:=(show ∀ {w:World},St o d w H4 [.box c 69 [(.pointer none),(.slice none 0 0)]]→St o d w H4 [.box c 69 [(.pointer none),v9]] from fun S=>by rw [bb]; exact S) S
   replace S:=St.addNilV bb S 5 1
   refine B h fun ap b2 h=>WP.cut (fun f w=>∃ (a3:Hp) (am:Value) (ai:Value),f 7=(ptr c 0)∧(am=Value.pointer none∨am=ptr c 0)∧Sl a3 ai ap∧St o d w a3 [.row ai 5 1 ap.length,.box c 69 [am,ai]]) ?_ ?_
   · refine WP.block ?_
     refine WP.loopM (zB1 x ah ab) (fun s f w=>match s with | (aq,au)=>∃ (ad:Hp) (aj:Value) (ae:Value),f 1=z∧f 2=(boo ab)∧f 7=(ptr c 0)∧f 13=ac∧f 14=(int (x.length:Int))∧f 15=(int aq)∧Sl ad z ah∧Sl ad ac x∧(aj=Value.pointer none∨aj=ptr c 0)∧Sl ad ae au∧St o d w ad [.row ae 5 1 au.length,.box c 69 [aj,ae]]) (0,([]:List UInt8)) ap b2 ?_ ?_
     · exact ⟨H4,.pointer none,v9,rfl,rfl,rfl,rfl,rfl,rfl,p,j,(Or.inl rfl),b1,S⟩
      intro s f w hI dh k b3
      obtain ⟨aq,au⟩:=s
      obtain ⟨ad,aj,ae,bp,bq,a4,bc,bd,av,p,j,be,bf,S⟩:=hI
      refine Ws<|Wg<|La' av bd<|We<|Ws ?_
      rcases condE k with ⟨bg,k⟩ | ⟨bg,k⟩
      · refine WP.condT rfl bg<|WP.skip<|WP.s<|WP.block<|WP.s<|WP.g<|WL.m (int aq) av ?_
        refine B k fun t b4 k=>W.idx (α:=GAxis) j bc av el22 b4 ?_
        rintro di _ b5 ⟨u,rfl,ak⟩
        refine WL.w (R.loadHN (vs:=[(str t.fName),u]) S rfl b5 lay62 rfl rfl) ?_
        refine W.alloc [(str []),(.slice none 0 0)] S zer62 ?_
        intro aa dj S
        refine A ?_
        refine W.store (i:=0) [(str t.fName),u] S rfl rfl rfl lay62 rfl (AllOne.all (l:=[(str t.fName),u]) (.cons rfl (.cons (Sl.oneC ak) .nil))) (Nat.le_of_ble_eq_true rfl) rfl ?_
        intro dk S
        refine We<|Ws<|Ws<|Wg<|M<|Lc<|We<|B k fun a5 al k=>WP.cut (fun f w=>∃ (af:Hp) (aw:Value) (an:Value),f 1=z∧f 2=(boo ab)∧f 7=(ptr c 0)∧f 9=(ptr aa 0)∧f 13=ac∧f 14=(int (x.length:Int))∧f 15=(int aq)∧Sl af z ah∧Sl af ac x∧Sl af u t.fValues∧(aw=Value.pointer none∨aw=ptr c 0)∧Sl af an a5∧St o d w af [.box aa 62 [(str t.fName),u],.row an 5 1 a5.length,.box c 69 [aw,an]]) ?_ ?_
        · rcases condE al with ⟨bh,al⟩ | ⟨bh,al⟩
          · refine WP.condT rfl bh<|WP.g ?_
            replace S:=S.front 1 rfl
            replace S:=S.front 2 rfl
            replace S:St o d _ ad [.box c 69 [aj,ae],.row ae 5 1 au.length,.box aa 62 [(str t.fName),u]]:=S
            refine B al fun br b6 al=>W.callS (mapC a4 (mapC rfl mapN)) (zAH hG [44,32] au S bf be b6) ?_
            rintro dl dm bi dn b8 S ⟨bj,ax,rfl,rfl,b9,ca⟩
            replace S:St o d _ bi [.box c 69 [bj,ax],.row ax 5 1 br.2.2.length,.box aa 62 [(str t.fName),u]]:=S
            replace S:=S.front 1 rfl
            replace S:=S.front 2 rfl
            replace S:St o d _ bi [.box aa 62 [(str t.fName),u],.row ax 5 1 br.2.2.length,.box c 69 [bj,ax]]:=S
            have ⟨p,j,ak⟩:=U3 b8 p j ak
            refine We ?_
            obtain rfl:=oi al
            exact ⟨bi,bj,ax,bp,bq,a4,rfl,bc,bd,av,p,j,ak,b9,ca,S⟩
           refine WP.condF rfl bh<|WP.skip ?_
           obtain rfl:=oi al
           exact ⟨ad,aj,ae,bp,bq,a4,rfl,bc,bd,av,p,j,ak,be,bf,S⟩
         rintro f w ⟨af,aw,an,bs,bt,bu,bv,cb,cc,cd,p,j,ak,ce,ay,S⟩
         refine B k fun cf cg k=>B k fun ch ci k=>B k fun cj ck k=>B k fun cl cm k=>B k fun a6 cn k=>WP.cut (fun f w=>∃ (ao:Hp) (az:Value) (a0:Value),f 1=z∧f 2=(boo ab)∧f 7=(ptr c 0)∧f 13=ac∧f 14=(int (x.length:Int))∧f 15=(int aq)∧Sl ao z ah∧Sl ao ac x∧(a0=Value.pointer none∨a0=ptr c 0)∧Sl ao az a6.2.2∧St o d w ao [.row az 5 1 a6.2.2.length,.box c 69 [a0,az]]) ?_ ?_
         · refine WP.drawC (Cl o d af [.box aa 62 [(str t.fName),u]]) kr 10 rfl (bm 10 0) rfl ?_
           have S:=S.drew
           refine Ct 0 10 1 rfl (fun _ _=>(R.fieldB bv zMd)) ?_
           refine Ct 1 10 3 rfl (fun w hw=>by obtain ⟨_,hq,S⟩:=hw; exact (R.loadB (i:=0) (v:=str t.fName) S rfl rfl lay9 rfl)) ?_
           refine Ct 2 10 7 rfl (fun _ _=>(R.cat (a:=t.fName) (b:=[61]) rfl rfl cg)) ?_
           refine Ct 3 10 15 rfl (fun w hw=>by obtain ⟨_,hq,S⟩:=hw; exact (R.loadBN (i:=0) (vs:=[(str t.fName),u]) S bv rfl lay62 rfl rfl)) ?_
           refine Ct 4 10 31 rfl (fun _ _=>(R.mv (v:=z) bs)) ?_
           refine Ct 5 10 63 rfl (fun _ _=>(R.mv (v:=boo ab) bt)) ?_
           refine Cx [6] ⟨af,lr,(S.pk [0])⟩ (all1 ?_)
           refine Nx 10 127 rfl<|W.call S rfl (zEL S.holds (hG.post S.post) t ah ab ak p ci) ?_
           rintro dp dq co a7 S cp
           have ⟨p,j,ay⟩:=U3 a7 p j ay
           refine We ?_
           refine Cx [7] ⟨co,a7,(S.pk [0])⟩ (all1 ?_)
           refine Nx 10 255 rfl<|W.call S rfl (zJk S.holds (hG.post S.post) ch cp ck) ?_
           rintro dr ds bw bn S rfl
           have ⟨p,j,ay⟩:=U3 bn p j ay
           refine We ?_
           refine Ct 8 10 511 rfl (fun _ _=>(R.cat (a:=cf) (b:=cj) rfl rfl cm)) ?_
           refine Cx [9] ⟨bw,(a7.trans bn),(S.pk [0])⟩ (all1 ?_)
           refine Nx 10 1023 rfl ?_
           replace S:=S.front 1 rfl
           replace S:=S.front 2 rfl
           replace S:St o d _ bw [.box c 69 [aw,an],.row an 5 1 a5.length,.box aa 62 [(str t.fName),u]]:=S
           refine W.callS (mapC bu (mapC rfl mapN)) (zAH hG cl a5 S ay ce cn) ?_
           rintro dt du a8 dw bx S ⟨bo,a1,rfl,rfl,cq,cr⟩
           replace S:St o d _ a8 [.box c 69 [bo,a1],.row a1 5 1 a6.2.2.length,.box aa 62 [(str t.fName),u]]:=S
           replace S:=S.front 1 rfl
           replace S:=S.front 2 rfl
           replace S:St o d _ a8 [.box aa 62 [(str t.fName),u],.row a1 5 1 a6.2.2.length,.box c 69 [bo,a1]]:=S
           have ⟨p,j⟩:=U2 bx p j
           refine We<|WC.done ⟨a8,((a7.trans bn).trans bx),(S.pk [0])⟩ kr ?_
           exact ⟨a8,a1,bo,bs,bt,bu,cb,cc,cd,p,j,cq,cr,(S.pk [1,2])⟩
          rintro f w ⟨ao,az,a0,cs,ct,cu,cv,cw,cx,cy,cz,c0,c1,S⟩
          refine Wg<|Lg' cx rfl<|M<|We ?_
          obtain rfl:=oi k
          exact ⟨rfl,⟨ao,a0,az,cs,ct,cu,cv,cw,rfl,cy,cz,c0,c1,S⟩⟩
       refine WP.condF rfl bg<|WP.exit ?_
       obtain rfl:=oi k
       obtain rfl:=b3
       exact ⟨ad,aj,ae,a4,be,bf,S⟩
    rintro f w ⟨a3,am,ai,c2,c3,c7,S⟩
    refine Ws<|Wg ?_
    replace S:=S.front 1 rfl
    replace S:St o d _ a3 [.box c 69 [am,ai],.row ai 5 1 ap.length]:=S
    refine B h fun dx da h=>W.callS (mapC c2 mapN) (zAq hG ap S c7 c3 da) ?_
    rintro dy dz db d0 d1 S ⟨rfl,rfl⟩
    replace S:St o d _ db [.box c 69 [am,ai]]:=S
    refine A<|We ?_
    exact WP.ret (Rs h S)
end Go.Proofs
namespace Go.Proofs
open Go Go.Eng Go.VI Go.Eng.Pure
set_option linter.unusedVariables false
set_option maxRecDepth 10000
set_option maxHeartbeats 4000000
theorem c12:FE.ok (U:=UU) Tryz.prog ⟨12,[(.sl (.st 62)),(.sl (.st 41)),.boo],[.str],fun x=>zDM x.1 x.2.1 x.2.2⟩:=@fun w H az x y hw hg b hT h=>by
 obtain ⟨j,_,rfl,c,⟨k,_,rfl,d,⟨f,rfl,i⟩⟩⟩:=hT
 obtain rfl:f=_:=i
 exact (zJg hw b x.1 x.2.1 x.2.2 c d h).mono (fun _ _ e=>⟨[_],e,_,rfl,rfl⟩)
theorem c6:FE.ok (U:=UU) Tryz.prog ⟨6,[(.sl (.st 62)),(.sl (.st 41)),(.sl (.st 41)),.boo],[.boo],fun x=>zH2 x.1 x.2.1 x.2.2.1 x.2.2.2⟩:=mk (fcons c12 (fcons c11 anil)) (.e) Tryz.func6
theorem c116:FE.ok (U:=UU) Tryz.prog ⟨116,[(.st 25)],[(.st 25)],fun x=>zMR x⟩:=mk (fcons c186 (fcons c140 anil)) (.n .e (.n .e (.n (.n .e (.lp ⟨[⟨.sl 13,.int,none⟩,⟨.cs 3 0,(.sl (.st 62)),none⟩,⟨.cs 3 1,(.sl (.st 38)),some 38⟩],some [],[]⟩ (some ⟨[⟨.cs 3 0,(.sl (.st 62)),none⟩,⟨.cs 3 1,(.sl (.st 38)),some 38⟩],some [],[]⟩) false .e)) .e))) Tryz.func116 [(5,5,[.t 0,.t 1,.t 2,.l 3 true,.l 4 true,.l 5 false,.l 6 false,.l 7 false])]
theorem c81:FE.ok (U:=UU) Tryz.prog ⟨81,[(.sl (.st 41)),.int,.str],[(.sl (.st 41))],fun x=>zRp x.1 x.2.1 x.2.2⟩:=mk (fcons c124 anil) (.e) Tryz.func81
theorem c259:FE.ok (U:=UU) Tryz.prog ⟨259,[.byt],[.boo],fun x=>zCm x⟩:=mk anil (.e) Tryz.func259
theorem c258:FE.ok (U:=UU) Tryz.prog ⟨258,[.byt],[.int],fun x=>zE8 x⟩:=mk (fcons c95 (fcons c25 anil)) (.e) Tryz.func258
theorem c180:FE.ok (U:=UU) Tryz.prog ⟨180,[.str],[.str,.boo],fun x=>zIK x⟩:=mk (fcons c259 (fcons c258 (fcons c95 anil))) (.n .e (.n .e (.n (.n .e (.lp ⟨[⟨.sl 4,(.sl .byt),some 5⟩,⟨.sl 5,.int,none⟩],some [],[]⟩ (some ⟨[⟨.sl 4,(.sl .byt),some 5⟩],some [],[]⟩) true .e)) .e))) Tryz.func180 [(15,6,[.t 0,.t 1,.t 2,.t 3,.t 4,.l 5 true,.l 6 false,.l 7 false])]
theorem c176:FE.ok (U:=UU) Tryz.prog ⟨176,[.str],[.boo],fun x=>zIm x⟩:=mk (fcons c97 anil) (.e) Tryz.func176
theorem c222:FE.ok (U:=UU) Tryz.prog ⟨222,[.str,(.sl .str)],[.boo],fun x=>zG2 x.1 x.2⟩:=mk (fcons c97 anil) (.n .e (.n (.n .e (.lp ⟨[⟨.sl 9,.int,none⟩],some [],[]⟩ (some ⟨[],some [],[]⟩) true .e)) .e)) Tryz.func222
theorem c152:FE.ok (U:=UU) Tryz.prog ⟨152,[(.st 84)],[(.st 84)],fun x=>zIL x⟩:=mk (fcons c222 anil) (.n .e (.n .e (.n (.n .e (.lp ⟨[⟨.sl 12,.int,none⟩,⟨.cs 3 0,.int,none⟩,⟨.cs 3 1,.int,none⟩,⟨.cs 3 2,.str,none⟩,⟨.cs 3 3,(.sl (.st 41)),some 41⟩,⟨.cs 3 4,.str,none⟩],some [],[]⟩ (some ⟨[⟨.cs 3 0,.int,none⟩,⟨.cs 3 1,.int,none⟩,⟨.cs 3 2,.str,none⟩,⟨.cs 3 3,(.sl (.st 41)),some 41⟩,⟨.cs 3 4,.str,none⟩],some [],[]⟩) false .e)) .e))) Tryz.func152
theorem c260:FE.ok (U:=UU) Tryz.prog ⟨260,[.byt],[.boo],fun x=>zF2 x⟩:=mk (fcons c259 anil) (.e) Tryz.func260
theorem c181:FE.ok (U:=UU) Tryz.prog ⟨181,[.str],[.str,.int,.boo],fun x=>zIQ x⟩:=mk (fcons c260 (fcons c179 (fcons c134 (fcons c25 anil)))) (.n .e (.n .e (.n (.n .e (.lp ⟨[⟨.sl 20,.int,none⟩],some [],[]⟩ (some ⟨[],some [],[]⟩) true .e)) (.n .e (.n .e (.n (.n .e (.j ⟨[⟨.sl 9,.int,none⟩],some [],[]⟩ true .e)) .e)))))) Tryz.func181
end Go.Proofs
namespace Go.Proofs
open Go.Eng Go.Eng.Pure
set_option linter.unusedVariables false
theorem zSP:zer Tryz.prog 105=some [(.map none)]:=by kernel_rfl
theorem zJq:lay Tryz.prog 105=some (false,1):=by kernel_rfl
instance:Lay Tryz.prog 105 (false,1):=⟨zJq⟩
theorem zGa {f ws : World} {h Hs : Hp} {i : List Ent} (S : St f h ws Hs i) (s sep : Str) (n : Int) :
    ConS Tryz.prog 220 [str s,str sep,int n] f h ws Hs i (fun H' v L'=>∃ b c d:Nat,L'=[.box b 9 [str sep],.box c 9 [str s],.box d 3 [int n]]∧v=.func (.func 273) #[] [ptr b 0,ptr c 0,ptr d 0].toArray):=by
  refine ConS.mk (N:=8) Tryz.func220 rfl rfl kr rfl<|Ws<|Wg ?_
  refine W.box [str s] S rfl rfl ?_
  intro c j S
  refine W.box [str sep] S rfl rfl ?_
  intro b k S
  refine W.box [int n] S rfl rfl ?_
  intro d l S
  refine A<|We<|Ws<|Wg ?_
  refine WL.w (R.mkFunc (vs:=[ptr b 0,ptr c 0,ptr d 0]) rfl)<|A<|We ?_
  have S3:=(S.front 2 rfl).front 2 rfl
  refine WP.ret (OutS.one (L':=[.box b 9 [str sep],.box c 9 [str s],.box d 3 [int n]]) rfl lr S3 rfl ?_)
  exact ⟨_,_,_,rfl,rfl⟩
theorem zDz {f ws : World} {h Hs : Hp} {i : List Ent} (S : St f h ws Hs i) (s sep : Str) :
    ConS Tryz.prog 150 [str s,str sep] f h ws Hs i (fun H' v L'=>∃ b c d:Nat,L'=[.box b 9 [str sep],.box c 9 [str s],.box d 3 [int 0]]∧v=.func (.func 273) #[] [ptr b 0,ptr c 0,ptr d 0].toArray):=by
  refine ConS.mk (N:=8) Tryz.func150 rfl rfl kr rfl<|Ws<|Wg<|A<|We<|Ws<|Wg<|M<|M<|W.callS rfl (zGa S s sep 0) ?_
  rintro _ j k _ hle S ⟨b,c,d,rfl,rfl⟩
  refine WL.w (R.as rfl)<|We ?_
  refine WP.ret (OutS.one rfl hle S rfl ?_)
  exact ⟨_,_,_,rfl,rfl⟩
theorem zDI {j ws : World} {u Hs : Hp} {L2 : List Ent} (hG : Tryz.Gl j) {s : Str} {c : UInt8} {o d p l bm TB q t : Nat} {r : Loop} {m : List (Str × Bool)} (E : List (Str × Bool) → Str → List (Str × Bool)) (hl : s.length ≤ 1073741824)
    (hp:r.params=#[t])
    (hY:∀ (k:Str) (m:List (Str×Bool)) (w:World) (H:Hp) (L:List Ent),St j u w H (.obj l (.loop r) :: .box bm TB [mapv q] :: .mp q (encm boo m) :: L) →
      RoundIn Fence.wide 0 Tryz.prog l r.fn ((r.params.zip #[str k]).foldl (fun tmps (t,a)=>tmps.setIfInBounds t a) r.tmps) r.assign r.body w (fun e w'=>e=.returned (.bool true)∧St j u w' H (.obj l (.loop r) :: .box bm TB [mapv q] :: .mp q (encm boo (E m k)) :: L)))
    (S:St j u ws Hs (.obj l (.loop r) :: .box bm TB [mapv q] :: .mp q (encm boo m) :: .box o 9 [str [c]] :: .box d 9 [str s] :: .box p 3 [int 0] :: L2)) :
    ConS Tryz.prog 273 [.func (.yield l) #[] #[],ptr o 0,ptr d 0,ptr p 0] j u ws Hs L2 (fun H' v L'=>∃ s',L'=[.obj l (.loop r),.box bm TB [mapv q],.mp q (encm boo ((zDv c s).foldl E m)),.box o 9 [str [c]],.box d 9 [str s'],.box p 3 [int 0]]∧v=.tuple #[]):=by
  refine ConS.mk (N:=52) Tryz.func273 rfl rfl kr rfl<|Ws<|Ws<|Wg ?_
  refine Lo 3 S<|Ns ?_
  refine WL.w (v:=boo false) (R.ofEq (R.eql (a:=1) (b:=0) rfl rfl) rfl)<|We<|WP.condF (b:=false) rfl rfl<|Wk<|Ws ?_
  refine WP.cut (fun f w=>∃ (s':Str) (m':List (Str×Bool)) (H:Hp),f 0=.func (.yield l) #[] #[]∧f 2=ptr d 0∧Hs.le H∧E m' s'=(zDv c s).foldl E m∧St j u w H (.obj l (.loop r) :: .box bm TB [mapv q] :: .mp q (encm boo m') :: .box o 9 [str [c]] :: .box d 9 [str s'] :: .box p 3 [int 0] :: L2)) ?_ ?_
  · refine WP.block ?_
    refine WP.loopK (fun (x : Str × List (Str × Bool)) f w => ∃ (H : Hp), f 0 = .func (.yield l) #[] #[] ∧ f 1 = ptr o 0 ∧ f 2 = ptr d 0 ∧ f 3 = ptr p 0 ∧ Hs.le H ∧ x.1.length ≤ 1073741824 ∧ (zDv c x.1).foldl E x.2 = (zDv c s).foldl E m ∧
        St j u w H (.obj l (.loop r) :: .box bm TB [mapv q] :: .mp q (encm boo x.2) :: .box o 9 [str [c]] :: .box d 9 [str x.1] :: .box p 3 [int 0] :: L2)) (fun x=>x.1.length) (s,m) ⟨Hs,rfl,rfl,rfl,rfl,Hp.le.refl _,hl,rfl,S⟩ ?_
    rintro ⟨x,y⟩ f w ⟨H,z,h1,h,h3,hle,hlx,hE,S⟩
    simp only at hlx hE
    refine Wb<|Ws<|Wg ?_
    refine Lo' 4 S h ?_
    refine Lo' 3 S h1<|W.call S rfl (zDt S.holds (hG.post S.post) x [c] (r:=Lib.indexByte x c) rfl) ?_
    rintro _ w1 H1 ae S rfl
    refine A<|We<|Ws<|Ws<|Wg<|M<|La<|We ?_
    rcases zIo x c with ⟨hi,hno⟩ | ⟨a,b,rfl,hno,hi⟩
    · refine WP.condT (b:=decide (Lib.indexByte x c<0)) rfl (by rw [hi]; rfl)<|WP.exit ?_
      refine ⟨x,y,H1,z,h,hle.trans ae,?_,S⟩
      rw [← hE,zI6 c x hno]; rfl
     have hla:a.length+1+b.length≤1073741824:=by simp only [List.length_append,List.length_cons] at hlx; omega
     refine WP.condF (b:=decide (Lib.indexByte (a++c :: b) c<0)) rfl (by rw [hi]; exact decide_eq_false (by omega))<|Wk<|Ws<|Wg ?_
     refine Lo' 4 S h ?_
     refine WL.w (R.mv (v:=int a.length) (by rw [← hi]; rfl)) ?_
     refine Lo' 5 S h3 ?_
     refine WL.w (v:=int a.length) (R.ofEq (R.add rfl rfl) (by rw [Int.add_zero,wr_eq (by omega)]))<|Jd (zQS a b c)<|A<|We<|Ws ?_
     refine Ws<|WP.regionY [0,1,2,3] rfl ?_
     refine WY.valw rfl (R.mv (v:=.func (.yield l) #[] #[]) z) ?_
     refine WY.valw rfl (R.mv (v:=str a) rfl)<|WY.yield rfl rfl rfl (S.objAt (i:=0) rfl) (by rw [hp]; rfl) (hY a y w1 H1 _ S) ?_
     intro w2 S
     refine WY.valw rfl (R.not (b:=true) rfl)<|WY.nil<|WP.condF (b:=false) rfl rfl<|Wk<|Wg ?_
     refine Lo' 4 S h ?_
     refine WL.w (R.mv (v:=int a.length) (by rw [← hi]; rfl)) ?_
     refine Lo' 3 S h1<|Ns ?_
     refine WL.w (v:=int ((a.length+1:Nat):Int)) (R.ofEq (R.add rfl rfl) (by rw [wr_eq (by simp; omega)]; rfl))<|Jc (zPZ a b c) ?_
     refine W.store (i:=4) [str b] S h rfl rfl lay9 rfl rfl (Nat.le_of_ble_eq_true rfl) rfl ?_
     intro w3 S
     refine We ?_
     refine ⟨(b,E y a),by simp; omega,H1,z,h1,h,h3,hle.trans ae,by simp; omega,?_,S⟩
     rw [← hE,zIl c a b hno]; rfl
   rintro f w ⟨s',m',H,z,h,hle,hE,S⟩
   refine WP.regionY [0,1,2] rfl ?_
   refine WY.valw rfl (R.mv (v:=.func (.yield l) #[] #[]) z) ?_
   refine WY.valw rfl (R.loadB (i:=4) (v:=str s') S h rfl lay9 rfl)<|WY.yield rfl rfl rfl (S.objAt (i:=0) rfl) (by rw [hp]; rfl) (hY s' m' w H _ S) ?_
   intro w2 S
   refine WY.nil<|OutS.zero (L':=[.obj l (.loop r),.box bm TB [mapv q],.mp q (encm boo (E m' s')),.box o 9 [str [c]],.box d 9 [str s'],.box p 3 [int 0]]) (.inr rfl) rfl hle S ?_
   exact ⟨s',by rw [hE],rfl⟩
theorem zLM {j : World} {l : Hp} (hw : Holds j l) (hG : Tryz.Gl j) (x : (List GField)) {aa : Value} (b : Sl l aa x) {r : (List GField)} (h : zLE x = some r) :
    Con Tryz.prog 82 [aa] j l (fun H' v=>Sl H' v r):=by
  refine Con.mkR (N:=49) Tryz.func82 rfl rfl kr rfl ?_
  have S:=St.start hw
  refine WPR.seq<|WPR.of<|Wg<|A<|We<|WPR.seq<|WPR.of<|Wg<|W.makeMap S ?_
  intro c w2 S
  refine W.alloc [(.map none)] S zSP ?_
  intro o w4 S
  refine W.store (i:=0) [(mapv c)] S rfl rfl rfl zJq rfl rfl (Nat.le_of_ble_eq_true rfl) rfl ?_
  intro w5 S
  refine We<|WPR.seq<|WPR.of<|Ws<|Wg<|M<|B h fun r6 bq h=>W.call S rfl (zGw S.holds (hG.post S.post) x [67,111,110,110,101,99,116,105,111,110] b bq) ?_
  rintro v7 w8 H9 bs S ab
  have b:=b.up bs
  refine Nq ab<|M<|We<|B h fun ah bt h=>WP.cut (fun f w=>∃ (aw:Hp),f 0=aa∧f 3=(ptr o 0)∧Sl aw aa x∧St j l w aw [.box o 105 [(mapv c)],.mp c (encm boo ah)]) ?_ ?_
  · refine WP.block ?_
    refine WP.loopM (zID r6) (fun s f w=>match s with | (bg,ax)=>∃ (ae:Hp),f 0=aa∧f 3=(ptr o 0)∧f 13=v7∧f 14=(int (r6.length:Int))∧f 15=(int bg)∧Sl ae aa x∧Sl ae v7 r6∧St j l w ae [.box o 105 [(mapv c)],.mp c (encm boo ax)]) (0,([]:List (Str×Bool))) ah bt ?_ ?_
    · exact ⟨H9,rfl,rfl,rfl,rfl,rfl,b,ab,S⟩
     intro s f w hI cz t bu
     obtain ⟨bg,ax⟩:=s
     obtain ⟨ae,bh,ay,bi,bj,az,b,ab,S⟩:=hI
     refine Ws<|Wg<|La' az bj<|We<|Ws ?_
     rcases condE t with ⟨a0,t⟩ | ⟨a0,t⟩
     · refine WP.condT rfl a0<|WP.skip<|WP.s<|WP.block<|WP.s<|WP.g ?_
       refine B t fun bv bw t=>W.idx (α:=Str) ab bi az el36 bw ?_
       rintro c0 _ bx rfl
       refine Lq S bx<|A<|We<|WP.quietTail 3 S kr kr ?_
       refine WQ.val (fun w hw=>by obtain ⟨_,hq,S⟩:=hw; exact (R.loadB (i:=0) (v:=mapv c) S ay rfl zJq rfl))<|QM<|B t fun bz b0 t=>WQ.call (v:=str bz) rfl (fun w H' hq S=>zA5 S.holds (hG.post S.post) bv b0)<|WQ.nil ?_
       intro c1 b2 b4 S
       have ⟨b,ab⟩:=U2 b4 b ab
       refine W.mapUpdate boo (i:=1) (m:=ax) true S rfl rfl rfl rfl rfl Tryz.underlying105 Tryz.underlying9 ?_
       intro c2 S
       refine We<|Wg<|Lg' az rfl<|M<|We ?_
       obtain rfl:=oi t
       exact ⟨rfl,⟨b2,bh,ay,bi,bj,rfl,b,ab,S⟩⟩
      refine WP.condF rfl a0<|WP.exit ?_
      obtain rfl:=oi t
      obtain rfl:=bu
      exact ⟨ae,bh,ay,b,S⟩
   rintro f w ⟨aw,b5,a1,b,S⟩
   refine WPR.seq<|WPR.seq<|WPR.of<|Wg<|W.callS rfl (zDz S [104,111,115,116,32,99,97,99,104,101,45,99,111,110,116,114,111,108,32,118,97,114,121,32,118,97,114,105,97,110,116,115,32,118,97,114,105,97,110,116,45,107,101,121,32,118,105,97] [32]) ?_
   rintro _ c3 bn _ b6 S ⟨ai,aj,ak,rfl,rfl⟩
   replace S:St j l _ bn [.box ai 9 [(str [32])],.box aj 9 [(str [104,111,115,116,32,99,97,99,104,101,45,99,111,110,116,114,111,108,32,118,97,114,121,32,118,97,114,105,97,110,116,115,32,118,97,114,105,97,110,116,45,107,101,121,32,118,105,97])],.box ak 3 [(int 0)],.box o 105 [(mapv c)],.mp c (encm boo ah)]:=S
   have b:=b.up b6
   refine We<|WPR.block ?_
   replace S:=S.front 2 rfl
   replace S:=S.front 2 rfl
   replace S:=S.front 2 rfl
   replace S:=S.front 4 rfl
   replace S:=S.front 4 rfl
   replace S:St j l _ bn [.box o 105 [(mapv c)],.mp c (encm boo ah),.box ai 9 [(str [32])],.box aj 9 [(str [104,111,115,116,32,99,97,99,104,101,45,99,111,110,116,114,111,108,32,118,97,114,121,32,118,97,114,105,97,110,116,115,32,118,97,114,105,97,110,116,45,107,101,121,32,118,105,97])],.box ak 3 [(int 0)]]:=S
   refine B h fun a2 b7 h=>WPR.range (caps:=[(ptr ai 0),(ptr aj 0),(ptr ak 0)]) S rfl (zFZ Tryz.func273 rfl kr) ?_
   intro fn ac c7 S
   replace S:=S.front 3 rfl
   replace S:=S.front 3 rfl
   replace S:=S.front 2 rfl
   replace S:=S.front 6 rfl
   replace S:=S.front 6 rfl
   replace S:=S.front 6 rfl
   replace S:=S.front 5 rfl
   replace S:=S.front 5 rfl
   replace S:=S.front 5 rfl
   refine Calls.mono (zDI hG (fun m k=>mdel m k) (Nat.le_of_ble_eq_true rfl) rfl (by exact fun k m w H L S=>Round.del S ⟨rfl,a1,rfl,rfl,rfl⟩ (i1:=0) (i2:=1) rfl rfl zJq rfl Tryz.underlying105 Tryz.underlying9) S).2 ?_
   rintro _ da ⟨v,bo,L3,rfl,b9,S,s9,rfl,rfl⟩
   refine ⟨_,rfl,bo,_,S,?_⟩
   intro db S
   rw [oi b7] at S
   replace S:St j l _ bo [.box o 105 [(mapv c)],.mp c (encm boo a2),.box ai 9 [(str [32])],.box aj 9 [(str s9)],.box ak 3 [(int 0)],.obj ac (.deferred (some []))]:=S
   replace S:=(S.pk [0,1,5])
   have b:=b.up b9
   refine WPR.seq<|WPR.seq<|WPR.of<|Wg<|W.callS rfl (zDz S [99,111,110,110,101,99,116,105,111,110,32,107,101,101,112,45,97,108,105,118,101,32,112,114,111,120,121,45,99,111,110,110,101,99,116,105,111,110,32,112,114,111,120,121,45,97,117,116,104,101,110,116,105,99,97,116,101,32,112,114,111,120,121,45,97,117,116,104,111,114,105,122,97,116,105,111,110,32,116,101,32,116,114,97,105,108,101,114,32,116,114,97,110,115,102,101,114,45,101,110,99,111,100,105,110,103,32,99,111,110,116,101,110,116,45,108,101,110,103,116,104,32,117,112,103,114,97,100,101] [32]) ?_
   rintro _ dc bp _ ca S ⟨al,am,an,rfl,rfl⟩
   replace S:St j l _ bp [.box al 9 [(str [32])],.box am 9 [(str [99,111,110,110,101,99,116,105,111,110,32,107,101,101,112,45,97,108,105,118,101,32,112,114,111,120,121,45,99,111,110,110,101,99,116,105,111,110,32,112,114,111,120,121,45,97,117,116,104,101,110,116,105,99,97,116,101,32,112,114,111,120,121,45,97,117,116,104,111,114,105,122,97,116,105,111,110,32,116,101,32,116,114,97,105,108,101,114,32,116,114,97,110,115,102,101,114,45,101,110,99,111,100,105,110,103,32,99,111,110,116,101,110,116,45,108,101,110,103,116,104,32,117,112,103,114,97,100,101])],.box an 3 [(int 0)],.box o 105 [(mapv c)],.mp c (encm boo a2),.obj ac (.deferred (some []))]:=S
   have b:=b.up ca
   refine We<|WPR.block ?_
   replace S:=S.front 5 rfl
   replace S:=S.front 3 rfl
   replace S:=S.front 3 rfl
   replace S:=S.front 3 rfl
   replace S:=S.front 5 rfl
   replace S:=S.front 5 rfl
   replace S:St j l _ bp [.box o 105 [(mapv c)],.mp c (encm boo a2),.box al 9 [(str [32])],.box am 9 [(str [99,111,110,110,101,99,116,105,111,110,32,107,101,101,112,45,97,108,105,118,101,32,112,114,111,120,121,45,99,111,110,110,101,99,116,105,111,110,32,112,114,111,120,121,45,97,117,116,104,101,110,116,105,99,97,116,101,32,112,114,111,120,121,45,97,117,116,104,111,114,105,122,97,116,105,111,110,32,116,101,32,116,114,97,105,108,101,114,32,116,114,97,110,115,102,101,114,45,101,110,99,111,100,105,110,103,32,99,111,110,116,101,110,116,45,108,101,110,103,116,104,32,117,112,103,114,97,100,101])],.box an 3 [(int 0)],.obj ac (.deferred (some []))]:=S
   refine B h fun ao cb h=>WPR.range (caps:=[(ptr al 0),(ptr am 0),(ptr an 0)]) S rfl (zFZ Tryz.func273 rfl kr) ?_
   intro fn ap dd S
   replace S:=S.front 3 rfl
   replace S:=S.front 3 rfl
   replace S:=S.front 2 rfl
   replace S:=S.front 6 rfl
   replace S:=S.front 6 rfl
   replace S:=S.front 6 rfl
   replace S:=S.front 5 rfl
   replace S:=S.front 5 rfl
   replace S:=S.front 5 rfl
   refine Calls.mono (zDI hG (fun m k=>mset m k true) (Nat.le_of_ble_eq_true rfl) rfl (by exact fun k m w H L S=>Round.set S ⟨rfl,a1,rfl,rfl,rfl⟩ (i1:=0) (i2:=1) rfl rfl zJq Tryz.underlying105 Tryz.underlying9) S).2 ?_
   rintro _ de ⟨v,a4,L3,rfl,cc,S,s9,rfl,rfl⟩
   refine ⟨_,rfl,a4,_,S,?_⟩
   intro df S
   rw [oi cb] at S
   replace S:St j l _ a4 [.box o 105 [(mapv c)],.mp c (encm boo ao),.box al 9 [(str [32])],.box am 9 [(str s9)],.box an 3 [(int 0)],.obj ap (.deferred (some [])),.obj ac (.deferred (some []))]:=S
   replace S:=(S.pk [0,1,5,6])
   have b:=b.up cc
   refine WPR.of<|Ws<|Wg<|A<|We<|Ws<|Ws<|Wg<|M' b5<|Nq b<|M<|We ?_
   have S:=S.addNil 41 2
   refine B h fun a5 cd h=>WP.cut (fun f w=>∃ (a6:Hp) (aq:Value),f 8=aq∧Sl a6 aq a5∧St j l w a6 [.row aq 41 2 a5.length,.obj ap (.deferred (some [])),.obj ac (.deferred (some []))]) ?_ ?_
   · refine WP.block ?_
     refine WP.loopM (zH9 x ao) (fun s f w=>match s with | (a7,a8)=>∃ (af:Hp) (ad:Value),f 3=(ptr o 0)∧f 8=ad∧f 31=aa∧f 32=(int (x.length:Int))∧f 33=(int a8)∧Sl af ad a7∧Sl af aa x∧St j l w af [.row ad 41 2 a7.length,.box o 105 [(mapv c)],.mp c (encm boo ao),.obj ap (.deferred (some [])),.obj ac (.deferred (some []))]) (([]:List GField),0) a5 cd ?_ ?_
     · exact ⟨a4,.slice none 0 0,a1,rfl,rfl,rfl,rfl,Sl.nil,b,S⟩
      intro s f w hI dh d ce
      obtain ⟨a7,a8⟩:=s
      obtain ⟨af,ad,a9,ba,bb,bc,au,u,b,S⟩:=hI
      refine Ws<|Wg<|La' au bc<|We<|Ws ?_
      rcases condE d with ⟨bd,d⟩ | ⟨bd,d⟩
      · refine WP.condT rfl bd<|WP.skip<|WP.s<|WP.block<|WP.s<|WP.g ?_
        refine B d fun p cf d=>W.idx (α:=GField) b bb au el26 cf ?_
        rintro di _ cg rfl
        refine WL.w (R.loadHN (vs:=[(str p.fName),(str p.fValue)]) S rfl cg lay41 rfl rfl) ?_
        refine W.alloc [(str []),(str [])] S zer41 ?_
        intro dj dk S
        refine W.store (i:=0) [(str p.fName),(str p.fValue)] S rfl rfl rfl lay41 rfl rfl (Nat.le_of_ble_eq_true rfl) rfl ?_
        intro dl S
        refine We<|Ws<|WP.quiet S kr kr ?_
        refine WQ.val (fun w hw=>by obtain ⟨_,hq,S⟩:=hw; exact (R.loadB (i:=2) (v:=mapv c) S a9 rfl zJq rfl))<|QFb ?_
        refine QB 0 (str p.fName)<|B d fun ch ci d=>WQ.call (v:=str ch) rfl (fun w H' hq S=>zA5 S.holds (hG.post S.post) p.fName ci)<|B d fun g103 cj d=>?_
        refine WQ.val (v:=boo g103.1) (fun w hw=>by obtain ⟨_,hq,S⟩:=hw; exact (R.ofEq (R.lookup1 boo (i:=3) (m:=ao) (z:=false) S rfl rfl rfl Tryz.underlying105 Tryz.underlying9 mz4 rfl) (by rw [oi cj])))<|QNo<|WQ.nil ?_
        intro dm ck cl S
        have ⟨u,b⟩:=U2 cl u b
        rcases condE d with ⟨be,d⟩ | ⟨be,d⟩
        · refine WP.condT rfl be<|WP.g<|WL.m (ad) ba<|WL.w (R.loadBN (i:=0) (vs:=[(str p.fName),(str p.fValue)]) S rfl rfl lay41 rfl rfl)<|W.bslice (α:=GField) [(agg [(str p.fName),(str p.fValue)])] ([p]:List GField) S el26 rfl rfl rfl (by decide) (Go.Eng.encS ⟨rfl,rfl⟩ enc0) ?_
          intro dn dp dq cm cn S
          have ⟨u,b⟩:=U2 cm u b
          refine B d fun dr co d=>W.app (α:=GField) (i:=2) S el26 rfl rfl rfl u cn co ?_
          intro cp ds cq cr cs S
          have ⟨u,b⟩:=U2 cr u b
          refine A<|We<|Wg<|Lg' au rfl<|M<|We ?_
          obtain rfl:=oi d
          exact ⟨rfl,⟨cq,cp,a9,rfl,bb,bc,rfl,cs,b,(S.pk [2,3,4,5,6])⟩⟩
         refine WP.condF rfl be<|WP.skip<|WP.g<|WL.w (R.add au rfl)<|WL.m (int (wr (a8+1))) rfl<|WL.e ?_
         obtain rfl:=oi d
         exact ⟨rfl,⟨ck,ad,a9,ba,bb,bc,rfl,u,b,(S.pk [1,2,3,4,5])⟩⟩
       refine WP.condF rfl bd<|WP.exit ?_
       obtain rfl:=oi d
       obtain rfl:=ce
       exact ⟨af,ad,ba,u,(S.pk [0,3,4])⟩
    rintro f w ⟨a6,aq,ct,cu,S⟩
    refine Ws<|Wg<|M' ct<|A<|We ?_
    obtain rfl:=oi h
    replace S:=S.front 2 rfl
    replace S:=S.front 2 rfl
    refine WP.ret (OutR.one [ap,ac] rfl rfl S rfl ?_)
    exact cu
end Go.Proofs
namespace Go.Proofs
open Go Go.Eng Go.VI Go.Eng.Pure
set_option linter.unusedVariables false
set_option maxRecDepth 10000
set_option maxHeartbeats 4000000
theorem c82:FE.ok (U:=UU) Tryz.prog ⟨82,[(.sl (.st 41))],[(.sl (.st 41))],fun x=>zLE x⟩:=@fun w H az x y hw hg b hT h=>by
 obtain ⟨d,rfl,c⟩:=hT
 exact (zLM hw b x c h).mono (fun _ v K0=>⟨[v],rfl,v,rfl,K0⟩)
theorem c37:FE.ok (U:=UU) Tryz.prog ⟨37,[(.st 88)],[.boo],fun x=>zF5 x⟩:=mk (fcons c80 anil) (.e) Tryz.func37
theorem c108:FE.ok (U:=UU) Tryz.prog ⟨108,[(.sl (.st 41)),.str],[.str,.boo],fun x=>zFv x.1 x.2⟩:=mk (fcons c103 anil) (.e) Tryz.func108
theorem c306:FE.ok (U:=UU) Tryz.prog ⟨306,[.str,.str],[.str,.boo],fun x=>zDj x.1 x.2⟩:=mk (fcons c256 anil) (.e) Tryz.func306
theorem c268:FE.ok (U:=UU) Tryz.prog ⟨268,[.str,.str],[.str,.boo],fun x=>zFA x.1 x.2⟩:=mk (fcons c306 anil) (.e) Tryz.func268
theorem c197:FE.ok (U:=UU) Tryz.prog ⟨197,[.str],[.boo],fun x=>zGh x⟩:=mk anil (.n .e (.n (.n .e (.lp ⟨[⟨.sl 7,.int,none⟩],some [],[]⟩ (some ⟨[],some [],[]⟩) true .e)) .e)) Tryz.func197
theorem c196:FE.ok (U:=UU) Tryz.prog ⟨196,[.str],[(.st 218),.boo],fun x=>zH4 x⟩:=mk (fcons c268 (fcons c197 anil)) (.e) Tryz.func196
theorem c128:FE.ok (U:=UU) Tryz.prog ⟨128,[(.sl (.st 41))],[(.st 218),.boo],fun x=>zRF x⟩:=mk (fcons c196 (fcons c108 anil)) (.e) Tryz.func128
end Go.Proofs
namespace Go.Proofs
open Go.Eng Go.Eng.Pure
set_option linter.unusedVariables false
theorem zO8:fld Tryz.prog 25 0=some 0:=by kernel_rfl
instance:Fld Tryz.prog 25 0 0:=⟨zO8⟩
theorem lay22:lay Tryz.prog 22=some (false,1):=by kernel_rfl
instance:Lay Tryz.prog 22 (false,1):=⟨lay22⟩
theorem zL8:fld Tryz.prog 25 1=some 1:=by kernel_rfl
instance:Fld Tryz.prog 25 1 1:=⟨zL8⟩
theorem lay23:lay Tryz.prog 23=some (false,1):=by kernel_rfl
instance:Lay Tryz.prog 23 (false,1):=⟨lay23⟩
theorem el23:Elem Tryz.prog 23 38 8:=zEr kr
theorem lay38:lay Tryz.prog 38=some (true,8):=by kernel_rfl
instance:Lay Tryz.prog 38 (true,8):=⟨lay38⟩
theorem zHU {k : World} {d : Hp} (hw : Holds k d) (hG : Tryz.Gl k) (l : (List GEntry)) (x : (GEntry → Option Bool)) {o : Value} {kp_test : FuncId} {cp_test : List Value} (i : Sl d o l) (Fp_test : ∀ {w : World} {H : Hp}, d.le H → Holds w H → Tryz.Gl w → ∀ (c : GEntry), ∀ {ac ad ae af : Value}, Sl H ac c.fKeys → Sl H ad c.fVary → Sl H ae c.fSnapshot → Sl H af c.fFields → ∀ (rr : Bool), x c = some rr → Con Tryz.prog kp_test ([(agg [ac, ad, ae, (str c.fReason), af, (str c.fBody), (int c.fRequested), (int c.fReceived)])] ++ cp_test) w H (fun H' v => v = (boo rr))) {r : Int} (h : zE7 l x = some r) :
    Ci Tryz.prog 16 [o,(.func (.func kp_test) #[] cp_test.toArray)] k d r:=by
  refine CM 20 Tryz.func16 hw fun S=>?_
  refine Ws<|Wg<|A<|We<|Ws<|Ws<|Wg<|M<|Nq i<|Lh<|A<|We<|B h fun z al h=>WP.cut (fun f w=>match z with | .inl _=>∃ (H6:Hp),St k d w H6 [] | .inr _=>False) ?_ ?_
  · refine WP.block ?_
    refine WP.loopM (zCN l x) (fun s f w=>match s with | j=>∃ (t:Hp),f 0=o∧f 1=(.func (.func kp_test) #[] cp_test.toArray)∧f 5=(int j)∧Sl t o l∧St k d w t []) (wr ((l.length:Int) - 1)) z al ?_ ?_
    · exact ⟨d,rfl,rfl,rfl,i,S⟩
     intro j f w hI y7 b ai
     obtain ⟨t,h2,h3,u,i,S⟩:=hI
     refine Ws<|Ws<|Wg<|M' u<|Ld<|We ?_
     rcases condE b with ⟨aa,b⟩ | ⟨aa,b⟩
     · refine WP.condT rfl aa<|WP.skip<|WP.s<|WP.block<|WP.s<|WP.g<|WL.m (.func (.func kp_test) #[] cp_test.toArray) h3<|WL.m (o) h2<|WL.m (int j) u ?_
       refine B b fun p am b=>W.idx (α:=GEntry) i rfl rfl el23 am ?_
       rintro a3 _ an ⟨ao,ap,aq,au,rfl,av,aw,ax,ay⟩
       refine WL.w (R.loadHN (vs:=[ao,ap,aq,(str p.fReason),au,(str p.fBody),(int p.fRequested),(int p.fReceived)]) S rfl an lay38 rfl rfl)<|B b fun a4 az b=>W.callv S rfl rfl (Fp_test (S.post.le) S.holds (hG.post S.post) p av aw ax ay _ az) ?_
       rintro a5 a6 a0 a1 S rfl
       have i:=i.up a1
       refine We ?_
       rcases condE b with ⟨ab,b⟩ | ⟨ab,b⟩
       · refine WP.condT rfl ab<|WP.s<|WP.g<|WL.m (int j) u<|WL.a (int j) rfl<|WL.e ?_
         obtain rfl:=oi b
         obtain rfl:=ai
         exact WP.ret (Ri h S)
        refine WP.condF rfl ab<|WP.skip<|WP.g<|WL.m (int j) u<|WL.w (R.sub rfl rfl)<|WL.a (int (wr (j - 1))) rfl<|WL.e ?_
        obtain rfl:=oi b
        exact ⟨rfl,⟨a0,h2,h3,rfl,i,S⟩⟩
      refine WP.condF rfl aa<|WP.exit ?_
      obtain rfl:=oi b
      obtain rfl:=ai
      exact ⟨t,S⟩
   intro f w hM
   rcases z with _ | e
   · obtain ⟨H6,S⟩:=hM
     refine Ws<|Wg<|A<|We ?_
     exact WP.ret (Ri h S)
    exact hM.elim
theorem zRq:fld Tryz.prog 38 1=some 1:=by kernel_rfl
instance:Fld Tryz.prog 38 1 1:=⟨zRq⟩
theorem zRU:fld Tryz.prog 38 2=some 2:=by kernel_rfl
instance:Fld Tryz.prog 38 2 2:=⟨zRU⟩
theorem lay26:lay Tryz.prog 26=some (false,1):=by kernel_rfl
instance:Lay Tryz.prog 26 (false,1):=⟨lay26⟩
end Go.Proofs
namespace Go.Proofs
open Go Go.Eng Go.VI Go.Eng.Pure
set_option linter.unusedVariables false
set_option maxRecDepth 10000
set_option maxHeartbeats 4000000
theorem c89:FE.ok (U:=UU) Tryz.prog ⟨89,[.str,(.sl (.st 41))],[.str],fun x=>zGM x.1 x.2⟩:=mk (fcons c103 (fcons c80 (fcons c55 (fcons c54 (fcons c51 (fcons c50 (fcons c25 anil))))))) (.e) Tryz.func89
theorem c40:FE.ok (U:=UU) Tryz.prog ⟨40,[(.sl .str),(.sl (.st 41))],[(.sl .str)],fun x=>zD5 x.1 x.2⟩:=mk (fcons c89 anil) (.n .e (.n .e (.n (.n .e (.lp ⟨[⟨.sl 5,(.sl .str),some 9⟩,⟨.sl 10,.int,none⟩],some [],[]⟩ (some ⟨[⟨.sl 5,(.sl .str),some 9⟩],some [],[]⟩) false .e)) .e))) Tryz.func40
theorem c18:FE.ok (U:=UU) Tryz.prog ⟨18,[(.sl .str),(.sl .str),(.sl (.st 41))],[.boo],fun x=>zFC x.1 x.2.1 x.2.2⟩:=mk (fcons c40 (fcons c39 anil)) (.e) Tryz.func18
theorem zKU {c : World} {b : Hp} (hw : Holds c b) (hG : Tryz.Gl c) (d : (List Str)) (f : (List Str)) (i : (List GField)) {j : Value} {k : Value} {l : Value} (o : Sl b j d) (p : Sl b k f) (t : Sl b l i) {r : Bool} (h : zFC d f i = some r) :
    Cb Tryz.prog 18 [j,k,l] c b r:=by
  refine (c18 (xs:=(d,f,i)) (y:=r) hw (fun _ _ e=>by cases e) hG ⟨_,_,rfl,o,⟨_,_,rfl,p,⟨_,rfl,t⟩⟩⟩ h).mono ?_
  rintro _ v ⟨_,rfl,D⟩
  obtain ⟨u,rfl,x⟩:=D
  obtain rfl:u=_:=x
  exact rfl
end Go.Proofs
namespace Go.Proofs
open Go.Eng Go.Eng.Pure
set_option linter.unusedVariables false
theorem zIx {d : World} {c : Hp} (hw : Holds d c) (hG : Tryz.Gl d) (b : GEntry) (f : (List GField)) {i : Value} {j : Value} {k : Value} {l : Value} {o : Value} {p : Addr} (aa : Sl c i b.fKeys) (t : Sl c j b.fVary) (u : Sl c k b.fSnapshot) (ab : Sl c l b.fFields) (v : At c p [o]) (x : Sl c o f) {r : Bool} (h : zEX b f = some r) :
    Cb Tryz.prog 17 [(agg [i,j,k,(str b.fReason),l,(str b.fBody),(int b.fRequested),(int b.fReceived)]),(.pointer (some p))] d c r:=by
  refine CM 10 Tryz.func17 hw fun S=>?_
  refine Ws<|Wg ?_
  refine W.box [i,j,k,(str b.fReason),l,(str b.fBody),(int b.fRequested),(int b.fReceived)] S rfl rfl ?_
  intro b1 w2 S
  refine A<|We<|Ws<|Wg<|Fb ?_
  refine Lo 0 S<|Fb ?_
  refine Lo 0 S ?_
  refine Lq S v<|B h fun r3 z h=>W.call S rfl (zKU S.holds (hG.post S.post) b.fVary b.fSnapshot f t u x z) ?_
  rintro v4 w5 H6 aj S rfl
  refine A<|We ?_
  exact WP.ret (Rb h S)
theorem el35:Elem Tryz.prog 35 36 1:=zEr kr
theorem zer36:zer Tryz.prog 36=some [(.slice none 0 0)]:=by kernel_rfl
theorem zH5 {w0 : World} {H0 : Hp} (hw : Holds w0 H0) (hG : Tryz.Gl w0) (u : (List GAxis)) (a5 : (List GField)) (a6 : Bool) (am : Int) {k : Value} {bf : Value} (b : Sl H0 k u) (aw : Sl H0 bf a5) {r : (List (List Str))} (h : zDY u a5 a6 am = some r) :
    Con Tryz.prog 41 [k,bf,(boo a6),(int am)] w0 H0 (fun H' v=>Sl H' v r):=by
  refine CM 109 Tryz.func41 hw fun S=>?_
  refine Ws<|Wg<|A<|We<|Ws<|Ws<|Wg<|M<|B h fun r1 ed h=>W.call S rfl (zEw S.holds (hG.post S.post) u b ed) ?_
  rintro v2 w3 H4 ee S rfl
  have ⟨b,aw⟩:=U2 ee b aw
  refine No<|We ?_
  rcases condE h with ⟨b3,h⟩ | ⟨b3,h⟩
  · refine WP.condT rfl b3<|WP.s<|WP.g<|WL.a (.slice none 0 0) rfl<|WL.e ?_
    exact WP.ret (Rl h S Sl.nil)
   refine WP.condF rfl b3<|WP.skip<|WP.s<|WP.g<|WL.m (k) rfl<|WL.w (R.lenL (α:=GAxis) (xs:=u) (H:=H4) b rfl Tryz.underlying22) ?_
   refine B h fun l7 eg h=>W.makeSlice (α:=(List Str)) (zv:=(.slice none 0 0)) (z:=([]:List Str)) S el35 rfl rfl rfl zer36 ⟨_,rfl,Sl.nil⟩ eg ?_
   intro x w9 eh t ei ej S
   refine A<|We<|Ws<|Ws<|Wg<|M<|Nq b<|M<|We<|B h fun b4 ek h=>WP.cut (fun f w=>match b4 with | .inl af=>∃ (a7:Hp) (ab:List Value),f 0=k∧f 3=(int am)∧f 9=(.slice (some ⟨x,0,none⟩) t t)∧Sl a7 k u∧Ms a7 ab af∧af.length=t∧St w0 H0 w a7 [.box x 36 ab] | .inr _=>False) ?_ ?_
   · refine WP.block ?_
     refine WP.loopM (zBJ u a5 a6) (fun s f w=>match s with | (a8,bg)=>∃ (a2:Hp) (bh:List Value),f 0=k∧f 1=bf∧f 2=(boo a6)∧f 3=(int am)∧f 9=(.slice (some ⟨x,0,none⟩) t t)∧f 24=k∧f 25=(int (u.length:Int))∧f 26=(int a8)∧Sl a2 k u∧Sl a2 bf a5∧Ms a2 bh bg∧bg.length=t∧St w0 H0 w a2 [.box x 36 bh]) (0,l7) b4 ek ?_ ?_
     · exact ⟨H4,eh,rfl,rfl,rfl,rfl,rfl,rfl,rfl,rfl,b,aw,ej,ei,S⟩
      intro s f w hI gy o cx
      obtain ⟨a8,bg⟩:=s
      obtain ⟨a2,bh,cy,cz,c0,c1,bi,c2,c3,bj,b,aw,bn,b5,S⟩:=hI
      refine Ws<|Wg<|La' bj c3<|We<|Ws ?_
      rcases condE o with ⟨b6,o⟩ | ⟨b6,o⟩
      · refine WP.condT rfl b6<|WP.skip<|WP.s<|WP.block<|WP.s<|WP.g<|WL.m (int a8) bj ?_
        refine B o fun a9 el o=>W.idx (α:=GAxis) b c2 bj el22 el ?_
        rintro gz _ em ⟨bo,rfl,c7⟩
        refine WL.w (R.loadHN (vs:=[(str a9.fName),bo]) S rfl em lay62 rfl rfl) ?_
        refine W.alloc [(str []),(.slice none 0 0)] S zer62 ?_
        intro g0 g1 S
        refine A ?_
        refine W.store (i:=0) [(str a9.fName),bo] S rfl rfl rfl lay62 rfl (AllOne.all (l:=[(str a9.fName),bo]) (.cons rfl (.cons (Sl.oneC c7) .nil))) (Nat.le_of_ble_eq_true rfl) rfl ?_
        intro g2 S
        refine We<|Ws<|Wg<|M' bi<|M ?_
        refine WL.w (R.loadBN (i:=0) (vs:=[(str a9.fName),bo]) S rfl rfl lay62 rfl rfl)<|M' cz<|M' c0<|B o fun g3 en o=>W.call S rfl (zEL S.holds (hG.post S.post) a9 a5 a6 c7 aw en) ?_
        rintro g4 g5 eo da S db
        have ⟨b,aw⟩:=U2 da b aw
        have bn:=Ms.mono bn da
        refine B o fun g6 ep o=>?_
        refine WL.w (R.idxM (α:=(List Str)) (xs:=bg) rfl b5 rfl el35 ep)<|B o fun eq dc o=>?_
        refine W.storeM (α:=(List Str)) (i:=1) (m:=a8) S bn rfl rfl rfl lay36 (by obtain ⟨_,_,e9,_⟩:=db; rw [e9]; rfl) ⟨_,rfl,db⟩ dc ?_
        intro g7 es dd S
        have de:=(zEf dc).1.trans b5
        refine We<|Ws<|Wg<|M' bi<|M<|B o fun g8 df o=>?_
        refine WL.w (R.idxM (α:=(List Str)) (xs:=eq) rfl de rfl el35 df) ?_
        obtain ⟨_,_,g9,et,eu⟩:=Ms.get dd df
        obtain ⟨ha,b7,ew⟩:=eu
        replace b7:=(List.cons.inj b7).1
        subst b7
        refine WL.w (R.loadB (i:=1) S rfl rfl lay36 et)<|Nq ew<|Le<|We ?_
        rcases condE o with ⟨b9,o⟩ | ⟨b9,o⟩
        · refine WP.condT rfl b9<|WP.s<|WP.g<|WL.a (.slice none 0 0) rfl<|WL.e ?_
          obtain rfl:=oi o
          obtain rfl:=cx
          exact WP.ret (Rl h S Sl.nil)
         refine WP.condF rfl b9<|WP.skip<|WP.g<|WL.w (R.add bj rfl)<|WL.m (int (wr (a8+1))) rfl<|WL.e ?_
         obtain rfl:=oi o
         exact ⟨rfl,⟨eo,es,cy,cz,c0,c1,bi,c2,c3,rfl,b,aw,dd,de,(S.pk [1])⟩⟩
       refine WP.condF rfl b6<|WP.exit ?_
       obtain rfl:=oi o
       obtain rfl:=cx
       exact ⟨a2,bh,cy,c1,bi,b,bn,b5,S⟩
    intro f w hM
    rcases b4 with af | e
    · obtain ⟨a7,ab,dh,ex,ey,b,d,di,S⟩:=hM
      refine Ws<|Wg<|A<|We<|Ws<|Wg<|M' dh<|Nq b<|B h fun ez e0 h=>W.makeSlice (α:=Int) (zv:=(int 0)) (z:=0) S el167 rfl rfl rfl zer3 rfl e0 ?_
      intro ac hb e1 p e2 e3 S
      refine A<|We<|Ws ?_
      have S:=S.addNil 36 1
      refine B h fun ca e4 h=>WP.cut (fun f w=>∃ (cb:Hp) (bp:Value),f 12=bp∧Sl cb bp ca∧St w0 H0 w cb [.row bp 36 1 ca.length]) ?_ ?_
      · refine WP.block ?_
        refine WP.loopM (zAy u am af) (fun s f w=>match s with | (ax,aj)=>∃ (ap:Hp) (ak:Value) (aq:List Value),f 0=k∧f 3=(int am)∧f 9=(.slice (some ⟨x,0,none⟩) t t)∧f 12=ak∧f 13=(.slice (some ⟨ac,0,none⟩) p p)∧Sl ap k u∧Sl ap ak ax∧Ms ap aq aj∧Ms ap ab af∧aj.length=p∧St w0 H0 w ap [.row ak 36 1 ax.length,.box ac 3 aq,.box x 36 ab]) (([]:List (List Str)),ez) ca e4 ?_ ?_
        · exact ⟨a7,.slice none 0 0,e1,dh,ex,ey,rfl,rfl,b,Sl.nil,e3,d,e2,S⟩
         intro s f w hI hc j dj
         obtain ⟨ax,aj⟩:=s
         obtain ⟨ap,ak,aq,dk,dl,e5,cc,dm,b,ad,ah,d,bq,S⟩:=hI
         refine Ws<|Ws<|Wg<|M' cc<|Nq ad<|M' dl<|La<|We ?_
         rcases condE j with ⟨cd,j⟩ | ⟨cd,j⟩
         · refine WP.condT rfl cd<|WP.skip<|WP.block<|WP.s<|WP.g<|WL.m (k) dk<|WL.w (R.lenL (α:=GAxis) (xs:=u) (H:=ap) b rfl Tryz.underlying22) ?_
           refine B j fun e6 e7 j=>W.makeSlice (α:=Str) (zv:=(str [])) (z:=[]) S el36 rfl rfl rfl zer9 rfl e7 ?_
           intro a0 he e8 an fa fb S
           refine A<|We<|Ws<|Ws<|Wg<|M' dm ?_
           refine WL.w (v:=int (aj.length:Int)) (R.ofEq (R.lenV rfl Tryz.underlying167) (by rw [bq]))<|M<|We<|B j fun ba fc j=>WP.cut (fun f w=>∃ (a1:Hp) (br:List Value),f 0=k∧f 3=(int am)∧f 9=(.slice (some ⟨x,0,none⟩) t t)∧f 12=ak∧f 13=(.slice (some ⟨ac,0,none⟩) p p)∧f 14=(.slice (some ⟨a0,0,none⟩) an an)∧Sl a1 k u∧Sl a1 ak ax∧Ms a1 br ba∧Ms a1 aq aj∧Ms a1 ab af∧ba.length=an∧St w0 H0 w a1 [.box a0 9 br,.row ak 36 1 ax.length,.box ac 3 aq,.box x 36 ab]) ?_ ?_
           · refine WP.block ?_
             refine WP.loopM (zBK af aj) (fun s f w=>match s with | (bs,bt)=>∃ (au:Hp) (bu:List Value),f 0=k∧f 3=(int am)∧f 9=(.slice (some ⟨x,0,none⟩) t t)∧f 12=ak∧f 13=(.slice (some ⟨ac,0,none⟩) p p)∧f 14=(.slice (some ⟨a0,0,none⟩) an an)∧f 55=(.slice (some ⟨ac,0,none⟩) p p)∧f 56=(int (aj.length:Int))∧f 57=(int bs)∧Sl au k u∧Sl au ak ax∧Ms au bu bt∧Ms au aq aj∧Ms au ab af∧bt.length=an∧St w0 H0 w au [.box a0 9 bu,.row ak 36 1 ax.length,.box ac 3 aq,.box x 36 ab]) (0,e6) ba fc ?_ ?_
             · exact ⟨ap,e8,dk,dl,e5,cc,dm,rfl,rfl,rfl,rfl,b,ad,fb,ah,d,fa,S⟩
              intro s f w hI hf aa fd
              obtain ⟨bs,bt⟩:=s
              obtain ⟨au,bu,dn,dp,ce,dq,dr,cf,ds,dt,bv,b,ad,du,ah,d,cg,S⟩:=hI
              refine Ws<|Wg<|La' bv dt<|We<|Ws ?_
              rcases condE aa with ⟨ch,aa⟩ | ⟨ch,aa⟩
              · refine WP.condT rfl ch<|WP.skip<|WP.s<|WP.block<|WP.s<|WP.g<|WL.m (int bs) bv ?_
                refine B aa fun fe dw aa=>?_
                refine WL.w (R.idxM (α:=Int) (xs:=aj) ds bq bv el167 dw) ?_
                obtain ⟨_,_,ff,fg,fh⟩:=Ms.get ah dw
                obtain rfl:=(List.cons.inj (show [ff]=[(int fe)] from fh)).1
                refine WL.w (R.loadB (i:=2) S rfl rfl lay3 fg)<|A<|A<|We<|Wg<|M' cf<|M<|M' ce<|M<|B aa fun hg dx aa=>?_
                refine WL.w (R.idxM (α:=(List Str)) (xs:=af) rfl di rfl el35 dx) ?_
                obtain ⟨_,_,hh,fi,fj⟩:=Ms.get d dx
                obtain ⟨hi,ci,fk⟩:=fj
                replace ci:=(List.cons.inj ci).1
                subst ci
                refine WL.w (R.loadB (i:=3) S rfl rfl lay36 fi)<|M<|B aa fun hj fl aa=>W.idx (α:=Str) fk rfl rfl el36 fl ?_
                rintro hk _ fm rfl
                refine Lq S fm<|B aa fun hl fn aa=>?_
                refine WL.w (R.idxM (α:=Str) (xs:=bt) rfl cg rfl el36 fn)<|B aa fun hm dy aa=>?_
                refine W.storeM (α:=Str) (i:=0) (m:=bs) S du rfl rfl rfl lay9 rfl rfl dy ?_
                intro hn fo fp S
                have fq:=(zEf dy).1.trans cg
                refine We<|Wg<|Lg' bv rfl<|M<|We ?_
                obtain rfl:=oi aa
                exact ⟨rfl,⟨au,fo,dn,dp,ce,dq,dr,cf,ds,dt,rfl,b,ad,fp,ah,d,fq,S⟩⟩
               refine WP.condF rfl ch<|WP.exit ?_
               obtain rfl:=oi aa
               obtain rfl:=fd
               exact ⟨au,bu,dn,dp,ce,dq,dr,cf,b,ad,du,ah,d,cg,S⟩
            rintro f w ⟨a1,br,fr,fs,ft,fu,dz,fv,b,ad,cj,ah,d,fw,S⟩
            refine Ws<|Wg<|M' fu<|M' fv ?_
            obtain ⟨ck,bw,fx,_,S⟩:=S.settle (i:=0) rfl
            replace S:St w0 H0 _ ck [.row ak 36 1 ax.length,.box ac 3 aq,.box x 36 ab]:=S
            have fy:At ck ⟨a0,0,none⟩ br:=⟨_,_,rfl,fx,[],by simp⟩
            have ⟨b,ad⟩:=U2 bw b ad
            have cj:=Ms.mono cj bw
            have ah:=Ms.mono ah bw
            have d:=Ms.mono d bw
            have cl:Sl ck (.slice (some ⟨a0,0,none⟩) an an) ba:=Ms.sl cj fw fy
            refine W.bslice (α:=(List Str)) [(.slice (some ⟨a0,0,none⟩) an an)] ([ba]:List (List Str)) S el35 rfl rfl rfl (by decide) (Go.Eng.encS ⟨(by rw [Sl.cellsOne cl]; rfl),_,(by rw [Sl.cellsOne cl]),cl⟩ enc0) ?_
            intro ho hp hr cm fz S
            have ⟨b,ad⟩:=U2 cm b ad
            have ah:=Ms.mono ah cm
            have d:=Ms.mono d cm
            refine B j fun bx f0 j=>W.app (α:=(List Str)) (i:=1) S el35 rfl rfl rfl ad fz f0 ?_
            intro ay ht f1 cn av S
            have ⟨b,ad⟩:=U2 cn b ad
            have ah:=Ms.mono ah cn
            have d:=Ms.mono d cn
            refine A<|We<|Ws<|Wg<|M' dz ?_
            refine WL.w (v:=int (aj.length:Int)) (R.ofEq (R.lenV rfl Tryz.underlying167) (by rw [bq]))<|Lh<|A<|We<|Ws<|B j fun co f2 j=>WP.cut (fun f w=>match co with | (bz,bb)=>∃ (az:Hp) (cp:List Value),f 0=k∧f 3=(int am)∧f 9=(.slice (some ⟨x,0,none⟩) t t)∧f 12=ay∧f 13=(.slice (some ⟨ac,0,none⟩) p p)∧f 17=(int bz)∧Sl az k u∧Sl az ay bx∧Ms az cp bb∧Ms az ab af∧bb.length=p∧St w0 H0 w az [.row ay 36 1 bx.length,.box ac 3 cp,.box x 36 ab]) ?_ ?_
            · refine WP.block ?_
              refine WP.loopM (zBI af) (fun s f w=>match s with | (bc,bd)=>∃ (a3:Hp) (b0:List Value),f 0=k∧f 3=(int am)∧f 9=(.slice (some ⟨x,0,none⟩) t t)∧f 12=ay∧f 13=(.slice (some ⟨ac,0,none⟩) p p)∧f 17=(int bc)∧Sl a3 k u∧Sl a3 ay bx∧Ms a3 b0 bd∧Ms a3 ab af∧bd.length=p∧St w0 H0 w a3 [.row ay 36 1 bx.length,.box ac 3 b0,.box x 36 ab]) (wr ((aj.length:Int) - 1),aj) co f2 ?_ ?_
              · exact ⟨f1,aq,fr,fs,ft,rfl,dz,rfl,b,av,ah,d,bq,(S.pk [1,2,3])⟩
               intro s f w hI hu al f3
               obtain ⟨bc,bd⟩:=s
               obtain ⟨a3,b0,d0,d1,cq,d2,b1,a4,b,av,be,d,b2,S⟩:=hI
               refine Ws<|Ws<|WP.quiet S kr kr<|QM' a4<|QLd<|QM<|B al fun f4 ao al=>WQ.grp 12 [83,84,85,86,87,88,89,90,91,92,93] 94 (boo f4) ?_ ?_
               · rcases boolE (decide (0≤bc)) with c | c
                 · replace ao:=condT ao c
                   refine QGy c<|QM' b1<|QGy c<|QM' a4<|QGy c<|B ao fun f5 d3 ao=>?_
                   refine WQ.val (fun _ _=>(R.idxM (α:=Int) (xs:=bd) rfl b2 rfl el167 d3))<|QGy c ?_
                   obtain ⟨_,_,f6,f7,f8⟩:=Ms.get be d3
                   obtain rfl:=(List.cons.inj (show [f6]=[(int f5)] from f8)).1
                   refine WQ.val (fun w hw=>by obtain ⟨_,hq,S⟩:=hw; exact (R.loadB (i:=1) S rfl rfl lay3 f7))<|QGy c<|QM' cq<|QGy c<|QM' a4<|QGy c<|B ao fun hv d4 ao=>?_
                   refine WQ.val (fun _ _=>(R.idxM (α:=(List Str)) (xs:=af) rfl di rfl el35 d4))<|QGy c ?_
                   obtain ⟨_,_,hx,f9,ga⟩:=Ms.get d d4
                   obtain ⟨hy,cr,gb⟩:=ga
                   replace cr:=(List.cons.inj cr).1
                   subst cr
                   refine WQ.val (fun w hw=>by obtain ⟨_,hq,S⟩:=hw; exact (R.loadB (i:=2) S rfl rfl lay36 f9))<|QGy c<|QNq gb<|QGy c<|QLh<|QGy c<|QLe<|QPt c ?_
                   exact WQ.nil ⟨(ob ao),ag⟩
                  replace ao:=condF ao c
                  refine QGn c<|QGn c<|QGn c<|QGn c<|QGn c<|QGn c<|QGn c<|QGn c<|QGn c<|QGn c<|QGn c<|QPf c ?_
                  exact WQ.nil ⟨(ob ao),ag⟩
                intro us
                refine WQ.nil ?_
                intro hz d5 cs S
                have ⟨b,av⟩:=U2 cs b av
                have be:=Ms.mono be cs
                have d:=Ms.mono d cs
                rcases condE al with ⟨ct,al⟩ | ⟨ct,al⟩
                · refine WP.condT rfl ct<|WP.skip<|WP.block<|WP.s<|WP.g<|WL.m (.slice (some ⟨ac,0,none⟩) p p) b1<|WL.m (int bc) a4 ?_
                  refine B al fun h0 gd al=>?_
                  refine WL.w (R.idxM (α:=Int) (xs:=bd) rfl b2 rfl el167 gd)<|B al fun h1 d6 al=>?_
                  refine W.storeM (α:=Int) (i:=1) (m:=bc) S be rfl rfl rfl lay3 rfl rfl d6 ?_
                  intro h2 ge gf S
                  have gg:=(zEf d6).1.trans b2
                  refine We<|Wg<|M' a4<|Lh<|A<|We ?_
                  obtain rfl:=oi al
                  exact ⟨rfl,⟨d5,ge,d0,d1,cq,d2,b1,rfl,b,av,gf,d,gg,S⟩⟩
                 refine WP.condF rfl ct<|WP.exit ?_
                 obtain rfl:=oi al
                 obtain rfl:=f3
                 exact ⟨d5,b0,d0,d1,cq,d2,b1,a4,b,av,be,d,b2,S⟩
             intro f w hM
             obtain ⟨bz,bb⟩:=co
             obtain ⟨az,cp,gh,gi,gj,d7,d8,d9,b,av,ea,d,cu,S⟩:=hM
             refine Ws<|Ws<|Wg<|M' d9<|La<|We ?_
             rcases condE j with ⟨cv,j⟩ | ⟨cv,j⟩
             · refine WP.condT rfl cv<|WP.exit ?_
               obtain rfl:=oi j
               obtain rfl:=dj
               exact ⟨az,ay,d7,av,(S.pk [0])⟩
              refine WP.condF rfl cv<|WP.skip<|WP.g<|WL.m (.slice (some ⟨ac,0,none⟩) p p) d8<|WL.m (int bz) d9 ?_
              refine B j fun gk eb j=>?_
              refine WL.w (R.idxM (α:=Int) (xs:=bb) rfl cu rfl el167 eb) ?_
              obtain ⟨_,_,gl,gm,gn⟩:=Ms.get ea eb
              obtain rfl:=(List.cons.inj (show [gl]=[(int gk)] from gn)).1
              refine WL.w (R.loadB (i:=1) S rfl rfl lay3 gm)<|Lg<|B j fun h3 go j=>?_
              refine WL.w (R.idxM (α:=Int) (xs:=bb) rfl cu rfl el167 go)<|B j fun h4 ec j=>?_
              refine W.storeM (α:=Int) (i:=1) (m:=bz) S ea rfl rfl rfl lay3 rfl rfl ec ?_
              intro h5 gp gq S
              have gr:=(zEf ec).1.trans cu
              refine We ?_
              obtain rfl:=oi j
              exact ⟨rfl,⟨az,ay,gp,gh,gi,gj,d7,d8,b,av,gq,d,gr,S⟩⟩
          refine WP.condF rfl cd<|WP.exit ?_
          obtain rfl:=oi j
          obtain rfl:=dj
          exact ⟨ap,ak,cc,ad,(S.pk [0])⟩
       rintro f w ⟨cb,bp,gs,gt,S⟩
       refine Ws<|Wg<|M' gs<|A<|We ?_
       exact WP.ret (Rl h S gt)
     exact hM.elim
end Go.Proofs
