/- A part. -/
import Derived.Test.YtffangblkofjdaaGreatDoorEng38
import Derived.Test.YtffangblkofjdaaGreatDoorEng35
import Derived.Test.YtffangblkofjdaaGreatDoorGenM3
namespace Go.Proofs
set_option maxHeartbeats 4000000
set_option maxRecDepth 10000
open Go.Eng Go.Eng.Pure
set_option linter.unusedVariables false
theorem zG4 {c:World} {d:Hp} (hw:Holds c d) (hG:Tryz.Gl c) (b:GMediaType) {f:Value} (i:Sl d f b.fParams) {r:Str} (h:zCi b=some r) :
  Cs Tryz.prog 240 [(agg [(str b.fType),(str b.fSub),f])] c d r:=by
 refine CM 12 Tryz.func240 hw fun S=>?_
 refine Ws<|Wg ?_
 refine W.box [(str b.fType),(str b.fSub),f] S rfl rfl ?_
 intro p t S
 refine A<|We<|Ws<|Wg<|Fb ?_
 refine Lo 0 S<|B h fun u j h=>Je j<|Fb ?_
 refine Lo 0 S<|B h fun k l h=>Je l<|Fb ?_
 refine Lo 0 S<|B h fun v o h=>W.call S rfl (zJV S.holds (hG.post S.post) k b.fParams i o) ?_
 rintro x z H8 ab S rfl
 refine A<|We ?_
 exact WP.ret (Rs h S)
theorem zHJ {j:World} {c:Hp} (hw:Holds j c) (hG:Tryz.Gl j) (k:Str) (o:(List GParam)) {d:Value} {t:Addr} {u:Addr} (aa:At c t [(str k)]) (p:At c u [d]) (f:Sl c d o) {r:(Str×Bool)} (h:zEY k o=some r) :
  Con Tryz.prog 238 [(.pointer (some t)),(.pointer (some u))] j c (fun H' v=>v=(.tuple ⟨[(str r.1),(boo r.2)]⟩)):=by
 refine CM 16 Tryz.func238 hw fun S=>?_
 refine Ws<|Wg<|A<|A<|We<|Ws<|Wg ?_
 refine Lq S aa<|B h fun b ab h=>W.call S rfl (zFP S.holds (hG.post S.post) k ab) ?_
 rintro v2 w3 H4 x S ⟨z,rfl,R7⟩
 have p:=At.mono p x (by simp)
 have f:=f.up x
 refine M ?_
 refine Ex ?_
 refine Ex ?_
 refine W.alloc [(str []),(str []),(.slice none 0 0)] S zRQ ?_
 intro b8 w9 S
 refine W.store (i:=0) [(str b.1.fType),(str b.1.fSub),z] S rfl rfl rfl zM0 rfl (AllOne.all (l:=[(str b.1.fType),(str b.1.fSub),z]) (.cons rfl (.cons rfl (.cons (Sl.oneC R7) .nil)))) (Nat.le_of_ble_eq_true kr) rfl ?_
 intro ak S
 refine A<|We<|Ws<|Wg ?_
 refine Lq S p<|Fb ?_
 refine W.storeSl (α:=GParam) (i:=0) [(str b.1.fType),(str b.1.fSub),d] S f rfl rfl rfl zRP (Nat.le_of_ble_eq_true kr) rfl ?_
 intro al S
 refine We<|Ws<|Wg ?_
 refine WL.w (R.loadBN (i:=0) (vs:=[(str b.1.fType),(str b.1.fSub),d]) S rfl rfl zM0 rfl rfl)<|B h fun am ad h=>W.call S rfl (zG4 S.holds (hG.post S.post) (⟨b.1.fType,b.1.fSub,o⟩:GMediaType) f ad) ?_
 rintro an ao ap aq S rfl
 refine M<|A<|A<|We ?_
 obtain rfl:=oi h
 refine WP.ret (Out.two rfl S rfl rfl ?_)
 exact rfl
end Go.Proofs
namespace Go.Proofs
open Go Go.Eng Go.VI Go.Eng.Pure
set_option linter.unusedVariables false
set_option maxRecDepth 10000
set_option maxHeartbeats 4000000
theorem zER {b:World} {f:Hp} (hw:Holds b f) (hG:Tryz.Gl b) (c:Int) (d:Str) {r:Str} (h:zAq c d=some r) :
  Cs Tryz.prog 242 [(int c),(str d)] b f r:=by
 refine (c242 (xs:=(c,d)) (y:=r) hw (fun _ _ e=>by cases e) hG ⟨_,_,rfl,rfl,⟨_,rfl,rfl⟩⟩ h).mono ?_
 rintro _ v ⟨_,rfl,D⟩
 obtain ⟨i,rfl,j⟩:=D
 obtain rfl:i=_:=j
 exact rfl
theorem zIM {b:World} {d:Hp} (hw:Holds b d) (hG:Tryz.Gl b) (c:Str) {r:Bool} (h:zB3 c=some r) :
  Cb Tryz.prog 243 [(str c)] b d r:=by
 refine (c243 (xs:=(c)) (y:=r) hw (fun _ _ e=>by cases e) hG ⟨_,rfl,rfl⟩ h).mono ?_
 rintro _ v ⟨_,rfl,D⟩
 obtain ⟨f,rfl,i⟩:=D
 obtain rfl:f=_:=i
 exact rfl
end Go.Proofs
namespace Go.Proofs
open Go.Eng Go.Eng.Pure
set_option linter.unusedVariables false
theorem zHH {i:World} {c:Hp} (hw:Holds i c) (hG:Tryz.Gl i) (f:Int) (d:Str) (j:(List GParam)) {k:Value} {o:Addr} {p:Addr} {t:Addr} (x:At c o [(int f)]) (u:At c p [(str d)]) (z:At c t [k]) (aa:Sl c k j) {r:(Str×Bool)} (h:zEQ f d j=some r) :
  Con Tryz.prog 241 [(.pointer (some o)),(.pointer (some p)),(.pointer (some t))] i c (fun H' v=>v=(.tuple ⟨[(str r.1),(boo r.2)]⟩)):=by
 refine CM 15 Tryz.func241 hw fun S=>?_
 refine Ws<|Wg<|A<|A<|We<|Ws<|WP.quiet S kr kr ?_
 refine QH (int f) x ?_
 refine QH (str d) u<|B h fun r4 ac h=>WQ.call (v:=str r4) rfl (fun w H' hq S=>zER S.holds (hG.post S.post) f d ac) ?_
 refine QH (str d) u<|B h fun l ad h=>WQ.call (v:=boo l) rfl (fun w H' hq S=>zIM S.holds (hG.post S.post) d ad)<|QM ?_
 refine WQ.grp 4 [11,12,13] 14 (boo (l&&((j.length:Int)==0))) ?_ ?_
 ·rcases boolE l with b | b
  ·refine QGy b ?_
   refine QH k z<|QGy b<|QNq aa<|QGy b<|QLe<|QPt b ?_
   exact WQ.nil ⟨(andT b),ag⟩
  refine QGn b<|QGn b<|QGn b<|QPf b ?_
  exact WQ.nil ⟨(andF b),ag⟩
 intro us
 refine QA<|QA<|WQ.nil ?_
 intro w1 H2 ah S
 obtain rfl:=oi h
 refine WP.ret (Out.two rfl S rfl rfl ?_)
 exact rfl
theorem mz342:((Tryz.prog.info? 342).bind (·.zero))=some .nilFunc:=by kernel_rfl
theorem zIZ {u:World} {t:Hp} (hw:Holds u t) (hG:Tryz.Gl u) (c:Int) (o:Str) (ad:(List GParam)) {aa:Value} (d:Sl t aa ad) {r:(Str×Bool)} (h:zDA c o ad=some r) :
  Con Tryz.prog 167 [(int c),(str o),aa] u t (fun H' v=>v=(.tuple ⟨[(str r.1),(boo r.2)]⟩)):=by
 refine CM 36 Tryz.func167 hw fun S=>?_
 refine Ws<|Wg ?_
 refine W.box [(int c)] S rfl rfl ?_
 intro x w2 S
 refine W.box [(str o)] S rfl rfl ?_
 intro j w4 S
 refine W.box [aa] S rfl (congrArg Array.toList (Sl.cellsOne d)) ?_
 intro f w6 S
 refine A<|A<|We<|Ws<|Wg<|W.makeMap S ?_
 intro b7 w8 S
 replace S:St u t _ t [.mp b7 (enci []),.box f 266 [aa],.box j 9 [(str o)],.box x 3 [(int c)]]:=S
 obtain ⟨H9,ap,aq,_,S⟩:=S.settle (i:=2) rfl
 replace S:St u t _ H9 [.mp b7 (enci []),.box f 266 [aa],.box x 3 [(int c)]]:=S
 have l:At H9 ⟨j,0,none⟩ [(str o)]:=⟨_,_,rfl,aq,[],by simp⟩
 have d:=d.up ap
 obtain ⟨ai,ao,au,_,S⟩:=S.settle (i:=1) rfl
 replace S:St u t _ ai [.mp b7 (enci []),.box x 3 [(int c)]]:=S
 have z:At ai ⟨f,0,none⟩ [aa]:=⟨_,_,rfl,au,[],by simp⟩
 have d:=d.up ao
 have l:=At.mono l ao (by simp)
 refine WL.w (R.mkFunc (vs:=[(.pointer (some ⟨j,0,none⟩)),(.pointer (some ⟨f,0,none⟩))]) rfl)<|W.insertI (i:=0) (m:=[]) (k:=1) (v:=.func (.func 238) #[] [(.pointer (some ⟨j,0,none⟩)),(.pointer (some ⟨f,0,none⟩))].toArray) S rfl rfl rfl rfl Tryz.underlying344 Tryz.underlying3 rfl ?_
 intro a5 S
 replace S:St u t _ ai [.mp b7 (enci [(1,(.func (.func 238) #[] [(.pointer (some ⟨j,0,none⟩)),(.pointer (some ⟨f,0,none⟩))].toArray))]),.box x 3 [(int c)]]:=S
 obtain ⟨aj,ak,av,_,S⟩:=S.settle (i:=1) rfl
 replace S:St u t _ aj [.mp b7 (enci [(1,(.func (.func 238) #[] [(.pointer (some ⟨j,0,none⟩)),(.pointer (some ⟨f,0,none⟩))].toArray))])]:=S
 have ab:At aj ⟨x,0,none⟩ [(int c)]:=⟨_,_,rfl,av,[],by simp⟩
 have d:=d.up ak
 have l:=At.mono l ak (by simp)
 have z:=At.mono z ak (by simp)
 refine WL.w (R.mkFunc (vs:=[(.pointer (some ⟨x,0,none⟩)),(.pointer (some ⟨j,0,none⟩)),(.pointer (some ⟨f,0,none⟩))]) rfl)<|W.insertI (i:=0) (m:=[(1,(.func (.func 238) #[] [(.pointer (some ⟨j,0,none⟩)),(.pointer (some ⟨f,0,none⟩))].toArray))]) (k:=2) (v:=.func (.func 241) #[] [(.pointer (some ⟨x,0,none⟩)),(.pointer (some ⟨j,0,none⟩)),(.pointer (some ⟨f,0,none⟩))].toArray) S rfl rfl rfl rfl Tryz.underlying344 Tryz.underlying3 rfl ?_
 intro a6 S
 replace S:St u t _ aj [.mp b7 (enci [(1,(.func (.func 238) #[] [(.pointer (some ⟨j,0,none⟩)),(.pointer (some ⟨f,0,none⟩))].toArray)),(2,(.func (.func 241) #[] [(.pointer (some ⟨x,0,none⟩)),(.pointer (some ⟨j,0,none⟩)),(.pointer (some ⟨f,0,none⟩))].toArray))])]:=S
 refine M<|A<|We<|Ws<|Ws<|Wg<|M ?_
 refine Lq S ab ?_
 rcases condE h with ⟨ae,h⟩ | ⟨ae,h⟩
 ·refine WL.w (v:=.tuple ⟨[(.func (.func 238) #[] [(.pointer (some ⟨j,0,none⟩)),(.pointer (some ⟨f,0,none⟩))].toArray),(boo true)]⟩) (R.lookupI (i:=0) (k:=c) S rfl rfl rfl Tryz.underlying344 Tryz.underlying3 (zLd ae))<|M ?_
  refine Ex ?_
  refine Ex<|A<|A<|We<|Ws<|Wg<|M<|We<|WP.condT (b:=true) rfl rfl ?_
  refine Ws<|Wg<|M<|B h fun a7 aw h=>W.callv S rfl rfl (zHJ S.holds (hG.post S.post) o ad l z d aw) ?_
  rintro a8 a9 ba af S rfl
  have d:=d.up af
  have ab:=At.mono ab af (by simp)
  have l:=At.mono l af (by simp)
  have z:=At.mono z af (by simp)
  refine Ex ?_
  refine Ex<|A<|A<|We ?_
  obtain rfl:=oi h
  refine WP.ret (Out.two rfl S rfl rfl ?_)
  exact rfl
 rcases condE h with ⟨al,h⟩ | ⟨al,h⟩
 ·refine WL.w (v:=.tuple ⟨[(.func (.func 241) #[] [(.pointer (some ⟨x,0,none⟩)),(.pointer (some ⟨j,0,none⟩)),(.pointer (some ⟨f,0,none⟩))].toArray),(boo true)]⟩) (R.lookupI (i:=0) (k:=c) S rfl rfl rfl Tryz.underlying344 Tryz.underlying3 (zH0 ae (zLd al)))<|M ?_
  refine Ex ?_
  refine Ex<|A<|A<|We<|Ws<|Wg<|M<|We<|WP.condT (b:=true) rfl rfl ?_
  refine Ws<|Wg<|M<|B h fun bb ax h=>W.callv S rfl rfl (zHH S.holds (hG.post S.post) c o ad ab l z d ax) ?_
  rintro bc bd be ah S rfl
  have d:=d.up ah
  have ab:=At.mono ab ah (by simp)
  have l:=At.mono l ah (by simp)
  have z:=At.mono z ah (by simp)
  refine Ex ?_
  refine Ex<|A<|A<|We ?_
  obtain rfl:=oi h
  refine WP.ret (Out.two rfl S rfl rfl ?_)
  exact rfl
 refine WL.w (v:=.tuple ⟨[.nilFunc,(boo false)]⟩) (R.lookupIN (i:=0) (k:=c) S rfl rfl rfl Tryz.underlying344 Tryz.underlying3 mz342 (zH0 ae (zH0 al zPK)))<|M ?_
 refine Ex ?_
 refine Ex<|A<|A<|We<|Ws<|Wg<|M<|We<|WP.condF (b:=false) rfl rfl ?_
 refine Wk<|Ws<|WP.quiet S kr kr ?_
 refine QH (int c) ab ?_
 refine QH (str o) l<|B h fun ay az h=>WQ.call (v:=str ay) rfl (fun w H' hq S=>zER S.holds (hG.post S.post) c o az) ?_
 refine QH (str o) l<|B h fun am a0 h=>WQ.call (v:=boo am) rfl (fun w H' hq S=>zEw S.holds (hG.post S.post) o a0)<|QM ?_
 refine WQ.grp 4 [32,33,34] 35 (boo (am&&((ad.length:Int)==0))) ?_ ?_
 ·rcases boolE am with p | p
  ·refine QGy p ?_
   refine QH aa z<|QGy p<|QNq d<|QGy p<|QLe<|QPt p ?_
   exact WQ.nil ⟨(andT p),ag⟩
  refine QGn p<|QGn p<|QGn p<|QPf p ?_
  exact WQ.nil ⟨(andF p),ag⟩
 intro us
 refine QA<|QA<|WQ.nil ?_
 intro bf bg bh S
 obtain rfl:=oi h
 refine WP.ret (Out.two rfl S rfl rfl ?_)
 exact rfl
end Go.Proofs
namespace Go.Proofs
open Go Go.Eng Go.VI Go.Eng.Pure
set_option linter.unusedVariables false
set_option maxRecDepth 10000
set_option maxHeartbeats 4000000
theorem c167:FE.ok (U:=UU) Tryz.prog ⟨167,[.int,.str,(.sl (.st 270))],[.str,.boo],fun x=>zDA x.1 x.2.1 x.2.2⟩:=@fun w H az x y hw hg b hT h=>by
 obtain ⟨c,_,rfl,d,⟨f,_,rfl,i,⟨k,rfl,j⟩⟩⟩:=hT
 obtain rfl:c=_:=d
 obtain rfl:f=_:=i
 exact (zIZ hw b x.1 x.2.1 x.2.2 j h).mono (fun _ _ e=>⟨[_,_],e,_,_,rfl,rfl,⟨_,rfl,rfl⟩⟩)
theorem c166:FE.ok (U:=UU) Tryz.prog ⟨166,[.str],[.int,.boo],fun x=>zBX x⟩:=mk anil (.n .e (.n .e (.n .e (.n .e (.n (.n .e (.lp ⟨[⟨.sl 5,.int,none⟩,⟨.sl 40,.int,none⟩],some [],[]⟩ (some ⟨[⟨.sl 5,.int,none⟩],some [],[]⟩) true .e)) .e))))) Tryz.func166
theorem c165:FE.ok (U:=UU) Tryz.prog ⟨165,[(.st 270)],[.boo],fun x=>zCT x⟩:=mk anil (.e) Tryz.func165
theorem c99:FE.ok (U:=UU) Tryz.prog ⟨99,[.int,.str],[(.st 183),.boo],fun x=>zFW x.1 x.2⟩:=mk (wc w164 (fcons c167 (fcons c166 (fcons c165 (fcons c163 anil))))) (.n .e (.n .e (.n .e (.n .e (.n (.n .e (.n .e (.j ⟨[⟨.sl 7,(.sl (.st 270)),none⟩,⟨.sl 9,.int,none⟩],some [],[]⟩ true .e))) .e))))) Tryz.func99
end Go.Proofs
namespace Go.Proofs
open Go.Eng Go.Eng.Pure
set_option linter.unusedVariables false
theorem zIa {b:World} {c:Hp} (hw:Holds b c) (hG:Tryz.Gl b) (d:(List GField)) (f:Str) {j:Value} (i:Sl c j d) {r:Bool} (h:zA5 d f=some r) :
  Cb Tryz.prog 80 [j,(str f)] b c r:=by
 refine CM 11 Tryz.func80 hw fun S=>?_
 refine Ws<|Wg<|A<|We<|Ws<|Wg<|M<|M<|B h fun k l h=>W.call S rfl (zDC S.holds (hG.post S.post) f l) ?_
 rintro u v x o S ⟨kr1,cr1,rfl,Fr1⟩
 have i:=i.up o
 refine B h fun z p h=>W.call S rfl (zCo S.holds (hG.post S.post) d k i (fun hle=>Fr1 (Hp.le.trans lr hle)) p) ?_
 rintro v7 w8 H9 ad S t
 refine Nq t<|Lc<|A<|We ?_
 exact WP.ret (Rb h S)
end Go.Proofs
namespace Go.Proofs
open Go Go.Eng Go.VI Go.Eng.Pure
set_option linter.unusedVariables false
set_option maxRecDepth 10000
set_option maxHeartbeats 4000000
theorem c80:FE.ok (U:=UU) Tryz.prog ⟨80,[(.sl (.st 41)),.str],[.boo],fun x=>zA5 x.1 x.2⟩:=@fun w H az x y hw hg b hT h=>by
 obtain ⟨i,_,rfl,c,⟨d,rfl,f⟩⟩:=hT
 obtain rfl:d=_:=f
 exact (zIa hw b x.1 x.2 c h).mono (fun _ _ e=>⟨[_],e,_,rfl,rfl⟩)
theorem c52:FE.ok (U:=UU) Tryz.prog ⟨52,[.int,(.sl (.st 41))],[(.sl (.st 183)),.boo],fun x=>zDo x.1 x.2⟩:=mk (fcons c99 (fcons c98 (fcons c80 (fcons c55 anil)))) (.n .e (.n .e (.n .e (.n .e (.n (.n .e (.lp ⟨[⟨.sl 7,(.sl (.st 183)),some 183⟩,⟨.sl 26,.int,none⟩],some [],[]⟩ (some ⟨[⟨.sl 7,(.sl (.st 183)),some 183⟩],some [],[]⟩) false .e)) .e))))) Tryz.func52
theorem c29:FE.ok (U:=UU) Tryz.prog ⟨29,[(.st 62),(.sl (.st 41)),.boo],[(.sl .str)],fun x=>zBD x.1 x.2.1 x.2.2⟩:=mk (fcons c56 (fcons c55 (fcons c54 (fcons c53 (fcons c52 (fcons c51 (fcons c11 anil))))))) (.n .e (.n .e (.n .e (.n (.n .e (.n .e (.j ⟨[⟨.sl 7,(.sl .str),none⟩],some [],[]⟩ false .e))) (.n (.n .e (.j ⟨[⟨.sl 7,(.sl .str),none⟩],some [],[]⟩ false .e)) .e))))) Tryz.func29
theorem zEZ {d:World} {b:Hp} (hw:Holds d b) (hG:Tryz.Gl d) (c:GAxis) (f:(List GField)) (i:Bool) {j:Value} {k:Value} (l:Sl b j c.fValues) (o:Sl b k f) {r:(List Str)} (h:zBD c f i=some r) :
  Con Tryz.prog 29 [(agg [(str c.fName),j]),k,(boo i)] d b (fun H' v=>Sl H' v r):=by
 refine (c29 (xs:=(c,f,i)) (y:=r) hw (fun _ _ e=>by cases e) hG ⟨_,_,rfl,⟨_,rfl,⟨_,rfl,l⟩⟩,⟨_,_,rfl,o,⟨_,rfl,rfl⟩⟩⟩ h).mono ?_
 rintro _ v ⟨_,rfl,D⟩
 obtain ⟨p,rfl,K0⟩:=D
 exact K0
end Go.Proofs
namespace Go.Proofs
open Go.Eng Go.Eng.Pure
set_option linter.unusedVariables false
theorem zGg {b:World} {c:Hp} (hw:Holds b c) (d:Str) (f:UInt8) {r:Int} (h:strings_IndexByte d f=some r) :
  Ci Tryz.prog 95 [(str d),(byt f)] b c r :=
 zP5 Tryz.func95 rfl kr hw h Tryz.strings_IndexByte
end Go.Proofs
namespace Go.Proofs
open Go Go.Eng Go.VI Go.Eng.Pure
set_option linter.unusedVariables false
set_option maxRecDepth 10000
set_option maxHeartbeats 4000000
theorem c95:FE.ok (U:=UU) Tryz.prog ⟨95,[.str,.byt],[.int],fun x=>strings_IndexByte x.1 x.2⟩:=@fun w H az x y hw hg i hT h=>by
 obtain ⟨b,_,rfl,c,⟨d,rfl,f⟩⟩:=hT
 obtain rfl:b=_:=c
 obtain rfl:d=_:=f
 exact (zGg hw x.1 x.2 h).mono (fun _ _ e=>⟨[_],e,_,rfl,rfl⟩)
theorem c48:FE.ok (U:=UU) Tryz.prog ⟨48,[.str],[.boo],fun x=>zFa x⟩:=mk (fcons c95 anil) (.n .e (.n (.n .e (.lp ⟨[⟨.sl 6,.int,none⟩],some [],[]⟩ (some ⟨[],some [],[]⟩) true .e)) .e)) Tryz.func48
theorem c28:FE.ok (U:=UU) Tryz.prog ⟨28,[(.sl .str)],[.str],fun x=>zDb x⟩:=mk (fcons c50 (fcons c49 (fcons c48 anil))) (.n .e (.n .e (.n (.n .e (.lp ⟨[⟨.sl 3,(.sl .str),some 9⟩,⟨.sl 8,.int,none⟩],some [],[]⟩ (some ⟨[⟨.sl 3,(.sl .str),some 9⟩],some [],[]⟩) false (.n .e (.n .e (.n (.n (.n .e (.n (.n .e (.j ⟨[⟨.sl 5,.str,none⟩],some [.sl 3],[]⟩ false .e)) .e)) .e) .e))))) .e))) Tryz.func28
theorem zJt {b:World} {c:Hp} (hw:Holds b c) (hG:Tryz.Gl b) (d:(List Str)) {f:Value} (i:Sl c f d) {r:Str} (h:zDb d=some r) :
  Cs Tryz.prog 28 [f] b c r:=by
 refine (c28 (xs:=(d)) (y:=r) hw (fun _ _ e=>by cases e) hG ⟨_,rfl,i⟩ h).mono ?_
 rintro _ v ⟨_,rfl,D⟩
 obtain ⟨j,rfl,k⟩:=D
 obtain rfl:j=_:=k
 exact rfl
end Go.Proofs
namespace Go.Proofs
open Go.Eng Go.Eng.Pure
set_option linter.unusedVariables false
theorem zJr {o:World} {d:Hp} (hw:Holds o d) (hG:Tryz.Gl o) (x:(List GAxis)) (ah:(List GField)) (ab:Bool) {ac:Value} {z:Value} (j:Sl d ac x) (p:Sl d z ah) {r:Str} (h:zDZ x ah ab=some r) :
  Cs Tryz.prog 12 [ac,z,(boo ab)] o d r:=by
 refine CM 35 Tryz.func12 hw fun S=>?_
 refine Ws<|Wg<|A<|We<|Ws<|Ws<|Wg<|M<|B h fun r1 bz h=>W.call S rfl (zE1 S.holds (hG.post S.post) x j bz) ?_
 rintro v2 w3 H4 b0 S rfl
 have ⟨j,p⟩:=U2 b0 j p
 refine No<|We ?_
 rcases condE h with ⟨a9,h⟩ | ⟨a9,h⟩
 ·refine CT a9<|Ws<|Wg<|A<|We ?_
  exact WP.ret (Rs h S)
 refine CF a9<|Wk<|Ws<|Wg ?_
 refine W.alloc [(.pointer none),(.slice none 0 0)] S zer69 ?_
 intro c w8 S
 refine We<|Ws<|Ws<|Wg<|M<|Nq j<|M<|We ?_
 obtain ⟨v9,bb⟩:∃ v:Value,v=.slice none 0 0:=⟨_,rfl⟩
 have b1:Sl (α:=UInt8) H4 v9 []:=by rw [bb]; exact Sl.nil
 replace S:=(show ∀ {w:World},St o d w H4 [.box c 69 [(.pointer none),(.slice none 0 0)]]→St o d w H4 [.box c 69 [(.pointer none),v9]] from fun S=>by rw [bb]; exact S) S
 replace S:=St.addNilV bb S 5 1
 refine B h fun ap b2 h=>WP.cut (fun f w=>∃ (a2:Hp) (am:Value) (ai:Value),f 7=(ptr c 0)∧(am=Value.pointer none∨am=ptr c 0)∧Sl a2 ai ap∧St o d w a2 [.row ai 5 1 ap.length,.box c 69 [am,ai]]) ?_ ?_
 ·refine Wb ?_
  refine WP.loopM (zB5 x ah ab) (fun s f w=>match s with | (a3,aq)=>∃ (ad:Hp) (aj:Value) (ae:Value),f 1=z∧f 2=(boo ab)∧f 7=(ptr c 0)∧f 13=ac∧f 14=(int (x.length:Int))∧f 15=(int a3)∧Sl ad z ah∧Sl ad ac x∧(aj=Value.pointer none∨aj=ptr c 0)∧Sl ad ae aq∧St o d w ad [.row ae 5 1 aq.length,.box c 69 [aj,ae]]) (0,([]:List UInt8)) ap b2 ?_ ?_
  ·exact ⟨H4,.pointer none,v9,rfl,rfl,rfl,rfl,rfl,rfl,p,j,(Or.inl rfl),b1,S⟩
  intro s f w hI dh k b3
  obtain ⟨a3,aq⟩:=s
  obtain ⟨ad,aj,ae,bp,bq,a4,bc,bd,au,p,j,be,bf,S⟩:=hI
  refine Ws<|Wg<|La' au bd<|We<|Ws ?_
  rcases condE k with ⟨bg,k⟩ | ⟨bg,k⟩
  ·refine CT bg<|Wk<|Ws<|Wb<|Ws<|Wg<|M' au<|B k fun t b4 k=>W.idx (α:=GAxis) j bc au el22 b4 ?_
   rintro di _ b5 ⟨u,rfl,ak⟩
   refine WL.w (R.loadHN (vs:=[(str t.fName),u]) S rfl b5 lay62 rfl rfl) ?_
   refine W.alloc [(str []),(.slice none 0 0)] S zer62 ?_
   intro aa dj S
   refine A ?_
   refine W.store (i:=0) [(str t.fName),u] S rfl rfl rfl lay62 rfl (AllOne.all (l:=[(str t.fName),u]) (.cons rfl (.cons (Sl.oneC ak) .nil))) (Nat.le_of_ble_eq_true kr) rfl ?_
   intro dk S
   refine We<|Ws<|Ws<|Wg<|M<|Lc<|We<|B k fun a5 al k=>WP.cut (fun f w=>∃ (af:Hp) (av:Value) (an:Value),f 1=z∧f 2=(boo ab)∧f 7=(ptr c 0)∧f 9=(ptr aa 0)∧f 13=ac∧f 14=(int (x.length:Int))∧f 15=(int a3)∧Sl af z ah∧Sl af ac x∧Sl af u t.fValues∧(av=Value.pointer none∨av=ptr c 0)∧Sl af an a5∧St o d w af [.box aa 62 [(str t.fName),u],.row an 5 1 a5.length,.box c 69 [av,an]]) ?_ ?_
   ·rcases condE al with ⟨bh,al⟩ | ⟨bh,al⟩
    ·refine CT bh<|Wg ?_
     replace S:=S.front 1 rfl
     replace S:=S.front 2 rfl
     replace S:St o d _ ad [.box c 69 [aj,ae],.row ae 5 1 aq.length,.box aa 62 [(str t.fName),u]]:=S
     refine B al fun br b6 al=>W.callS (mapC a4 (mapC rfl mapN)) (zAH hG [44,32] aq S bf be b6) ?_
     rintro dl dm bi dn b8 S ⟨bj,aw,rfl,rfl,b9,ca⟩
     replace S:St o d _ bi [.box c 69 [bj,aw],.row aw 5 1 br.2.2.length,.box aa 62 [(str t.fName),u]]:=S
     replace S:=S.front 1 rfl
     replace S:=S.front 2 rfl
     replace S:St o d _ bi [.box aa 62 [(str t.fName),u],.row aw 5 1 br.2.2.length,.box c 69 [bj,aw]]:=S
     have ⟨p,j,ak⟩:=U3 b8 p j ak
     refine We ?_
     obtain rfl:=oi al
     exact ⟨bi,bj,aw,bp,bq,a4,rfl,bc,bd,au,p,j,ak,b9,ca,S⟩
    refine CF bh<|Wk ?_
    obtain rfl:=oi al
    exact ⟨ad,aj,ae,bp,bq,a4,rfl,bc,bd,au,p,j,ak,be,bf,S⟩
   rintro f w ⟨af,av,an,bs,bt,bu,bv,cb,cc,cd,p,j,ak,ce,ax,S⟩
   refine B k fun cf cg k=>B k fun ch ci k=>B k fun cj ck k=>B k fun cl cm k=>B k fun a6 cn k=>WP.cut (fun f w=>∃ (ao:Hp) (ay:Value) (az:Value),f 1=z∧f 2=(boo ab)∧f 7=(ptr c 0)∧f 13=ac∧f 14=(int (x.length:Int))∧f 15=(int a3)∧Sl ao z ah∧Sl ao ac x∧(az=Value.pointer none∨az=ptr c 0)∧Sl ao ay a6.2.2∧St o d w ao [.row ay 5 1 a6.2.2.length,.box c 69 [az,ay]]) ?_ ?_
   ·refine WP.drawC (Cl o d af [.box aa 62 [(str t.fName),u]]) kr 10 rfl (bm 10 0) rfl ?_
    have S:=S.drew
    refine Ct 0 10 1 rfl (fun _ _=>(R.fieldB bv zMq)) ?_
    refine Ct 1 10 3 rfl (fun w hw=>by obtain ⟨_,hq,S⟩:=hw; exact (R.loadB (i:=0) (v:=str t.fName) S rfl rfl lay9 rfl)) ?_
    refine Ct 2 10 7 rfl (fun _ _=>(R.cat (a:=t.fName) (b:=[61]) rfl rfl cg)) ?_
    refine Ct 3 10 15 rfl (fun w hw=>by obtain ⟨_,hq,S⟩:=hw; exact (R.loadBN (i:=0) (vs:=[(str t.fName),u]) S bv rfl lay62 rfl rfl)) ?_
    refine Ct 4 10 31 rfl (fun _ _=>(R.mv (v:=z) bs)) ?_
    refine Ct 5 10 63 rfl (fun _ _=>(R.mv (v:=boo ab) bt)) ?_
    refine Cx [6] ⟨af,lr,(S.pk [0])⟩ (all1 ?_)
    refine Nx 10 127 rfl<|W.call S rfl (zEZ S.holds (hG.post S.post) t ah ab ak p ci) ?_
    rintro dp dq co a7 S cp
    have ⟨p,j,ax⟩:=U3 a7 p j ax
    refine We ?_
    refine Cx [7] ⟨co,a7,(S.pk [0])⟩ (all1 ?_)
    refine Nx 10 255 rfl<|W.call S rfl (zJt S.holds (hG.post S.post) ch cp ck) ?_
    rintro dr ds bw bn S rfl
    have ⟨p,j,ax⟩:=U3 bn p j ax
    refine We ?_
    refine Ct 8 10 511 rfl (fun _ _=>(R.cat (a:=cf) (b:=cj) rfl rfl cm)) ?_
    refine Cx [9] ⟨bw,(a7.trans bn),(S.pk [0])⟩ (all1 ?_)
    refine Nx 10 1023 rfl ?_
    replace S:=S.front 1 rfl
    replace S:=S.front 2 rfl
    replace S:St o d _ bw [.box c 69 [av,an],.row an 5 1 a5.length,.box aa 62 [(str t.fName),u]]:=S
    refine W.callS (mapC bu (mapC rfl mapN)) (zAH hG cl a5 S ax ce cn) ?_
    rintro dt du a8 dw bx S ⟨bo,a0,rfl,rfl,cq,cr⟩
    replace S:St o d _ a8 [.box c 69 [bo,a0],.row a0 5 1 a6.2.2.length,.box aa 62 [(str t.fName),u]]:=S
    replace S:=S.front 1 rfl
    replace S:=S.front 2 rfl
    replace S:St o d _ a8 [.box aa 62 [(str t.fName),u],.row a0 5 1 a6.2.2.length,.box c 69 [bo,a0]]:=S
    have ⟨p,j⟩:=U2 bx p j
    refine We<|WC.done ⟨a8,((a7.trans bn).trans bx),(S.pk [0])⟩ kr ?_
    exact ⟨a8,a0,bo,bs,bt,bu,cb,cc,cd,p,j,cq,cr,(S.pk [1,2])⟩
   rintro f w ⟨ao,ay,az,cs,ct,cu,cv,cw,cx,cy,cz,c0,c1,S⟩
   refine Wg<|Lg' cx rfl<|M<|We ?_
   obtain rfl:=oi k
   exact ⟨rfl,⟨ao,az,ay,cs,ct,cu,cv,cw,rfl,cy,cz,c0,c1,S⟩⟩
  refine CF bg<|Wx ?_
  obtain rfl:=oi k
  obtain rfl:=b3
  exact ⟨ad,aj,ae,a4,be,bf,S⟩
 rintro f w ⟨a2,am,ai,c2,c3,c7,S⟩
 refine Ws<|Wg ?_
 replace S:=S.front 1 rfl
 replace S:St o d _ a2 [.box c 69 [am,ai],.row ai 5 1 ap.length]:=S
 refine B h fun dx da h=>W.callS (mapC c2 mapN) (zAr hG ap S c7 c3 da) ?_
 rintro dy dz db d0 d1 S ⟨rfl,rfl⟩
 replace S:St o d _ db [.box c 69 [am,ai]]:=S
 refine A<|We ?_
 exact WP.ret (Rs h S)
end Go.Proofs
namespace Go.Proofs
open Go Go.Eng Go.VI Go.Eng.Pure
set_option linter.unusedVariables false
set_option maxRecDepth 10000
set_option maxHeartbeats 4000000
theorem c12:FE.ok (U:=UU) Tryz.prog ⟨12,[(.sl (.st 62)),(.sl (.st 41)),.boo],[.str],fun x=>zDZ x.1 x.2.1 x.2.2⟩:=@fun w H az x y hw hg b hT h=>by
 obtain ⟨j,_,rfl,c,⟨k,_,rfl,d,⟨f,rfl,i⟩⟩⟩:=hT
 obtain rfl:f=_:=i
 exact (zJr hw b x.1 x.2.1 x.2.2 c d h).mono (fun _ _ e=>⟨[_],e,_,rfl,rfl⟩)
theorem c6:FE.ok (U:=UU) Tryz.prog ⟨6,[(.sl (.st 62)),(.sl (.st 41)),(.sl (.st 41)),.boo],[.boo],fun x=>zIJ x.1 x.2.1 x.2.2.1 x.2.2.2⟩:=mk (fcons c12 (fcons c11 anil)) (.e) Tryz.func6
theorem c116:FE.ok (U:=UU) Tryz.prog ⟨116,[(.st 25)],[(.st 25)],fun x=>zMh x⟩:=mk (fcons c186 (fcons c140 anil)) (.n .e (.n .e (.n (.n .e (.lp ⟨[⟨.sl 13,.int,none⟩,⟨.cs 3 0,(.sl (.st 62)),none⟩,⟨.cs 3 1,(.sl (.st 38)),some 38⟩],some [],[]⟩ (some ⟨[⟨.cs 3 0,(.sl (.st 62)),none⟩,⟨.cs 3 1,(.sl (.st 38)),some 38⟩],some [],[]⟩) false .e)) .e))) Tryz.func116 [(5,5,[.t 0,.t 1,.t 2,.l 3 true,.l 4 true,.l 5 false,.l 6 false,.l 7 false])]
theorem c81:FE.ok (U:=UU) Tryz.prog ⟨81,[(.sl (.st 41)),.int,.str],[(.sl (.st 41))],fun x=>zPg x.1 x.2.1 x.2.2⟩:=mk (fcons c124 anil) (.e) Tryz.func81
theorem c259:FE.ok (U:=UU) Tryz.prog ⟨259,[.byt],[.boo],fun x=>zCl x⟩:=mk anil (.e) Tryz.func259
theorem c258:FE.ok (U:=UU) Tryz.prog ⟨258,[.byt],[.int],fun x=>zFI x⟩:=mk (fcons c95 (fcons c25 anil)) (.e) Tryz.func258
theorem c180:FE.ok (U:=UU) Tryz.prog ⟨180,[.str],[.str,.boo],fun x=>zIc x⟩:=mk (fcons c259 (fcons c258 (fcons c95 anil))) (.n .e (.n .e (.n (.n .e (.lp ⟨[⟨.sl 4,(.sl .byt),some 5⟩,⟨.sl 5,.int,none⟩],some [],[]⟩ (some ⟨[⟨.sl 4,(.sl .byt),some 5⟩],some [],[]⟩) true .e)) .e))) Tryz.func180 [(15,6,[.t 0,.t 1,.t 2,.t 3,.t 4,.l 5 true,.l 6 false,.l 7 false])]
theorem c176:FE.ok (U:=UU) Tryz.prog ⟨176,[.str],[.boo],fun x=>zJW x⟩:=mk (fcons c97 anil) (.e) Tryz.func176
theorem c222:FE.ok (U:=UU) Tryz.prog ⟨222,[.str,(.sl .str)],[.boo],fun x=>zHP x.1 x.2⟩:=mk (fcons c97 anil) (.n .e (.n (.n .e (.lp ⟨[⟨.sl 9,.int,none⟩],some [],[]⟩ (some ⟨[],some [],[]⟩) true .e)) .e)) Tryz.func222
theorem c152:FE.ok (U:=UU) Tryz.prog ⟨152,[(.st 84)],[(.st 84)],fun x=>zIf x⟩:=mk (fcons c222 anil) (.n .e (.n .e (.n (.n .e (.lp ⟨[⟨.sl 12,.int,none⟩,⟨.cs 3 0,.int,none⟩,⟨.cs 3 1,.int,none⟩,⟨.cs 3 2,.str,none⟩,⟨.cs 3 3,(.sl (.st 41)),some 41⟩,⟨.cs 3 4,.str,none⟩],some [],[]⟩ (some ⟨[⟨.cs 3 0,.int,none⟩,⟨.cs 3 1,.int,none⟩,⟨.cs 3 2,.str,none⟩,⟨.cs 3 3,(.sl (.st 41)),some 41⟩,⟨.cs 3 4,.str,none⟩],some [],[]⟩) false .e)) .e))) Tryz.func152
theorem c260:FE.ok (U:=UU) Tryz.prog ⟨260,[.byt],[.boo],fun x=>zGH x⟩:=mk (fcons c259 anil) (.e) Tryz.func260
theorem c181:FE.ok (U:=UU) Tryz.prog ⟨181,[.str],[.str,.int,.boo],fun x=>zIY x⟩:=mk (fcons c260 (fcons c179 (fcons c134 (fcons c25 anil)))) (.n .e (.n .e (.n (.n .e (.lp ⟨[⟨.sl 20,.int,none⟩],some [],[]⟩ (some ⟨[],some [],[]⟩) true .e)) (.n .e (.n .e (.n (.n .e (.j ⟨[⟨.sl 9,.int,none⟩],some [],[]⟩ true .e)) .e)))))) Tryz.func181
end Go.Proofs
namespace Go.Proofs
open Go.Eng Go.Eng.Pure
set_option linter.unusedVariables false
theorem zSY:zer Tryz.prog 105=some [(.map none)]:=by kernel_rfl
theorem zJ5:lay Tryz.prog 105=some (false,1):=by kernel_rfl
instance:Lay Tryz.prog 105 (false,1):=⟨zJ5⟩
theorem zGf {f ws:World} {h Hs:Hp} {i:List Ent} (S:St f h ws Hs i) (s sep:Str) (n:Int) :
  ConS Tryz.prog 220 [str s,str sep,int n] f h ws Hs i (fun H' v L'=>∃ b c d:Nat,L'=[.box b 9 [str sep],.box c 9 [str s],.box d 3 [int n]]∧v=.func (.func 273) #[] [ptr b 0,ptr c 0,ptr d 0].toArray):=by
 refine ConS.mk (N:=8) Tryz.func220 rfl rfl kr rfl<|Ws<|Wg ?_
 refine W.box [str s] S rfl rfl ?_
 intro c j S
 refine W.box [str sep] S rfl rfl ?_
 intro b k S
 refine W.box [int n] S rfl rfl ?_
 intro d l S
 refine A<|We<|Ws<|Wg ?_
 refine WL.w (R.mkFunc (vs:=[ptr b 0,ptr c 0,ptr d 0]) rfl)<|A<|We ?_
 have S3:=(S.front 2 rfl).front 2 rfl
 refine WP.ret (OutS.one (L':=[.box b 9 [str sep],.box c 9 [str s],.box d 3 [int n]]) rfl lr S3 rfl ?_)
 exact ⟨_,_,_,rfl,rfl⟩
theorem zD4 {f ws:World} {h Hs:Hp} {i:List Ent} (S:St f h ws Hs i) (s sep:Str) :
  ConS Tryz.prog 150 [str s,str sep] f h ws Hs i (fun H' v L'=>∃ b c d:Nat,L'=[.box b 9 [str sep],.box c 9 [str s],.box d 3 [int 0]]∧v=.func (.func 273) #[] [ptr b 0,ptr c 0,ptr d 0].toArray):=by
 refine ConS.mk (N:=8) Tryz.func150 rfl rfl kr rfl<|Ws<|Wg<|A<|We<|Ws<|Wg<|M<|M<|W.callS rfl (zGf S s sep 0) ?_
 rintro _ j k _ hle S ⟨b,c,d,rfl,rfl⟩
 refine WL.w (R.as rfl)<|We ?_
 refine WP.ret (OutS.one rfl hle S rfl ?_)
 exact ⟨_,_,_,rfl,rfl⟩
theorem zDQ {j ws:World} {u Hs:Hp} {L2:List Ent} (hG:Tryz.Gl j) {s:Str} {c:UInt8} {o d p l bm TB q t:Nat} {r:Loop} {m:List (Str×Bool)} (E:List (Str×Bool)→Str→List (Str×Bool)) (hl:s.length≤1073741824)
  (hp:r.params=#[t])
  (hY:∀ (k:Str) (m:List (Str×Bool)) (w:World) (H:Hp) (L:List Ent),St j u w H (.obj l (.loop r) :: .box bm TB [mapv q] :: .mp q (encm boo m) :: L) →
   RoundIn Fence.wide 0 Tryz.prog l r.fn ((r.params.zip #[str k]).foldl (fun tmps (t,a)=>tmps.setIfInBounds t a) r.tmps) r.assign r.body w (fun e w'=>e=.returned (.bool true)∧St j u w' H (.obj l (.loop r) :: .box bm TB [mapv q] :: .mp q (encm boo (E m k)) :: L)))
  (S:St j u ws Hs (.obj l (.loop r) :: .box bm TB [mapv q] :: .mp q (encm boo m) :: .box o 9 [str [c]] :: .box d 9 [str s] :: .box p 3 [int 0] :: L2)) :
  ConS Tryz.prog 273 [.func (.yield l) #[] #[],ptr o 0,ptr d 0,ptr p 0] j u ws Hs L2 (fun H' v L'=>∃ s',L'=[.obj l (.loop r),.box bm TB [mapv q],.mp q (encm boo ((pieces c s).foldl E m)),.box o 9 [str [c]],.box d 9 [str s'],.box p 3 [int 0]]∧v=.tuple #[]):=by
 refine ConS.mk (N:=52) Tryz.func273 rfl rfl kr rfl<|Ws<|Ws<|Wg ?_
 refine Lo 3 S<|Ns ?_
 refine WL.w (v:=boo false) (R.ofEq (R.eql (a:=1) (b:=0) rfl rfl) rfl)<|We<|WP.condF (b:=false) rfl rfl<|Wk<|Ws ?_
 refine WP.cut (fun f w=>∃ (s':Str) (m':List (Str×Bool)) (H:Hp),f 0=.func (.yield l) #[] #[]∧f 2=ptr d 0∧Hs.le H∧E m' s'=(pieces c s).foldl E m∧St j u w H (.obj l (.loop r) :: .box bm TB [mapv q] :: .mp q (encm boo m') :: .box o 9 [str [c]] :: .box d 9 [str s'] :: .box p 3 [int 0] :: L2)) ?_ ?_
 ·refine Wb ?_
  refine WP.loopK (fun (x:Str×List (Str×Bool)) f w=>∃ (H:Hp),f 0=.func (.yield l) #[] #[]∧f 1=ptr o 0∧f 2=ptr d 0∧f 3=ptr p 0∧Hs.le H∧x.1.length≤1073741824∧(pieces c x.1).foldl E x.2=(pieces c s).foldl E m ∧
    St j u w H (.obj l (.loop r) :: .box bm TB [mapv q] :: .mp q (encm boo x.2) :: .box o 9 [str [c]] :: .box d 9 [str x.1] :: .box p 3 [int 0] :: L2)) (fun x=>x.1.length) (s,m) ⟨Hs,rfl,rfl,rfl,rfl,Hp.le.refl _,hl,rfl,S⟩ ?_
  rintro ⟨x,y⟩ f w ⟨H,z,h1,h,h3,hle,hlx,hE,S⟩
  simp only at hlx hE
  refine Wb<|Ws<|Wg ?_
  refine Lo' 4 S h ?_
  refine Lo' 3 S h1<|W.call S rfl (zD2 S.holds (hG.post S.post) x [c] (r:=Lib.indexByte x c) rfl) ?_
  rintro _ w1 H1 ae S rfl
  refine A<|We<|Ws<|Ws<|Wg<|M<|La<|We ?_
  rcases zJI x c with ⟨hi,hno⟩ | ⟨a,b,rfl,hno,hi⟩
  ·refine WP.condT (b:=decide (Lib.indexByte x c<0)) rfl (by rw [hi]; rfl)<|Wx ?_
   refine ⟨x,y,H1,z,h,hle.trans ae,?_,S⟩
   rw [← hE,zJm c x hno]; rfl
  have hla:a.length+1+b.length≤1073741824:=by simp only [List.length_append,List.length_cons] at hlx; omega
  refine WP.condF (b:=decide (Lib.indexByte (a++c :: b) c<0)) rfl (by rw [hi]; exact decide_eq_false (by omega))<|Wk<|Ws<|Wg ?_
  refine Lo' 4 S h ?_
  refine WL.w (R.mv (v:=int a.length) (by rw [← hi]; rfl)) ?_
  refine Lo' 5 S h3 ?_
  refine WL.w (v:=int a.length) (R.ofEq (R.add rfl rfl) (by rw [Int.add_zero,wr_eq (by omega)]))<|Jd (zQ7 a b c)<|A<|We<|Ws ?_
  refine Ws<|WP.regionY [0,1,2,3] rfl ?_
  refine WY.valw rfl (R.mv (v:=.func (.yield l) #[] #[]) z) ?_
  refine WY.valw rfl (R.mv (v:=str a) rfl)<|WY.yield rfl rfl rfl (S.objAt (i:=0) rfl) (by rw [hp]; rfl) (hY a y w1 H1 _ S) ?_
  intro w2 S
  refine WY.valw rfl (R.not (b:=true) rfl)<|WY.nil<|WP.condF (b:=false) rfl rfl<|Wk<|Wg ?_
  refine Lo' 4 S h ?_
  refine WL.w (R.mv (v:=int a.length) (by rw [← hi]; rfl)) ?_
  refine Lo' 3 S h1<|Ns ?_
  refine WL.w (v:=int ((a.length+1:Nat):Int)) (R.ofEq (R.add rfl rfl) (by rw [wr_eq (by simp; omega)]; rfl))<|Jc (zPp a b c) ?_
  refine W.store (i:=4) [str b] S h rfl rfl lay9 rfl rfl (Nat.le_of_ble_eq_true kr) rfl ?_
  intro w3 S
  refine We ?_
  refine ⟨(b,E y a),by simp; omega,H1,z,h1,h,h3,hle.trans ae,by simp; omega,?_,S⟩
  rw [← hE,zI6 c a b hno]; rfl
 rintro f w ⟨s',m',H,z,h,hle,hE,S⟩
 refine WP.regionY [0,1,2] rfl ?_
 refine WY.valw rfl (R.mv (v:=.func (.yield l) #[] #[]) z) ?_
 refine WY.valw rfl (R.loadB (i:=4) (v:=str s') S h rfl lay9 rfl)<|WY.yield rfl rfl rfl (S.objAt (i:=0) rfl) (by rw [hp]; rfl) (hY s' m' w H _ S) ?_
 intro w2 S
 refine WY.nil<|OutS.zero (L':=[.obj l (.loop r),.box bm TB [mapv q],.mp q (encm boo (E m' s')),.box o 9 [str [c]],.box d 9 [str s'],.box p 3 [int 0]]) (.inr rfl) rfl hle S ?_
 exact ⟨s',by rw [hE],rfl⟩
theorem zLe {j:World} {l:Hp} (hw:Holds j l) (hG:Tryz.Gl j) (x:(List GField)) {aa:Value} (b:Sl l aa x) {r:(List GField)} (h:zJR x=some r) :
  Con Tryz.prog 82 [aa] j l (fun H' v=>Sl H' v r):=by
 refine Con.mkR (N:=49) Tryz.func82 rfl rfl kr rfl ?_
 have S:=St.start hw
 refine WPR.seq<|WPR.of<|Wg<|A<|We<|WPR.seq<|WPR.of<|Wg<|W.makeMap S ?_
 intro c w2 S
 refine W.alloc [(.map none)] S zSY ?_
 intro o w4 S
 refine W.store (i:=0) [(mapv c)] S rfl rfl rfl zJ5 rfl rfl (Nat.le_of_ble_eq_true kr) rfl ?_
 intro w5 S
 refine We<|WPR.seq<|WPR.of<|Ws<|Wg<|M<|B h fun r6 bq h=>W.call S rfl (zHG S.holds (hG.post S.post) x [67,111,110,110,101,99,116,105,111,110] b bq) ?_
 rintro v7 w8 H9 bs S ab
 have b:=b.up bs
 refine Nq ab<|M<|We<|B h fun ah bt h=>WP.cut (fun f w=>∃ (aw:Hp),f 0=aa∧f 3=(ptr o 0)∧Sl aw aa x∧St j l w aw [.box o 105 [(mapv c)],.mp c (encm boo ah)]) ?_ ?_
 ·refine Wb ?_
  refine WP.loopM (zIO r6) (fun s f w=>match s with | (bf,ax)=>∃ (ae:Hp),f 0=aa∧f 3=(ptr o 0)∧f 13=v7∧f 14=(int (r6.length:Int))∧f 15=(int bf)∧Sl ae aa x∧Sl ae v7 r6∧St j l w ae [.box o 105 [(mapv c)],.mp c (encm boo ax)]) (0,([]:List (Str×Bool))) ah bt ?_ ?_
  ·exact ⟨H9,rfl,rfl,rfl,rfl,rfl,b,ab,S⟩
  intro s f w hI cz t bu
  obtain ⟨bf,ax⟩:=s
  obtain ⟨ae,bg,ay,bh,bi,az,b,ab,S⟩:=hI
  refine Ws<|Wg<|La' az bi<|We<|Ws ?_
  rcases condE t with ⟨a0,t⟩ | ⟨a0,t⟩
  ·refine CT a0<|Wk<|Ws<|Wb<|Ws<|Wg<|B t fun bv bw t=>W.idx (α:=Str) ab bh az el36 bw ?_
   rintro c0 _ bx rfl
   refine Lq S bx<|A<|We<|WP.quietTail 3 S kr kr ?_
   refine WQ.val (fun w hw=>by obtain ⟨_,hq,S⟩:=hw; exact (R.loadB (i:=0) (v:=mapv c) S ay rfl zJ5 rfl))<|QM<|B t fun bz b0 t=>WQ.call (v:=str bz) rfl (fun w H' hq S=>zA7 S.holds (hG.post S.post) bv b0)<|WQ.nil ?_
   intro c1 b2 b4 S
   have ⟨b,ab⟩:=U2 b4 b ab
   refine W.mapUpdate boo (i:=1) (m:=ax) true S rfl rfl rfl rfl rfl Tryz.underlying105 Tryz.underlying9 ?_
   intro c2 S
   refine We<|Wg<|Lg' az rfl<|M<|We ?_
   obtain rfl:=oi t
   exact ⟨rfl,⟨b2,bg,ay,bh,bi,rfl,b,ab,S⟩⟩
  refine CF a0<|Wx ?_
  obtain rfl:=oi t
  obtain rfl:=bu
  exact ⟨ae,bg,ay,b,S⟩
 rintro f w ⟨aw,b5,a1,b,S⟩
 refine WPR.seq<|WPR.seq<|WPR.of<|Wg<|W.callS rfl (zD4 S [104,111,115,116,32,99,97,99,104,101,45,99,111,110,116,114,111,108,32,118,97,114,121,32,118,97,114,105,97,110,116,115,32,118,97,114,105,97,110,116,45,107,101,121,32,118,105,97] [32]) ?_
 rintro _ c3 bj _ b6 S ⟨ai,aj,ak,rfl,rfl⟩
 replace S:St j l _ bj [.box ai 9 [(str [32])],.box aj 9 [(str [104,111,115,116,32,99,97,99,104,101,45,99,111,110,116,114,111,108,32,118,97,114,121,32,118,97,114,105,97,110,116,115,32,118,97,114,105,97,110,116,45,107,101,121,32,118,105,97])],.box ak 3 [(int 0)],.box o 105 [(mapv c)],.mp c (encm boo ah)]:=S
 have b:=b.up b6
 refine We<|WPR.block ?_
 replace S:=S.front 2 rfl
 replace S:=S.front 2 rfl
 replace S:=S.front 2 rfl
 replace S:=S.front 4 rfl
 replace S:=S.front 4 rfl
 replace S:St j l _ bj [.box o 105 [(mapv c)],.mp c (encm boo ah),.box ai 9 [(str [32])],.box aj 9 [(str [104,111,115,116,32,99,97,99,104,101,45,99,111,110,116,114,111,108,32,118,97,114,121,32,118,97,114,105,97,110,116,115,32,118,97,114,105,97,110,116,45,107,101,121,32,118,105,97])],.box ak 3 [(int 0)]]:=S
 refine B h fun a2 b7 h=>WPR.range (caps:=[(ptr ai 0),(ptr aj 0),(ptr ak 0)]) S rfl (zFQ Tryz.func273 rfl kr) ?_
 intro fn ac c7 S
 replace S:=S.front 3 rfl
 replace S:=S.front 3 rfl
 replace S:=S.front 2 rfl
 replace S:=S.front 6 rfl
 replace S:=S.front 6 rfl
 replace S:=S.front 6 rfl
 replace S:=S.front 5 rfl
 replace S:=S.front 5 rfl
 replace S:=S.front 5 rfl
 refine Calls.mono (zDQ hG (fun m k=>mdel m k) (Nat.le_of_ble_eq_true kr) rfl (by exact fun k m w H L S=>Round.del S ⟨rfl,a1,rfl,rfl,rfl⟩ (i1:=0) (i2:=1) rfl rfl zJ5 rfl Tryz.underlying105 Tryz.underlying9) S).2 ?_
 rintro _ da ⟨v,bn,L3,rfl,b9,S,s9,rfl,rfl⟩
 refine ⟨_,rfl,bn,_,S,?_⟩
 intro db S
 rw [oi b7] at S
 replace S:St j l _ bn [.box o 105 [(mapv c)],.mp c (encm boo a2),.box ai 9 [(str [32])],.box aj 9 [(str s9)],.box ak 3 [(int 0)],.obj ac (.deferred (some []))]:=S
 replace S:=(S.pk [0,1,5])
 have b:=b.up b9
 refine WPR.seq<|WPR.seq<|WPR.of<|Wg<|W.callS rfl (zD4 S [99,111,110,110,101,99,116,105,111,110,32,107,101,101,112,45,97,108,105,118,101,32,112,114,111,120,121,45,99,111,110,110,101,99,116,105,111,110,32,112,114,111,120,121,45,97,117,116,104,101,110,116,105,99,97,116,101,32,112,114,111,120,121,45,97,117,116,104,111,114,105,122,97,116,105,111,110,32,116,101,32,116,114,97,105,108,101,114,32,116,114,97,110,115,102,101,114,45,101,110,99,111,100,105,110,103,32,99,111,110,116,101,110,116,45,108,101,110,103,116,104,32,117,112,103,114,97,100,101] [32]) ?_
 rintro _ dc bo _ ca S ⟨al,am,an,rfl,rfl⟩
 replace S:St j l _ bo [.box al 9 [(str [32])],.box am 9 [(str [99,111,110,110,101,99,116,105,111,110,32,107,101,101,112,45,97,108,105,118,101,32,112,114,111,120,121,45,99,111,110,110,101,99,116,105,111,110,32,112,114,111,120,121,45,97,117,116,104,101,110,116,105,99,97,116,101,32,112,114,111,120,121,45,97,117,116,104,111,114,105,122,97,116,105,111,110,32,116,101,32,116,114,97,105,108,101,114,32,116,114,97,110,115,102,101,114,45,101,110,99,111,100,105,110,103,32,99,111,110,116,101,110,116,45,108,101,110,103,116,104,32,117,112,103,114,97,100,101])],.box an 3 [(int 0)],.box o 105 [(mapv c)],.mp c (encm boo a2),.obj ac (.deferred (some []))]:=S
 have b:=b.up ca
 refine We<|WPR.block ?_
 replace S:=S.front 5 rfl
 replace S:=S.front 3 rfl
 replace S:=S.front 3 rfl
 replace S:=S.front 3 rfl
 replace S:=S.front 5 rfl
 replace S:=S.front 5 rfl
 replace S:St j l _ bo [.box o 105 [(mapv c)],.mp c (encm boo a2),.box al 9 [(str [32])],.box am 9 [(str [99,111,110,110,101,99,116,105,111,110,32,107,101,101,112,45,97,108,105,118,101,32,112,114,111,120,121,45,99,111,110,110,101,99,116,105,111,110,32,112,114,111,120,121,45,97,117,116,104,101,110,116,105,99,97,116,101,32,112,114,111,120,121,45,97,117,116,104,111,114,105,122,97,116,105,111,110,32,116,101,32,116,114,97,105,108,101,114,32,116,114,97,110,115,102,101,114,45,101,110,99,111,100,105,110,103,32,99,111,110,116,101,110,116,45,108,101,110,103,116,104,32,117,112,103,114,97,100,101])],.box an 3 [(int 0)],.obj ac (.deferred (some []))]:=S
 refine B h fun ao cb h=>WPR.range (caps:=[(ptr al 0),(ptr am 0),(ptr an 0)]) S rfl (zFQ Tryz.func273 rfl kr) ?_
 intro fn ap dd S
 replace S:=S.front 3 rfl
 replace S:=S.front 3 rfl
 replace S:=S.front 2 rfl
 replace S:=S.front 6 rfl
 replace S:=S.front 6 rfl
 replace S:=S.front 6 rfl
 replace S:=S.front 5 rfl
 replace S:=S.front 5 rfl
 replace S:=S.front 5 rfl
 refine Calls.mono (zDQ hG (fun m k=>mset m k true) (Nat.le_of_ble_eq_true kr) rfl (by exact fun k m w H L S=>Round.set S ⟨rfl,a1,rfl,rfl,rfl⟩ (i1:=0) (i2:=1) rfl rfl zJ5 Tryz.underlying105 Tryz.underlying9) S).2 ?_
 rintro _ de ⟨v,a4,L3,rfl,cc,S,s9,rfl,rfl⟩
 refine ⟨_,rfl,a4,_,S,?_⟩
 intro df S
 rw [oi cb] at S
 replace S:St j l _ a4 [.box o 105 [(mapv c)],.mp c (encm boo ao),.box al 9 [(str [32])],.box am 9 [(str s9)],.box an 3 [(int 0)],.obj ap (.deferred (some [])),.obj ac (.deferred (some []))]:=S
 replace S:=(S.pk [0,1,5,6])
 have b:=b.up cc
 refine WPR.of<|Ws<|Wg<|A<|We<|Ws<|Ws<|Wg<|M' b5<|Nq b<|M<|We ?_
 have S:=S.addNil 41 2
 refine B h fun a5 cd h=>WP.cut (fun f w=>∃ (a6:Hp) (aq:Value),f 8=aq∧Sl a6 aq a5∧St j l w a6 [.row aq 41 2 a5.length,.obj ap (.deferred (some [])),.obj ac (.deferred (some []))]) ?_ ?_
 ·refine Wb ?_
  refine WP.loopM (zIQ x ao) (fun s f w=>match s with | (a7,bp)=>∃ (af:Hp) (ad:Value),f 3=(ptr o 0)∧f 8=ad∧f 31=aa∧f 32=(int (x.length:Int))∧f 33=(int bp)∧Sl af ad a7∧Sl af aa x∧St j l w af [.row ad 41 2 a7.length,.box o 105 [(mapv c)],.mp c (encm boo ao),.obj ap (.deferred (some [])),.obj ac (.deferred (some []))]) (([]:List GField),0) a5 cd ?_ ?_
  ·exact ⟨a4,.slice none 0 0,a1,rfl,rfl,rfl,rfl,Sl.nil,b,S⟩
  intro s f w hI dh d ce
  obtain ⟨a7,bp⟩:=s
  obtain ⟨af,ad,a8,a9,ba,bb,au,u,b,S⟩:=hI
  refine Ws<|Wg<|La' au bb<|We<|Ws ?_
  rcases condE d with ⟨bc,d⟩ | ⟨bc,d⟩
  ·refine CT bc<|Wk<|Ws<|Wb<|Ws<|Wg<|B d fun p cf d=>W.idx (α:=GField) b ba au el26 cf ?_
   rintro di _ cg rfl
   refine WL.w (R.loadHN (vs:=[(str p.fName),(str p.fValue)]) S rfl cg lay41 rfl rfl) ?_
   refine W.alloc [(str []),(str [])] S zer41 ?_
   intro dj dk S
   refine W.store (i:=0) [(str p.fName),(str p.fValue)] S rfl rfl rfl lay41 rfl rfl (Nat.le_of_ble_eq_true kr) rfl ?_
   intro dl S
   refine We<|Ws<|WP.quiet S kr kr ?_
   refine WQ.val (fun w hw=>by obtain ⟨_,hq,S⟩:=hw; exact (R.loadB (i:=2) (v:=mapv c) S a8 rfl zJ5 rfl))<|QFb ?_
   refine QB 0 (str p.fName)<|B d fun ch ci d=>WQ.call (v:=str ch) rfl (fun w H' hq S=>zA7 S.holds (hG.post S.post) p.fName ci)<|B d fun g103 cj d=>?_
   refine WQ.val (v:=boo g103.1) (fun w hw=>by obtain ⟨_,hq,S⟩:=hw; exact (R.ofEq (R.lookup1 boo (i:=3) (m:=ao) (z:=false) S rfl rfl rfl Tryz.underlying105 Tryz.underlying9 mz4 rfl) (by rw [oi cj])))<|QNo<|WQ.nil ?_
   intro dm ck cl S
   have ⟨u,b⟩:=U2 cl u b
   rcases condE d with ⟨bd,d⟩ | ⟨bd,d⟩
   ·refine CT bd<|Wg<|M' a9 ?_
    refine WL.w (R.loadBN (i:=0) (vs:=[(str p.fName),(str p.fValue)]) S rfl rfl lay41 rfl rfl)<|W.bslice (α:=GField) [(agg [(str p.fName),(str p.fValue)])] ([p]:List GField) S el26 rfl rfl rfl (by decide) (Go.Eng.encS ⟨rfl,rfl⟩ enc0) ?_
    intro dn dp dq cm cn S
    have ⟨u,b⟩:=U2 cm u b
    refine B d fun dr co d=>W.app (α:=GField) (i:=2) S el26 rfl rfl rfl u cn co ?_
    intro cp ds cq cr cs S
    have ⟨u,b⟩:=U2 cr u b
    refine A<|We<|Wg<|Lg' au rfl<|M<|We ?_
    obtain rfl:=oi d
    exact ⟨rfl,⟨cq,cp,a8,rfl,ba,bb,rfl,cs,b,(S.pk [2,3,4,5,6])⟩⟩
   refine CF bd<|Wk<|Wg<|Lg' au rfl<|M<|We ?_
   obtain rfl:=oi d
   exact ⟨rfl,⟨ck,ad,a8,a9,ba,bb,rfl,u,b,(S.pk [1,2,3,4,5])⟩⟩
  refine CF bc<|Wx ?_
  obtain rfl:=oi d
  obtain rfl:=ce
  exact ⟨af,ad,a9,u,(S.pk [0,3,4])⟩
 rintro f w ⟨a6,aq,ct,cu,S⟩
 refine Ws<|Wg<|M' ct<|A<|We ?_
 obtain rfl:=oi h
 replace S:=S.front 2 rfl
 replace S:=S.front 2 rfl
 refine WP.ret (OutR.one [ap,ac] rfl rfl S rfl ?_)
 exact cu
end Go.Proofs
namespace Go.Proofs
open Go Go.Eng Go.VI Go.Eng.Pure
set_option linter.unusedVariables false
set_option maxRecDepth 10000
set_option maxHeartbeats 4000000
theorem c82:FE.ok (U:=UU) Tryz.prog ⟨82,[(.sl (.st 41))],[(.sl (.st 41))],fun x=>zJR x⟩:=@fun w H az x y hw hg b hT h=>by
 obtain ⟨d,rfl,c⟩:=hT
 exact (zLe hw b x c h).mono (fun _ v K0=>⟨[v],rfl,v,rfl,K0⟩)
theorem c37:FE.ok (U:=UU) Tryz.prog ⟨37,[(.st 88)],[.boo],fun x=>zGF x⟩:=mk (fcons c80 anil) (.e) Tryz.func37
theorem c108:FE.ok (U:=UU) Tryz.prog ⟨108,[(.sl (.st 41)),.str],[.str,.boo],fun x=>zFx x.1 x.2⟩:=mk (fcons c103 anil) (.e) Tryz.func108
end Go.Proofs
namespace Go.Proofs
open Go.Eng Go.Eng.Pure
set_option linter.unusedVariables false
theorem zRm:fld Tryz.prog 90 1=some 1:=by kernel_rfl
instance:Fld Tryz.prog 90 1 1:=⟨zRm⟩
theorem zMr:fld Tryz.prog 90 0=some 0:=by kernel_rfl
instance:Fld Tryz.prog 90 0 0:=⟨zMr⟩
theorem zG9 {c:World} {f:Hp} (hw:Holds c f) (hG:Tryz.Gl c) (b:GURI) {r:Str} (h:zD0 b=some r) :
  Cs Tryz.prog 114 [(agg [(str b.fHost),(int b.fPort),(str b.fPath),(str b.fQuery),(boo b.fHasQuery)])] c f r:=by
 refine CM 15 Tryz.func114 hw fun S=>?_
 refine Ws<|Wg ?_
 refine W.box [(str b.fHost),(int b.fPort),(str b.fPath),(str b.fQuery),(boo b.fHasQuery)] S rfl rfl ?_
 intro o p S
 refine A<|We<|Ws<|Ws<|Wg<|Fb ?_
 refine Lo 0 S<|Le<|We ?_
 rcases condE h with ⟨d,h⟩ | ⟨d,h⟩
 ·refine CT d<|Ws<|Wg<|Fb ?_
  refine Lo 0 S<|A<|We ?_
  exact WP.ret (Rs h S)
 refine CF d<|Wk<|Ws<|WP.quiet S kr kr<|QFb ?_
 refine QB 0 (str b.fHost)<|B h fun t i h=>QJe i<|QFb ?_
 refine QB 0 (int b.fPort)<|B h fun j k h=>WQ.call (v:=str j) rfl (fun w H' hq S=>zFl S.holds (hG.post S.post) b.fPort k)<|B h fun u l h=>QJe l<|QA<|WQ.nil ?_
 intro x z aa S
 exact WP.ret (Rs h S)
end Go.Proofs
namespace Go.Proofs
open Go Go.Eng Go.VI Go.Eng.Pure
set_option linter.unusedVariables false
set_option maxRecDepth 10000
set_option maxHeartbeats 4000000
theorem c114:FE.ok (U:=UU) Tryz.prog ⟨114,[(.st 90)],[.str],fun x=>zD0 x⟩:=@fun w H az x y hw hg b hT h=>by
 obtain ⟨d,rfl,c⟩:=hT
 obtain ⟨_,rfl,rfl⟩:=c
 exact (zG9 hw b x h).mono (fun _ _ e=>⟨[_],e,_,rfl,rfl⟩)
theorem c59:FE.ok (U:=UU) Tryz.prog ⟨59,[(.st 90)],[.str],fun x=>zOY x⟩:=mk (fcons c114 anil) (.n .e (.n .e (.n (.n .e (.j ⟨[⟨.sl 3,.str,none⟩],some [],[]⟩ false .e)) .e))) Tryz.func59
theorem c306:FE.ok (U:=UU) Tryz.prog ⟨306,[.str,.str],[.str,.boo],fun x=>zDr x.1 x.2⟩:=mk (fcons c256 anil) (.e) Tryz.func306
theorem c268:FE.ok (U:=UU) Tryz.prog ⟨268,[.str,.str],[.str,.boo],fun x=>zFK x.1 x.2⟩:=mk (fcons c306 anil) (.e) Tryz.func268
theorem c197:FE.ok (U:=UU) Tryz.prog ⟨197,[.str],[.boo],fun x=>zGu x⟩:=mk anil (.n .e (.n (.n .e (.lp ⟨[⟨.sl 7,.int,none⟩],some [],[]⟩ (some ⟨[],some [],[]⟩) true .e)) .e)) Tryz.func197
theorem c196:FE.ok (U:=UU) Tryz.prog ⟨196,[.str],[(.st 218),.boo],fun x=>zIE x⟩:=mk (fcons c268 (fcons c197 anil)) (.e) Tryz.func196
theorem c128:FE.ok (U:=UU) Tryz.prog ⟨128,[(.sl (.st 41))],[(.st 218),.boo],fun x=>zSC x⟩:=mk (fcons c196 (fcons c108 anil)) (.e) Tryz.func128
end Go.Proofs
namespace Go.Proofs
open Go.Eng Go.Eng.Pure
set_option linter.unusedVariables false
theorem zSN:zer Tryz.prog 251=some [.nilFunc]:=by kernel_rfl
theorem zRB:lay Tryz.prog 251=some (false,1):=by kernel_rfl
instance:Lay Tryz.prog 251 (false,1):=⟨zRB⟩
theorem zGE {d:World} {c:Hp} (hw:Holds d c) (hG:Tryz.Gl d) (b:GField) (j:(GField→Option Bool)) {k:Addr} {kc_x0:FuncId} {cc_x0:List Value} (l:At c k [(.func (.func kc_x0) #[] cc_x0.toArray)]) (Fc_x0:∀ {w:World} {H:Hp},c.le H→Holds w H→Tryz.Gl w→∀ (f:GField) (rr:Bool),j f=some rr→Con Tryz.prog kc_x0 ([(agg [(str f.fName),(str f.fValue)])]++cc_x0) w H (fun H' v=>v=(boo rr))) {r:Bool} (h:zDG b j=some r) :
  Cb Tryz.prog 211 [(agg [(str b.fName),(str b.fValue)]),(.pointer (some k))] d c r:=by
 refine CM 8 Tryz.func211 hw fun S=>?_
 refine Ws<|Wg ?_
 refine W.box [(str b.fName),(str b.fValue)] S rfl rfl ?_
 intro p t S
 refine A<|We<|Ws<|Wg ?_
 refine Lq S l ?_
 refine WL.w (R.loadBN (i:=0) (vs:=[(str b.fName),(str b.fValue)]) S rfl rfl lay41 rfl rfl)<|B h fun u o h=>W.callv S rfl rfl (Fc_x0 (S.post.le) S.holds (hG.post S.post) b _ o) ?_
 rintro x z H6 ab S rfl
 refine No<|A<|We ?_
 exact WP.ret (Rb h S)
theorem zG2 {c:World} {d:Hp} (hw:Holds c d) (hG:Tryz.Gl c) (f:(List GField)) (j:Str) {l:Value} (b:Sl d l f) {r:(List GField)} (h:zDv f j=some r) :
  Con Tryz.prog 139 [l,(str j)] c d (fun H' v=>Sl H' v r):=by
 refine CM 11 Tryz.func139 hw fun S=>?_
 refine Ws<|Wg<|A<|We<|Ws<|Wg<|M<|B h fun o x h=>W.call S rfl (zDC S.holds (hG.post S.post) j x) ?_
 rintro v2 w3 H4 z S ⟨kr1,cr1,rfl,Fr1⟩
 have b:=b.up z
 refine W.alloc [.nilFunc] S zSN ?_
 intro p w7 S
 refine W.store (i:=0) [(.func (.func kr1) #[] cr1.toArray)] S rfl rfl rfl zRB rfl rfl (Nat.le_of_ble_eq_true kr) rfl ?_
 intro w8 S
 refine We<|Ws<|Wg<|M ?_
 obtain ⟨t,u,aa,_,S⟩:=S.settle (i:=0) rfl
 replace S:St c d _ t []:=S
 have ab:At t ⟨p,0,none⟩ [(.func (.func kr1) #[] cr1.toArray)]:=⟨_,_,rfl,aa,[],by simp⟩
 have b:=b.up u
 refine WL.w (R.mkFunc (vs:=[(.pointer (some ⟨p,0,none⟩))]) rfl)<|B h fun al ac h=>W.call S rfl (zCo S.holds (hG.post S.post) f (fun k=>zDG k o) b (fun hle hw hG k r h=>zGE hw hG k o (At.mono ab hle (by simp)) (fun ad=>Fr1 (Hp.le.trans (Hp.le.trans u hle) ad)) h) ac) ?_
 rintro am an ao ap S ae
 refine A<|We ?_
 exact WP.ret (Rl h S ae)
end Go.Proofs
namespace Go.Proofs
open Go Go.Eng Go.VI Go.Eng.Pure
set_option linter.unusedVariables false
set_option maxRecDepth 10000
set_option maxHeartbeats 4000000
theorem c139:FE.ok (U:=UU) Tryz.prog ⟨139,[(.sl (.st 41)),.str],[(.sl (.st 41))],fun x=>zDv x.1 x.2⟩:=@fun w H az x y hw hg b hT h=>by
 obtain ⟨i,_,rfl,c,⟨d,rfl,f⟩⟩:=hT
 obtain rfl:d=_:=f
 exact (zG2 hw b x.1 x.2 c h).mono (fun _ v K0=>⟨[v],rfl,v,rfl,K0⟩)
theorem c127:FE.ok (U:=UU) Tryz.prog ⟨127,[(.sl (.st 41)),(.sl .str)],[(.sl (.st 41))],fun x=>zFL x.1 x.2⟩:=mk (fcons c139 anil) (.n .e (.n .e (.n (.n .e (.lp ⟨[⟨.sl 5,(.sl (.st 41)),none⟩,⟨.sl 12,.int,none⟩],some [],[]⟩ (some ⟨[⟨.sl 5,(.sl (.st 41)),none⟩],some [],[]⟩) false .e)) .e))) Tryz.func127
theorem c123:FE.ok (U:=UU) Tryz.prog ⟨123,[(.st 88),.str],[(.st 88)],fun x=>zHq x.1 x.2⟩:=mk (fcons c127 (fcons c82 (fcons c81 anil))) (.e) Tryz.func123 [(1,8,[.t 0,.t 1,.t 3,.t 4,.t 5,.p 7,.pl 2,.pl 6,.r,.l 8 false,.l 9 false,.l 10 false])]
theorem zGr {b:World} {f:Hp} (hw:Holds b f) (hG:Tryz.Gl b) (c:Str) (d:Str) {r:(Str×Str×Bool)} (h:zBM c d=some r) :
  Con Tryz.prog 179 [(str c),(str d)] b f (fun H' v=>v=(.tuple ⟨[(str r.1),(str r.2.1),(boo r.2.2)]⟩)):=by
 refine (c179 (xs:=(c,d)) (y:=r) hw (fun _ _ e=>by cases e) hG ⟨_,_,rfl,rfl,⟨_,rfl,rfl⟩⟩ h).mono ?_
 rintro _ v ⟨_,rfl,D⟩
 obtain ⟨i,_,rfl,j,⟨k,_,rfl,l,⟨o,rfl,p⟩⟩⟩:=D
 obtain rfl:i=_:=j
 obtain rfl:k=_:=l
 obtain rfl:o=_:=p
 exact rfl
theorem c199:FE.ok (U:=UU) Tryz.prog ⟨199,[.str],[.int,.boo],fun x=>zDx x⟩:=mk (fcons c270 (fcons c134 anil)) (.e) Tryz.func199
theorem zGw {b:World} {d:Hp} (hw:Holds b d) (hG:Tryz.Gl b) (c:Str) {r:(Int×Bool)} (h:zDx c=some r) :
  Con Tryz.prog 199 [(str c)] b d (fun H' v=>v=(.tuple ⟨[(int r.1),(boo r.2)]⟩)):=by
 refine (c199 (xs:=(c)) (y:=r) hw (fun _ _ e=>by cases e) hG ⟨_,rfl,rfl⟩ h).mono ?_
 rintro _ v ⟨_,rfl,D⟩
 obtain ⟨f,_,rfl,i,⟨j,rfl,k⟩⟩:=D
 obtain rfl:f=_:=i
 obtain rfl:j=_:=k
 exact rfl
theorem zEc {b:World} {d:Hp} (hw:Holds b d) (hG:Tryz.Gl b) (c:UInt8) {r:Bool} (h:zBn c=some r) :
  Cb Tryz.prog 270 [(byt c)] b d r:=by
 refine (c270 (xs:=(c)) (y:=r) hw (fun _ _ e=>by cases e) hG ⟨_,rfl,rfl⟩ h).mono ?_
 rintro _ v ⟨_,rfl,D⟩
 obtain ⟨f,rfl,i⟩:=D
 obtain rfl:f=_:=i
 exact rfl
end Go.Proofs
namespace Go.Proofs
open Go.Eng Go.Eng.Pure
set_option linter.unusedVariables false
theorem zGp {u:World} {t:Hp} (hw:Holds u t) (hG:Tryz.Gl u) (x:Str) {r:(Int×Unit)} (h:zE4 x=some r) :
  Con Tryz.prog 201 [(str x)] u t (fun H' v=>v=(.tuple ⟨[(int r.1),.nilIface]⟩)):=by
 refine CM 47 Tryz.func201 hw fun S=>?_
 refine Ws<|Wg<|A<|A<|We<|Ws<|Ws<|Wg<|M<|Ns<|Lf<|M<|B h fun b4 l h=>WL.grp 4 [8,9,10] 11 (boo b4) ?_ ?_
 ·rcases boolE ((x.length:Int) !=8) with d | d
  ·replace l:=condT l d
   refine Gn d<|Gn d<|Gn d<|Pt d ?_
   exact We ⟨(ob l),ag,rfl⟩
  replace l:=condF l d
  refine Gy d<|M<|Gy d<|B l fun s3 ah l=>Jd ah<|Gy d<|Nb<|Pf d ?_
  exact We ⟨(ob l),ag,rfl⟩
 intro us
 refine M<|B h fun ac j h=>WL.grpw 5 [13,14,15,16] 17 (boo ac) (fun w=>∃ H':Hp,t.le H'∧St u t w H' []) ?_ ?_
 ·rcases boolE b4 with b | b
  ·replace j:=condT j b
   refine Gn b<|Gn b<|Gn b<|Gn b<|Pt b ?_
   exact We ⟨(ob j),ag,⟨t,lr,S⟩⟩
  replace j:=condF j b
  refine Gy b<|M<|Gy b<|B j fun c7 aj j=>Ja aj<|Gy b<|B j fun r8 ak j=>W.call S rfl (zEc S.holds (hG.post S.post) c7 ak) ?_
  rintro v9 a3 al am S rfl
  refine Gy b<|No<|Pf b ?_
  exact We ⟨(ob j),ag,⟨al,am,S⟩⟩
 intro us a4 ⟨ad,a5,S⟩
 refine M<|B h fun ae o h=>WL.grp 4 [19,20,21] 22 (boo ae) ?_ ?_
 ·rcases boolE ac with f | f
  ·replace o:=condT o f
   refine Gn f<|Gn f<|Gn f<|Pt f ?_
   exact We ⟨(ob o),ag,rfl⟩
  replace o:=condF o f
  refine Gy f<|M<|Gy f<|B o fun c19 an o=>Ja an<|Gy f<|Mf c19 46<|Pf f ?_
  exact We ⟨(ob o),ag,rfl⟩
 intro us
 refine M<|B h fun ao k h=>WL.grpw 5 [24,25,26,27] 28 (boo ao) (fun w=>∃ H':Hp,ad.le H'∧St u t w H' []) ?_ ?_
 ·rcases boolE ae with c | c
  ·replace k:=condT k c
   refine Gn c<|Gn c<|Gn c<|Gn c<|Pt c ?_
   exact We ⟨(ob k),ag,⟨ad,lr,S⟩⟩
  replace k:=condF k c
  refine Gy c<|M<|Gy c<|B k fun c23 ap k=>Ja ap<|Gy c<|B k fun a6 aq k=>W.call S rfl (zEc S.holds (hG.post S.post) c23 aq) ?_
  rintro a7 a8 au av S rfl
  refine Gy c<|No<|Pf c ?_
  exact We ⟨(ob k),ag,⟨au,av,S⟩⟩
 intro us a9 ⟨ba,bb,S⟩
 refine We ?_
 rcases condE h with ⟨z,h⟩ | ⟨z,h⟩
 ·refine CT z<|Ws<|WP.quiet S kr kr ?_
  cases h
 refine CF z<|Wk<|Ws<|Ws<|Wg<|M<|B h fun c37 aw h=>Ja aw<|Mf c37 49<|M<|B h fun ax p h=>WL.grp 4 [36,37,38] 39 (boo ax) ?_ ?_
 ·rcases boolE (c37 !=49) with i | i
  ·replace p:=condT p i
   refine Gn i<|Gn i<|Gn i<|Pt i ?_
   exact We ⟨(ob p),ag,rfl⟩
  replace p:=condF p i
  refine Gy i<|M<|Gy i<|B p fun c40 ay p=>Ja ay<|Gy i<|Mc c40 49<|Pf i ?_
  exact We ⟨(ob p),ag,rfl⟩
 intro us
 refine We ?_
 rcases condE h with ⟨aa,h⟩ | ⟨aa,h⟩
 ·refine CT aa<|Ws<|WP.quiet S kr kr ?_
  cases h
 refine CF aa<|Wk<|Ws<|Wg<|M<|B h fun af az h=>Ja az<|Mh af 48 ?_
 refine WL.w (R.i64of8 (a:=af - 48) rfl Tryz.underlying5 Tryz.underlying3)<|A<|A<|We ?_
 obtain rfl:=oi h
 refine WP.ret (Out.two rfl S rfl rfl ?_)
 exact rfl
theorem zFM {j:World} {k:Hp} (hw:Holds j k) (hG:Tryz.Gl j) (l:Str) {r:(Int×Int×Str×Int)} (h:zCC l=some r) :
  Con Tryz.prog 133 [(str l)] j k (fun H' v=>v=(.tuple ⟨[(int r.1),(int r.2.1),(str r.2.2.1),(int r.2.2.2)]⟩)):=by
 refine CM 59 Tryz.func133 hw fun S=>?_
 refine Ws<|Wg<|A<|A<|A<|A<|We<|Ws<|Ws<|Wg<|M<|Ns ?_
 refine Lc<|We ?_
 rcases condE h with ⟨o,h⟩ | ⟨o,h⟩
 ·refine CT o<|Ws<|Wg<|A<|A<|A<|A<|We ?_
  obtain rfl:=oi h
  refine WP.ret (Out.four rfl S rfl rfl rfl rfl ?_)
  exact rfl
 refine CF o<|Wk<|Ws<|Wg<|M<|B h fun t z h=>W.call S rfl (zGr S.holds (hG.post S.post) l [32] z) ?_
 rintro v3 w4 H5 al S rfl
 refine M ?_
 refine Ex ?_
 refine Ex ?_
 refine Ex<|A<|A<|A<|We<|Ws<|Wg<|M<|B h fun i aa h=>W.call S rfl (zGr S.holds (hG.post S.post) t.2.1 [32] aa) ?_
 rintro v8 w9 ao ap S rfl
 refine M ?_
 refine Ex ?_
 refine Ex ?_
 refine Ex<|A<|A<|A<|We<|Ws<|Wg<|M<|B h fun u ab h=>W.call S rfl (zGw S.holds (hG.post S.post) i.1 ab) ?_
 rintro aq au x av S rfl
 refine M ?_
 refine Ex ?_
 refine Ex<|A<|A<|We<|Ws<|Ws<|Wg<|M<|No<|M ?_
 refine WL.grp 3 [39,40] 41 (boo ((!i.2.2)||(!u.2))) ?_ ?_
 ·rcases boolE (!i.2.2) with d | d
  ·refine Gn d<|Gn d<|Pt d ?_
   exact We ⟨(orT d),ag,rfl⟩
  refine Gy d<|M<|Gy d<|No<|Pf d ?_
  exact We ⟨(orF d),ag,rfl⟩
 intro us
 refine M<|B h fun ac f h=>WL.grpw 4 [43,44,45] 46 (boo ac) (fun w=>∃ H':Hp,x.le H'∧St j k w H' []) ?_ ?_
 ·rcases boolE ((!i.2.2)||(!u.2)) with c | c
  ·replace f:=condT f c
   refine Gn c<|Gn c<|Gn c<|Pt c ?_
   exact We ⟨(ob f),ag,⟨x,lr,S⟩⟩
  replace f:=condF f c
  refine Gy c<|M<|Gy c<|B f fun aw ad f=>W.call S rfl (zHZ S.holds (hG.post S.post) i.2.1 ad) ?_
  rintro ax ay ae af S rfl
  refine Gy c<|No<|Pf c ?_
  exact We ⟨(ob f),ag,⟨ae,af,S⟩⟩
 intro us az ⟨a0,a1,S⟩
 refine We ?_
 rcases condE h with ⟨p,h⟩ | ⟨p,h⟩
 ·refine CT p<|Ws<|Wg<|A<|A<|A<|A<|We ?_
  obtain rfl:=oi h
  refine WP.ret (Out.four rfl S rfl rfl rfl rfl ?_)
  exact rfl
 refine CF p<|Wk<|Ws<|Wg<|M<|B h fun a2 ah h=>W.call S rfl (zGp S.holds (hG.post S.post) t.1 ah) ?_
 rintro a3 a4 a5 a6 S rfl
 refine M ?_
 refine Ex ?_
 refine Ex<|A<|A<|We<|Ws<|Ws<|Wg<|M ?_
 refine WL.w (R.neqNI rfl rfl Tryz.underlying71)<|We ?_
 refine WP.condF (b:=false) rfl rfl<|Wk<|Ws<|Wg<|M<|M<|M<|A<|A<|A<|A<|We ?_
 obtain rfl:=oi h
 refine WP.ret (Out.four rfl S rfl rfl rfl rfl ?_)
 exact rfl
end Go.Proofs
