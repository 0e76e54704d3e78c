/- A part. -/
import Derived.Test.YtljjaiijlaeoeaaGreatDoorEng38
import Derived.Test.YtljjaiijlaeoeaaGreatDoorEng36
import Derived.Test.YtljjaiijlaeoeaaGreatDoorGenP22
namespace Go.Proofs
set_option maxHeartbeats 4000000
set_option maxRecDepth 10000
open Go.Eng Go.Eng.Pure
set_option linter.unusedVariables false
theorem zLo {o:World} {d:Hp} (hw:Holds o d) (hG:Tryz.Gl o) (j:Int) {r:GResponse} (h:zLF j=some r) :
  Con Tryz.prog 7 [(int j)] o d (fun H' v=>∃ u1:Value,v=(agg [(int r.fMinor),(int r.fStatus),(str r.fReason),u1,(str r.fBody)])∧Sl H' u1 r.fFields):=by
 refine CM 29 Tryz.func7 hw fun S=>?_
 refine Ws<|Wg ?_
 refine W.alloc [(int 0),(int 0),(str []),(.slice none 0 0),(str [])] S zer24 ?_
 intro b1 w2 S
 refine We<|Ws<|Wg<|A<|We<|Ws<|Ws<|Wg<|M<|We<|B h fun j9 b h=>WP.cut (fun f w=>match j9 with | .inl c=>∃ (H3:Hp),f 0=(int j)∧f 2=(ptr b1 0)∧f 3=(str c)∧St o d w H3 [.box b1 24 [(int 0),(int 0),(str []),(.slice none 0 0),(str [])]] | .inr _=>False) ?_ ?_
 ·refine Wb<|Ws<|Wg<|Le<|A<|We ?_
  rcases condE b with ⟨p,b⟩ | ⟨p,b⟩
  ·refine CT p<|Wg<|A<|We ?_
   obtain rfl:=oi b
   exact ⟨d,rfl,rfl,rfl,S⟩
  refine CF p<|Ws<|Wg<|Le<|A<|We ?_
  rcases condE b with ⟨q,b⟩ | ⟨q,b⟩
  ·refine CT q<|Wg<|A<|We ?_
   obtain rfl:=oi b
   exact ⟨d,rfl,rfl,rfl,S⟩
  refine CF q<|Ws<|Wg<|Le<|A<|We ?_
  rcases condE b with ⟨t,b⟩ | ⟨t,b⟩
  ·refine CT t<|Wg<|A<|We ?_
   obtain rfl:=oi b
   exact ⟨d,rfl,rfl,rfl,S⟩
  refine CF t<|Ws<|Wg<|Le<|A<|We ?_
  rcases condE b with ⟨u,b⟩ | ⟨u,b⟩
  ·refine CT u<|Wg<|A<|We ?_
   obtain rfl:=oi b
   exact ⟨d,rfl,rfl,rfl,S⟩
  refine CF u<|Ws<|Wg<|Le<|A<|We ?_
  rcases condE b with ⟨x,b⟩ | ⟨x,b⟩
  ·refine CT x<|Wg<|A<|We ?_
   obtain rfl:=oi b
   exact ⟨d,rfl,rfl,rfl,S⟩
  refine CF x<|Ws<|Wg<|Le<|A<|We ?_
  rcases condE b with ⟨z,b⟩ | ⟨z,b⟩
  ·refine CT z<|Wg<|A<|We ?_
   obtain rfl:=oi b
   exact ⟨d,rfl,rfl,rfl,S⟩
  refine CF z<|Ws<|Wg<|Le<|A<|We ?_
  rcases condE b with ⟨aa,b⟩ | ⟨aa,b⟩
  ·refine CT aa<|Wg<|A<|We ?_
   obtain rfl:=oi b
   exact ⟨d,rfl,rfl,rfl,S⟩
  refine CF aa<|Ws<|Wg<|Le<|A<|We ?_
  rcases condE b with ⟨ab,b⟩ | ⟨ab,b⟩
  ·refine CT ab<|Wg<|A<|We ?_
   obtain rfl:=oi b
   exact ⟨d,rfl,rfl,rfl,S⟩
  refine CF ab<|Ws<|Wg ?_
  refine WL.w (R.build [] [(int 0),(int 0),(str []),(.slice none 0 0),(str [])] bp24 zer24 rfl rfl) ?_
  refine W.store (i:=0) [(int 0),(int 0),(str []),(.slice none 0 0),(str [])] S rfl rfl rfl lay24 rfl (AllOne.all (l:=[(int 0),(int 0),(str []),(.slice none 0 0),(str [])]) (.cons rfl (.cons rfl (.cons rfl (.cons rfl (.cons rfl .nil)))))) (Nat.le_of_ble_eq_true rfl) rfl ?_
  intro am S
  refine We ?_
  obtain rfl:=oi b
  obtain rfl:=oi h
  refine WP.ret (Out.one rfl S (Res.cellB (i:=0) (cs:=[(int 0),(int 0),(str []),(.slice none 0 0),(str [])]) S rfl rfl lay24 rfl rfl) ?_)
  exact ⟨_,rfl,Sl.nil⟩
 intro f w hM
 rcases j9 with c | e
 ·obtain ⟨H3,h4,h5,h7,S⟩:=hM
  refine Ws<|Wg<|M' h4<|M' h7 ?_
  refine WL.w (R.build [(0,(str [67,97,99,104,101,45,67,111,110,116,114,111,108])),(1,(str [110,111,45,115,116,111,114,101]))] [(str [67,97,99,104,101,45,67,111,110,116,114,111,108]),(str [110,111,45,115,116,111,114,101])] bp68 zer68 rfl rfl) ?_
  refine WL.w (R.build [(0,(str [67,111,110,116,101,110,116,45,84,121,112,101])),(1,(str [116,101,120,116,47,112,108,97,105,110]))] [(str [67,111,110,116,101,110,116,45,84,121,112,101]),(str [116,101,120,116,47,112,108,97,105,110])] bp68 zer68 rfl rfl)<|W.bslice (α:=GField) [(agg [(str [67,97,99,104,101,45,67,111,110,116,114,111,108]),(str [110,111,45,115,116,111,114,101])]),(agg [(str [67,111,110,116,101,110,116,45,84,121,112,101]),(str [116,101,120,116,47,112,108,97,105,110])])] ([(⟨[67,97,99,104,101,45,67,111,110,116,114,111,108],[110,111,45,115,116,111,114,101]⟩:GField),(⟨[67,111,110,116,101,110,116,45,84,121,112,101],[116,101,120,116,47,112,108,97,105,110]⟩:GField)]:List GField) S el22 rfl rfl rfl (by decide) (Go.Eng.encS ⟨rfl,rfl⟩ (Go.Eng.encS ⟨rfl,rfl⟩ enc0)) ?_
  intro k an ao ap ac S
  refine M' h7 ?_
  refine WL.w (R.build [(0,(int 1)),(1,(int j)),(2,(str c)),(3,k),(4,(str c))] [(int 1),(int j),(str c),k,(str c)] bp24 zer24 kr (by obtain ⟨_,_,rfl,_⟩:=ac; rfl)) ?_
  refine W.store (i:=1) [(int 1),(int j),(str c),k,(str c)] S h5 rfl rfl lay24 rfl (AllOne.all (l:=[(int 1),(int j),(str c),k,(str c)]) (.cons rfl (.cons rfl (.cons rfl (.cons (Sl.oneC ac) (.cons rfl .nil)))))) (Nat.le_of_ble_eq_true rfl) rfl ?_
  intro aq S
  refine We ?_
  obtain rfl:=oi h
  refine WP.ret (Out.one rfl S (Res.cellB (i:=1) (cs:=[(int 1),(int j),(str c),k,(str c)]) S h5 rfl lay24 rfl rfl) ?_)
  exact ⟨_,rfl,ac⟩
 exact hM.elim
theorem zLZ {o:World} {d:Hp} (hw:Holds o d) (hG:Tryz.Gl o) (j:Int) {r:GResponse} (h:zLC j=some r) :
  Con Tryz.prog 9 [(int j)] o d (fun H' v=>∃ u1:Value,v=(agg [(int r.fMinor),(int r.fStatus),(str r.fReason),u1,(str r.fBody)])∧Sl H' u1 r.fFields):=by
 refine CM 29 Tryz.func9 hw fun S=>?_
 refine Ws<|Wg ?_
 refine W.alloc [(int 0),(int 0),(str []),(.slice none 0 0),(str [])] S zer24 ?_
 intro b1 w2 S
 refine We<|Ws<|Wg<|A<|We<|Ws<|Ws<|Wg<|M<|We<|B h fun j9 b h=>WP.cut (fun f w=>match j9 with | .inl c=>∃ (H3:Hp),f 0=(int j)∧f 2=(ptr b1 0)∧f 3=(str c)∧St o d w H3 [.box b1 24 [(int 0),(int 0),(str []),(.slice none 0 0),(str [])]] | .inr _=>False) ?_ ?_
 ·refine Wb<|Ws<|Wg<|Le<|A<|We ?_
  rcases condE b with ⟨p,b⟩ | ⟨p,b⟩
  ·refine CT p<|Wg<|A<|We ?_
   obtain rfl:=oi b
   exact ⟨d,rfl,rfl,rfl,S⟩
  refine CF p<|Ws<|Wg<|Le<|A<|We ?_
  rcases condE b with ⟨q,b⟩ | ⟨q,b⟩
  ·refine CT q<|Wg<|A<|We ?_
   obtain rfl:=oi b
   exact ⟨d,rfl,rfl,rfl,S⟩
  refine CF q<|Ws<|Wg<|Le<|A<|We ?_
  rcases condE b with ⟨t,b⟩ | ⟨t,b⟩
  ·refine CT t<|Wg<|A<|We ?_
   obtain rfl:=oi b
   exact ⟨d,rfl,rfl,rfl,S⟩
  refine CF t<|Ws<|Wg<|Le<|A<|We ?_
  rcases condE b with ⟨u,b⟩ | ⟨u,b⟩
  ·refine CT u<|Wg<|A<|We ?_
   obtain rfl:=oi b
   exact ⟨d,rfl,rfl,rfl,S⟩
  refine CF u<|Ws<|Wg<|Le<|A<|We ?_
  rcases condE b with ⟨x,b⟩ | ⟨x,b⟩
  ·refine CT x<|Wg<|A<|We ?_
   obtain rfl:=oi b
   exact ⟨d,rfl,rfl,rfl,S⟩
  refine CF x<|Ws<|Wg<|Le<|A<|We ?_
  rcases condE b with ⟨z,b⟩ | ⟨z,b⟩
  ·refine CT z<|Wg<|A<|We ?_
   obtain rfl:=oi b
   exact ⟨d,rfl,rfl,rfl,S⟩
  refine CF z<|Ws<|Wg<|Le<|A<|We ?_
  rcases condE b with ⟨aa,b⟩ | ⟨aa,b⟩
  ·refine CT aa<|Wg<|A<|We ?_
   obtain rfl:=oi b
   exact ⟨d,rfl,rfl,rfl,S⟩
  refine CF aa<|Ws<|Wg<|Le<|A<|We ?_
  rcases condE b with ⟨ab,b⟩ | ⟨ab,b⟩
  ·refine CT ab<|Wg<|A<|We ?_
   obtain rfl:=oi b
   exact ⟨d,rfl,rfl,rfl,S⟩
  refine CF ab<|Ws<|Wg ?_
  refine WL.w (R.build [] [(int 0),(int 0),(str []),(.slice none 0 0),(str [])] bp24 zer24 rfl rfl) ?_
  refine W.store (i:=0) [(int 0),(int 0),(str []),(.slice none 0 0),(str [])] S rfl rfl rfl lay24 rfl (AllOne.all (l:=[(int 0),(int 0),(str []),(.slice none 0 0),(str [])]) (.cons rfl (.cons rfl (.cons rfl (.cons rfl (.cons rfl .nil)))))) (Nat.le_of_ble_eq_true rfl) rfl ?_
  intro am S
  refine We ?_
  obtain rfl:=oi b
  obtain rfl:=oi h
  refine WP.ret (Out.one rfl S (Res.cellB (i:=0) (cs:=[(int 0),(int 0),(str []),(.slice none 0 0),(str [])]) S rfl rfl lay24 rfl rfl) ?_)
  exact ⟨_,rfl,Sl.nil⟩
 intro f w hM
 rcases j9 with c | e
 ·obtain ⟨H3,h4,h5,h7,S⟩:=hM
  refine Ws<|Wg<|M' h4<|M' h7 ?_
  refine WL.w (R.build [(0,(str [67,97,99,104,101,45,67,111,110,116,114,111,108])),(1,(str [110,111,45,115,116,111,114,101]))] [(str [67,97,99,104,101,45,67,111,110,116,114,111,108]),(str [110,111,45,115,116,111,114,101])] bp68 zer68 rfl rfl) ?_
  refine WL.w (R.build [(0,(str [67,111,110,116,101,110,116,45,84,121,112,101])),(1,(str [116,101,120,116,47,112,108,97,105,110]))] [(str [67,111,110,116,101,110,116,45,84,121,112,101]),(str [116,101,120,116,47,112,108,97,105,110])] bp68 zer68 rfl rfl)<|W.bslice (α:=GField) [(agg [(str [67,97,99,104,101,45,67,111,110,116,114,111,108]),(str [110,111,45,115,116,111,114,101])]),(agg [(str [67,111,110,116,101,110,116,45,84,121,112,101]),(str [116,101,120,116,47,112,108,97,105,110])])] ([(⟨[67,97,99,104,101,45,67,111,110,116,114,111,108],[110,111,45,115,116,111,114,101]⟩:GField),(⟨[67,111,110,116,101,110,116,45,84,121,112,101],[116,101,120,116,47,112,108,97,105,110]⟩:GField)]:List GField) S el22 rfl rfl rfl (by decide) (Go.Eng.encS ⟨rfl,rfl⟩ (Go.Eng.encS ⟨rfl,rfl⟩ enc0)) ?_
  intro k an ao ap ac S
  refine M' h7 ?_
  refine WL.w (R.build [(0,(int 1)),(1,(int j)),(2,(str c)),(3,k),(4,(str c))] [(int 1),(int j),(str c),k,(str c)] bp24 zer24 kr (by obtain ⟨_,_,rfl,_⟩:=ac; rfl)) ?_
  refine W.store (i:=1) [(int 1),(int j),(str c),k,(str c)] S h5 rfl rfl lay24 rfl (AllOne.all (l:=[(int 1),(int j),(str c),k,(str c)]) (.cons rfl (.cons rfl (.cons rfl (.cons (Sl.oneC ac) (.cons rfl .nil)))))) (Nat.le_of_ble_eq_true rfl) rfl ?_
  intro aq S
  refine We ?_
  obtain rfl:=oi h
  refine WP.ret (Out.one rfl S (Res.cellB (i:=1) (cs:=[(int 1),(int j),(str c),k,(str c)]) S h5 rfl lay24 rfl rfl) ?_)
  exact ⟨_,rfl,ac⟩
 exact hM.elim
end Go.Proofs
