/- A part. -/
import Derived.Test.YtihjhdoinmfddaaGreatDoorGenN4
set_option linter.unusedVariables false
set_option linter.unusedSimpArgs false
set_option maxHeartbeats 4000000
set_option maxRecDepth 10000
namespace Go.Proofs
open Go Go.Eng Go.VI Go.Eng.Pure
theorem c147:FK ⟨147,[(.st 79),.int],[(.st 79)],fun x=>zDD x.1 x.2⟩:=@fun w H az x y hw hg b hT h=>by
 obtain ⟨i,_,rfl,c,⟨d,rfl,f⟩⟩:=hT;obtain ⟨_,rfl,⟨_,_,rfl,S0_0,S0_1⟩⟩:=c;obtain rfl:d=_:=f;exact (zMJ hw ⟨b.gl,b,hg⟩ x.1 x.2 S0_0 S0_1 h).mono (fun _ _ ⟨j,k,e,K0,K1⟩=>⟨[_],e,_,rfl,⟨_,rfl,⟨_,_,rfl,K0,K1⟩⟩⟩)
noncomputable section
variable {l:List (GE UU)} (h:GamOk Tryz.prog (gal l))
def wI174:WE Tryz.prog UU:=wI 174 h (.e) Tryz.func174
def wI172:WE Tryz.prog UU:=wI 172 h (.e) Tryz.func172
def wI233:WE Tryz.prog UU:=wI 233 h (.e) Tryz.func233
end
theorem bsX:SpecOk Tryz.prog 175 (zQ8 (U:=UU) 272 5):=bs_ok fun hG xs v va b S hR hva=>zBC ⟨hG.1.gl,hG.1,hG.2⟩ xs S hR hva rfl
theorem bsC {l:List (GE UU)} (h:GamOk Tryz.prog (gal l)):GamOk Tryz.prog (gal (⟨175,zQ8 272 5⟩ :: l)):=acons (F:=⟨175,_⟩) bsX h
theorem c173:FK ⟨173,[(.st 138)],[.str],fun x=>zD0 x⟩:=mk (fcons c235 (fcons c234 anil)) (.e) Tryz.func173
theorem neX:SpecOk Tryz.prog 268 (zQU (U:=UU)):=ne_ok Tryz.func268 kr kr kr kr
theorem neC {l:List (GE UU)} (h:GamOk Tryz.prog (gal l)):GamOk Tryz.prog (gal (⟨268,zQU⟩ :: l)):=acons (F:=⟨268,_⟩) neX h
theorem c108:FK ⟨108,[.str,(.sl (.st 138)),.int,.str],[.str],fun x=>zBs x.1 x.2.1 x.2.2.1 x.2.2.2⟩:=mk (wc wI174 (wc wI172 (wc wI233 (bsC (fcons c69 (fcons c173 (fcons c120 (neC anil)))))))) (.n .e (.n .e (.n .e (.n .e (.n .e (.n (.n .e (.lp ⟨[iS 10 .int,iS 21 .int,⟨.cs 9 1,.sl .byt,some 5⟩],none,[]⟩ (some ⟨[⟨.cs 9 1,.sl .byt,some 5⟩],none,[]⟩) true .e)) (.n (.n .e (.j ⟨[⟨.cs 9 1,.sl .byt,some 5⟩],none,[]⟩ false .e)) .e))))))) Tryz.func108
noncomputable def wI201 {l:List (GE UU)} (h:GamOk Tryz.prog (gal l)):WE Tryz.prog UU:=wI 201 h (.e) Tryz.func201
noncomputable def w200 {l:List (GE UU)} (h:GamOk Tryz.prog (gal l)):WE Tryz.prog UU:=wI 200 h (.e) Tryz.func200
theorem zYd (args:Array Value) (w:World):(callFunc 248 args).run Tryz.prog w=.ok (.enter 248 args) w:=by
 have hf:=Tryz.func248;have hn:(Tryz.f248.name== "runtime.NumGoroutine")=false:=kr
 obtain ⟨c,hb⟩:∃ c,Tryz.f248.body=some c:=⟨_,rfl⟩;simp only [callFunc,Sem.run_bind,run_program,Result.andThen_ok,hf,hn,hb];rfl
theorem zZC:∀ g g',errSe g=true→errSe g'=true→zLF g=zLF g'→g=g':=by
 intro g g' h h' e;rcases zTr g h with rfl | rfl | rfl <;> rcases zTr g' h' with rfl | rfl | rfl <;> first | rfl | cases e
theorem isX:SpecOk Tryz.prog 248 (zM7 (U:=UU) 334) :=
 zYP (T:=437) (txt:=zLF) zYd (fun w g h e=>GlS.se h g e) zZC
  (fun n b w=>Calls.mono (zNj _ b w rfl n) fun x w' ⟨hx,hw⟩=>⟨hx,_,hw⟩)
  (fun n a b ca cb ta tb w hne ha hb=>Calls.mono (zMw a b ca cb ta tb w n hne ha hb) fun x w' ⟨hx,hw⟩=>⟨hx,_,hw⟩)
theorem isC {l:List (GE UU)} (h:GamOk Tryz.prog (gal l)):GamOk Tryz.prog (gal (⟨248,zM7 334⟩ :: l)):=acons (F:=⟨248,zM7 334⟩) isX h
theorem c247:FK ⟨247,[.byt],[.boo],fun x=>zCQ x⟩:=mk anil (.e) Tryz.func247
theorem c198:FK ⟨198,[.str],[.int,.boo],fun x=>zB4 x⟩:=mk (fcons c247 (fcons c139 anil)) (.e) Tryz.func198
theorem c138:FK ⟨138,[.str],[.int,.int,.str,.int],fun x=>zAY x⟩:=mk (wc wI201 (wc w200 (isC (fcons c247 (fcons c199 (fcons c198 (fcons c100 anil))))))) (.e) Tryz.func138
theorem c107:FK ⟨107,[.int,.int,.str],[.str],fun x=>zA6 x.1 x.2.1 x.2.2⟩:=mk (fcons c138 (fcons c130 anil)) (.e) Tryz.func107
theorem c55:FK ⟨55,[(.st 92),.str],[.str],fun x=>zAJ x.1 x.2⟩:=mk (fcons c108 (fcons c107 (fcons c80 anil))) (.e) Tryz.func55
theorem c84:FK ⟨84,[(.st 87),.str],[.boo],fun x=>zDo x.1 x.2⟩:=mk (fcons c66 (fcons c55 anil)) (.e) Tryz.func84
theorem c56:FK ⟨56,[.int],[(.st 92)],fun x=>zIc x⟩:=mk anil (.n .e (.n .e (.n (.n .e (.j ⟨[iS 3 .str],some [],[]⟩ true .e)) .e))) Tryz.func56
theorem c34:FK ⟨34,[(.st 63),.int],[(.st 37)],fun x=>zBK x.1 x.2⟩:=mk (fcons c56 (fcons c55 anil)) (.e) Tryz.func34 [(1,4,[.t 0,.t 2,.t 3,.l 1 true,.l 4 false,.l 5 false,.l 6 false])]
theorem c63:FK ⟨63,[(.sl (.st 138))],[.boo],fun x=>zCB x⟩:=mk (fcons c123 (fcons c74 (fcons c49 anil))) (.e) Tryz.func63
theorem c145:FK ⟨145,[(.st 232),.int,.int],[.int],fun x=>zAo x.1 x.2.1 x.2.2⟩:=mk (fcons c139 anil) (.e) Tryz.func145
theorem c144:FK ⟨144,[.str],[.str,(.st 232)],fun x=>zCW x⟩:=mk (fcons c210 (fcons c149 (fcons c18 anil))) (.n .e (.n .e (.n (.lp ⟨[iS 4 .int],some [],[]⟩ (some ⟨[iS 4 .int],some [],[]⟩) false .e) .e))) Tryz.func144
theorem c86:FK ⟨86,[(.sl (.st 138))],[(.st 125)],fun x=>zAc x⟩:=mk (fcons c145 (fcons c144 (fcons c118 anil))) (.n .e (.n .e (.n .e (.n (.n .e (.lp ⟨[iS 35 .int,iC 4 0 (.mp (.st 232))],none,[]⟩ (some ⟨[iC 4 0 (.mp (.st 232))],none,[]⟩) false (.n .e (.n .e (.n (.n (.n .e (.n .e (.n .e (.n .e (.j ⟨[iC 4 0 (.mp (.st 232))],none,[]⟩ false .e))))) .e) .e))))) (.n .e (.n .e (.n .e (.n .e (.n .e (.n .e (.n .e (.n .e (.n (.n .e (.un 5 (.n .e (.n .e (.n (.n (.n .e (.n .e (.n .e (.j ⟨[iC 25 7 .int,iC 25 8 .int,iC 25 9 .int,iC 25 10 .int],none,[]⟩ false .e)))) .e) .e))))) .e))))))))))))) Tryz.func86 [(24,8,[.t 0,.t 1,.t 2,.t 3,.t 4,.t 5,.t 6,.l 7 true,.l 8 false,.l 9 false])]
theorem c122:FK ⟨122,[(.sl (.st 138))],[.int],fun x=>zCA x⟩:=mk (fcons c185 (fcons c184 (fcons c86 anil))) (.e) Tryz.func122
theorem c121:FK ⟨121,[.int,.int,(.st 125),(.st 125)],[.boo],fun x=>zEk x.1 x.2.1 x.2.2.1 x.2.2.2⟩:=mk anil (.e) Tryz.func121
noncomputable def w117 {l:List (GE UU)} (h:GamOk Tryz.prog (gal l)):WE Tryz.prog UU:=wJ 117 h (.e) [.boo] [] Tryz.func117
noncomputable def w182 {l:List (GE UU)} (h:GamOk Tryz.prog (gal l)):WE Tryz.prog UU:=wJ 182 h (.n .e (.n (.n .e (.lp ⟨[iS 8 .int],some [],[]⟩ (some ⟨[],some [],[]⟩) true .e)) .e)) [.int] [] Tryz.func182
theorem c119:FK ⟨119,[.str],[.boo],fun x=>zBP x⟩:=mk (fcons c120 anil) (.e) Tryz.func119
theorem c61:FK ⟨61,[(.sl (.st 138))],[(.st 125)],fun x=>zBN x⟩:=mk (wc w117 (wc w182 (fcons c119 (fcons c118 (fcons c86 (fcons c70 anil)))))) (.n .e (.n .e (.n (.n .e (.j ⟨[iC 3 1 .boo],some [],[]⟩ false .e)) .e))) Tryz.func61
theorem c62:FK ⟨62,[(.st 87),(.st 63),.int],[.boo],fun x=>zF3 x.1 x.2.1 x.2.2⟩:=mk (fcons c122 (fcons c121 (fcons c86 (fcons c67 (fcons c61 anil))))) (.e) Tryz.func62 [(1,11,[.t 0,.t 1,.t 3,.t 4,.t 6,.t 7,.t 9,.t 10,.l 2 true,.l 5 true,.l 8 true,.l 11 false,.l 12 false,.l 13 false])]
noncomputable section
variable {l:List (GE UU)} (h:GamOk Tryz.prog (gal l))
def w111:WE Tryz.prog UU:=wJ 111 h (.n .e (.n (.n .e (.lp ⟨[iS 5 .int],some [],[]⟩ (some ⟨[],some [],[]⟩) true .e)) .e)) [.int] [] Tryz.func111
def w115:WE Tryz.prog UU:=wJ 115 h (.e) [.boo] [] Tryz.func115
def w112:WE Tryz.prog UU:=wJ 112 h (.e) [.boo] [] Tryz.func112
end
theorem zKl {c:World} {b:Hp} (hw:Holds c b) (hG:GlX c b) (d:(List GAxis)) {f:Value} (i:Sl b f d) {r:Bool} (h:zBZ d=some r) :
  Cb Tryz.prog 158 [f] c b r:=by
 refine (c158 (xs:=(d)) (y:=r) hw hG.ok hG.gs ⟨_,rfl,i⟩ h).mono ?_;rintro _ v ⟨_,rfl,D⟩;obtain ⟨j,rfl,k⟩:=D;obtain rfl:j=_:=k;exact rfl
end Go.Proofs
namespace Go.Proofs
open Go.Eng Go.Eng.Pure
theorem el85:Elem Tryz.prog 85 33 1:=zFg kr
theorem zer33:zer Tryz.prog 33=some [(.slice none 0 0)]:=kr
theorem zM0:lay Tryz.prog 278=some (true,2):=kr
instance:Lay Tryz.prog 278 (true,2):=⟨zM0⟩
theorem zWe:zer Tryz.prog 278=some [(str []),(.slice none 0 0)]:=kr
end Go.Proofs
namespace Go.Proofs
open Go Go.Eng Go.VI Go.Eng.Pure
theorem c339:FK ⟨339,[.int,.str,.str],[.int],fun x=>zIO x.1 x.2.1 x.2.2⟩:=mk (fcons c334 anil) (.e) Tryz.func339
theorem c346:FK ⟨346,[.str,.str],[.int],fun x=>zCe x.1 x.2⟩:=@fun w H az x y hw hg b hT h=>by
 obtain ⟨c,_,rfl,d,⟨f,rfl,i⟩⟩:=hT;obtain rfl:c=_:=d;obtain rfl:f=_:=i;exact (zH6 hw ⟨b.gl,b,hg⟩ x.1 x.2 h).mono (fun _ _ e=>⟨[_],e,_,rfl,rfl⟩)
theorem c335:FK ⟨335,[.str],[.boo],fun x=>zCL x⟩:=mk (fcons c344 anil) (.e) Tryz.func335
theorem c338:FK ⟨338,[.str,.str],[.int],fun x=>zE9 x.1 x.2⟩:=mk (fcons c346 (fcons c344 (fcons c335 (fcons c149 (fcons c99 anil))))) (.e) Tryz.func338
theorem c345:FK ⟨345,[(.sl (.st 407)),(.st 407)],[.boo],fun x=>zEm x.1 x.2⟩:=mk (fcons c120 anil) (.n .e (.n (.n .e (.lp ⟨[iS 9 .int],some [],[]⟩ (some ⟨[],some [],[]⟩) true .e)) .e)) Tryz.func345
theorem c337:FK ⟨337,[(.st 419),(.st 419)],[.int],fun x=>zEY x.1 x.2⟩:=mk (fcons c345 anil) (.n .e (.n .e (.n (.n .e (.lp ⟨[iS 43 .int],some [],[]⟩ (some ⟨[],some [],[]⟩) true .e)) .e))) Tryz.func337
theorem c319:FK ⟨319,[.int,.str,.str],[.int],fun x=>zGd x.1 x.2.1 x.2.2⟩:=mk (fcons c339 (fcons c338 (fcons c337 (fcons c336 (fcons c331 (fcons c18 anil)))))) (.n .e (.n (.n .e (.j ⟨[],some [],[]⟩ true (.n (.n .e (.n .e (.n .e (.n .e (.n (.n .e (.j ⟨[iS 38 .boo],some [],[]⟩ false .e)) .e))))) .e))) .e)) Tryz.func319
theorem c297:FK ⟨297,[.int,(.sl (.st 381)),.boo,.str],[.int],fun x=>zFd x.1 x.2.1 x.2.2.1 x.2.2.2⟩:=mk (fcons c319 (fcons c120 anil)) (.n .e (.n .e (.n .e (.n (.n .e (.lp ⟨[iS 9 .int,iS 10 .int,iS 18 .int],some [],[]⟩ (some ⟨[iS 9 .int,iS 10 .int],some [],[]⟩) false .e)) .e)))) Tryz.func297
theorem zMn {c:World} {b:Hp} (hw:Holds c b) (hG:GlX c b) (d:Int) (f:(List GPref)) (i:Bool) (j:Str) {k:Value} (l:Sl b k f) {r:Int} (h:zFd d f i j=some r) :
  Ci Tryz.prog 297 [(int d),k,(boo i),(str j)] c b r:=by
 refine (c297 (xs:=(d,f,i,j)) (y:=r) hw hG.ok hG.gs ⟨_,_,rfl,rfl,⟨_,_,rfl,l,⟨_,_,rfl,rfl,⟨_,rfl,rfl⟩⟩⟩⟩ h).mono ?_;rintro _ v ⟨_,rfl,D⟩;obtain ⟨o,rfl,p⟩:=D;obtain rfl:o=_:=p;exact rfl
end Go.Proofs
namespace Go.Proofs
open Go.Eng Go.Eng.Pure
theorem el323:Elem Tryz.prog 323 3 1:=zFg kr
def Tryz.layIstring_ren:Go.Shelf.Ren:=⟨fun | 17=>347 | 22=>298 | 29=>320 | 30=>321 | 36=>340 | n=>n,fun | 0=>0 | 3=>3 | 4=>4 | 9=>9 | 24=>33 | n=>n,fun | n=>n⟩
theorem Tryz.layIstring:Lays2.n22 Tryz.prog Tryz.layIstring_ren:={
 mixed:=kr
 f17:=Tryz.func347.trans (congrArg some kr)
 f22:=Tryz.func298.trans (congrArg some kr)
 f29:=Tryz.func320.trans (congrArg some kr)
 f30:=Tryz.func321.trans (congrArg some kr)
 f36:=Tryz.func340.trans (congrArg some kr)
 t0:=Tryz.underlying0
 a0:=Tryz.isAgg0
 z0:=Tryz.sizeOf0
 v0:=Tryz.zeroValue0
 t3:=Tryz.underlying3
 a3:=Tryz.isAgg3
 z3:=Tryz.sizeOf3
 v3:=Tryz.zeroValue3
 t4:=Tryz.underlying4
 a4:=Tryz.isAgg4
 z4:=Tryz.sizeOf4
 v4:=Tryz.zeroValue4
 t9:=Tryz.underlying9
 a9:=Tryz.isAgg9
 z9:=Tryz.sizeOf9
 v9:=Tryz.zeroValue9
 t24:=Tryz.underlying33
 a24:=Tryz.isAgg33
 z24:=Tryz.sizeOf33
 v24:=Tryz.zeroValue33
 i9:=by kernel_rfl }
theorem zG8:InsCon Tryz.prog 298 9 (Value.string ⟨#[]⟩).cells 16:=⟨zHk Tryz.func298 rfl kr,fun b n c i vb vc cs y w=>Any2.slices_Insert_string_shift Tryz.layIstring b 0 n c i vb 0 1 vc cs [y] w,fun b n c vb vc y w=>Any2.slices_Insert_string_end_room Tryz.layIstring b 0 n c vb 0 1 vc [y] w,
 fun base n c vb vc cs y w=>Any2.slices_Insert_string_end_grow Tryz.layIstring base n c vb 0 1 vc cs [y] w,fun b n c i vb vc cs y w=>Any2.slices_Insert_string_grow Tryz.layIstring b 0 n c i vb 0 1 vc cs [y] w⟩
def Tryz.layIint_ren:Go.Shelf.Ren:=⟨fun | 21=>299 | 27=>322 | 28=>323 | 35=>341 | 39=>348 | n=>n,fun | 0=>0 | 3=>3 | 4=>4 | 22=>323 | n=>n,fun | n=>n⟩
theorem Tryz.layIint:Lays2.n21 Tryz.prog Tryz.layIint_ren:={
 mixed:=kr
 f21:=Tryz.func299.trans (congrArg some kr)
 f27:=Tryz.func322.trans (congrArg some kr)
 f28:=Tryz.func323.trans (congrArg some kr)
 f35:=Tryz.func341.trans (congrArg some kr)
 f39:=Tryz.func348.trans (congrArg some kr)
 t0:=Tryz.underlying0
 a0:=Tryz.isAgg0
 z0:=Tryz.sizeOf0
 v0:=Tryz.zeroValue0
 t3:=Tryz.underlying3
 a3:=Tryz.isAgg3
 z3:=Tryz.sizeOf3
 v3:=Tryz.zeroValue3
 t4:=Tryz.underlying4
 a4:=Tryz.isAgg4
 z4:=Tryz.sizeOf4
 v4:=Tryz.zeroValue4
 t22:=Tryz.underlying323
 a22:=Tryz.isAgg323
 z22:=Tryz.sizeOf323
 v22:=Tryz.zeroValue323
 i3:=by kernel_rfl }
theorem zIJ:InsCon Tryz.prog 299 3 (Value.int .i64 0).cells 8:=⟨zHk Tryz.func299 rfl kr,fun b n c i vb vc cs y w=>Any2.slices_Insert_int_shift Tryz.layIint b 0 n c i vb 0 1 vc cs [y] w,fun b n c vb vc y w=>Any2.slices_Insert_int_end_room Tryz.layIint b 0 n c vb 0 1 vc [y] w,
 fun base n c vb vc cs y w=>Any2.slices_Insert_int_end_grow Tryz.layIint base n c vb 0 1 vc cs [y] w,fun b n c i vb vc cs y w=>Any2.slices_Insert_int_grow Tryz.layIint b 0 n c i vb 0 1 vc cs [y] w⟩
theorem zPI {w0:World} {p:Hp} (hw:Holds w0 p) (hG:GlX w0 p) (ah:Int) (ai:(List GPref)) (aj:Bool) (z:(List Str)) {ab:Value} {ac:Value} (d:Sl p ab ai) (c:Sl p ac z) {r:(List Str)} (h:zIR ah ai aj z=some r) :
  Con Tryz.prog 270 [(int ah),ab,(boo aj),ac] w0 p (fun H' v=>Sl H' v r):=by
 refine CM 55 Tryz.func270 hw fun S=>?_
 have bi:=d;have bj:=c;refine Ws<|Wg<|A<|We<|Ws<|Wg<|A<|We<|Ws<|Wg<|A<|We ?_;refine Ws<|Ws<|Wg<|M<|Nq c<|M<|We ?_;obtain ⟨v1,az⟩:∃ v:Value,v=.slice none 0 0:=⟨_,rfl⟩;have R3:Sl (α:=Str) p v1 []:=by rw [az]; exact Sl.nil
 replace S:=St.addNilV az S 9 1;obtain ⟨v4,a0⟩:∃ v:Value,v=.slice none 0 0:=⟨_,rfl⟩;have R6:Sl (α:=Int) p v4 []:=by rw [a0]; exact Sl.nil
 replace S:=St.addNilV a0 S 3 1;refine B h fun a1 b6 h=>WP.cut (fun f w=>∃ (a2:Hp) (av:Value),f 9=av∧Sl a2 av a1∧St w0 p w a2 [.row av 9 1 a1.length]) ?_ ?_
 ·refine Wb ?_
  refine WP.loopM (zLA ah ai aj z) (fun s f w=>match s with | (ak,aa,aw)=>∃ (H7:Hp) (t:Value) (x:Value),f 0=(int ah)∧f 1=ab∧f 2=(boo aj)∧f 9=t∧f 10=x∧f 15=ac∧f 16=(int (z.length:Int))∧f 17=(int aw)∧Sl H7 ab ai∧Sl H7 t ak∧Sl H7 x aa∧Sl H7 ac z∧St w0 p w H7 [.row x 3 1 aa.length,.row t 9 1 ak.length]) (([]:List Str),([]:List Int),0) a1 b6 ?_ ?_
  ·exact ⟨p,v1,v4,rfl,rfl,rfl,(Eq.trans (b:=.slice none 0 0) rfl az.symm),(Eq.trans (b:=.slice none 0 0) rfl a0.symm),rfl,rfl,rfl,d,R3,R6,c,S⟩
  intro s f w hI c1 k b7;obtain ⟨ak,aa,aw⟩:=s;obtain ⟨H7,t,x,h8,h9,a5,a6,a7,a8,a9,ax,d,u,o,c,S⟩:=hI;refine Ws<|Wg<|La' ax a9<|We<|Ws ?_;rcases condE k with ⟨ba,k⟩ | ⟨ba,k⟩
  ·refine CT ba<|Wk<|Ws<|Wb<|Ws<|Wg<|B k fun ap b8 k=>W.idx (α:=Str) c a8 ax el33 b8 ?_
   rintro c2 _ b9 rfl;refine Lq S b9<|A<|We<|Ws<|Wg<|M' h8<|M' h9<|M' a5<|M<|B k fun aq ca k=>W.call S rfl (zMn S.holds (hG.pstX S.post) ah ai aj ap d ca) ?_
   rintro c3 c6 bp cb S rfl;have ⟨d,u,o,c⟩:=U4 cb d u o c;refine A<|We<|Ws<|Ws<|Wg<|M<|Lb<|We ?_;rcases condE k with ⟨bb,k⟩ | ⟨bb,k⟩
   ·refine CT bb<|Wx<|Wg<|Lg' ax rfl<|M<|We ?_
    obtain rfl:=oi k;exact ⟨rfl,⟨bp,t,x,h8,h9,a5,a6,a7,a8,a9,rfl,d,u,o,c,S⟩⟩
   refine CF bb<|Wk<|Ws<|Wg<|M' a7<|Nq o<|A<|We<|Ws<|B k fun bq cc k=>WP.cut (fun f w=>∃ (ao:Hp),f 0=(int ah)∧f 1=ab∧f 2=(boo aj)∧f 9=t∧f 10=x∧f 12=(str ap)∧f 13=(int aq)∧f 14=(int bq)∧f 15=ac∧f 16=(int (z.length:Int))∧f 17=(int aw)∧Sl ao ab ai∧Sl ao t ak∧Sl ao x aa∧Sl ao ac z∧St w0 p w ao [.row x 3 1 aa.length,.row t 9 1 ak.length]) ?_ ?_
   ·refine Wb ?_
    refine WP.loopM (zLK aa aq) (fun s f w=>match s with | bc=>∃ (ad:Hp),f 0=(int ah)∧f 1=ab∧f 2=(boo aj)∧f 9=t∧f 10=x∧f 12=(str ap)∧f 13=(int aq)∧f 14=(int bc)∧f 15=ac∧f 16=(int (z.length:Int))∧f 17=(int aw)∧Sl ad ab ai∧Sl ad t ak∧Sl ad x aa∧Sl ad ac z∧St w0 p w ad [.row x 3 1 aa.length,.row t 9 1 ak.length]) (aa.length:Int) bq cc ?_ ?_
    ·exact ⟨bp,h8,h9,a5,a6,a7,rfl,rfl,rfl,a8,a9,ax,d,u,o,c,S⟩
    intro bc f w hI c7 am cd;obtain ⟨ad,br,bs,bt,bu,bd,bv,be,ay,bw,bx,bz,d,u,o,c,S⟩:=hI;refine Ws<|Ws<|Wg<|M' ay<|Lc<|M<|B am fun ce ae am=>WL.grp 8 [33,34,35,36,37,38,39] 40 (boo ce) ?_ ?_
    ·rcases boolE (decide (0<bc)) with l | l
     ·replace ae:=condT ae l
      refine Gy l<|M' bd<|Gy l<|M' ay<|Gy l<|Lh<|Gy l<|B ae fun c8 cf ae=>W.idx (α:=Int) o rfl rfl el323 cf ?_
      rintro c9 _ cg rfl;refine Gy l ?_;refine Lq S cg<|Gy l<|M' be<|Gy l<|La<|Pt l ?_;exact We ⟨(ob ae),ag,rfl⟩
     replace ae:=condF ae l;refine Gn l<|Gn l<|Gn l<|Gn l<|Gn l<|Gn l<|Gn l<|Pf l ?_;exact We ⟨(ob ae),ag,rfl⟩
    intro us;refine We ?_;rcases condE am with ⟨bf,am⟩ | ⟨bf,am⟩
    ·refine CT bf<|Wk<|Wb<|Wg<|M' ay<|Lh<|A<|We ?_
     obtain rfl:=oi am;exact ⟨rfl,⟨ad,br,bs,bt,bu,bd,bv,be,rfl,bw,bx,bz,d,u,o,c,S⟩⟩
    refine CF bf<|Wx ?_;obtain rfl:=oi am;obtain rfl:=cd;exact ⟨ad,br,bs,bt,bu,bd,bv,be,ay,bw,bx,bz,d,u,o,c,S⟩
   rintro f w ⟨ao,ch,ci,cj,ck,cl,cm,cn,b0,co,cp,cq,d,u,o,c,S⟩;refine Wg<|M' ck<|M' b0<|M' cm<|W.bslice (α:=Str) [(str ap)] ([ap]:List Str) S el33 rfl rfl rfl (by decide) (Go.Eng.encS ⟨rfl,rfl⟩ enc0) ?_;intro da db dc cr an S;have ⟨d,u,o,c⟩:=U4 cr d u o c;refine B k fun dd cs k=>W.insertRow (i:=2) (j:=0) zG8 rfl (by decide) hw S (by decide) rfl rfl rfl rfl rfl u an cs ?_
   intro ct de df b1 b2 au S;have d:=bi.up b1;have o:=b2 (show (2:Nat)≠1 from by decide) rfl o;have c:=bj.up b1;have an:=b2 (show (2:Nat)≠0 from by decide) rfl an;refine M' cl<|M' b0<|M' cn<|W.bslice (α:=Int) [(int aq)] ([aq]:List Int) S el323 rfl rfl rfl (by decide) (Go.Eng.encS ⟨rfl,rfl⟩ enc0) ?_;intro dg dh di cu bg S;have ⟨d,o,c,an,au⟩:=U5 cu d o c an au;refine B k fun dj cv k=>W.insertRow (i:=2) (j:=0) zIJ rfl (by decide) hw S (by decide) rfl rfl rfl rfl rfl o bg cv ?_
   intro cw dk cx b3 bh cy S;have d:=bi.up b3;have c:=bj.up b3;have an:=bh (show (2:Nat)≠1 from by decide) rfl an;have au:=bh (show (2:Nat)≠3 from by decide) rfl au;have bg:=bh (show (2:Nat)≠0 from by decide) rfl bg;refine A<|A<|We<|Wg<|Lg' cq rfl<|M<|We ?_;obtain rfl:=oi k;exact ⟨rfl,⟨cx,ct,cw,ch,ci,cj,rfl,rfl,co,cp,rfl,d,au,cy,c,(S.pk [2,3])⟩⟩
  refine CF ba<|Wx ?_;obtain rfl:=oi k;obtain rfl:=b7;exact ⟨H7,t,a6,u,(S.pk [1])⟩
 rintro f w ⟨a2,av,cz,c0,S⟩;refine Ws<|Wg<|M' cz<|A<|We ?_;exact WP.ret (Rl h S c0)
end Go.Proofs
namespace Go.Proofs
open Go Go.Eng Go.VI Go.Eng.Pure
theorem c270:FK ⟨270,[.int,(.sl (.st 381)),.boo,(.sl .str)],[(.sl .str)],fun x=>zIR x.1 x.2.1 x.2.2.1 x.2.2.2⟩:=@fun w H az x y hw hg b hT h=>by
 obtain ⟨c,_,rfl,d,⟨l,_,rfl,f,⟨i,_,rfl,j,⟨o,rfl,k⟩⟩⟩⟩:=hT;obtain rfl:c=_:=d;obtain rfl:i=_:=j;exact (zPI hw ⟨b.gl,b,hg⟩ x.1 x.2.1 x.2.2.1 x.2.2.2 f k h).mono (fun _ v K0=>⟨[v],rfl,v,rfl,K0⟩)
noncomputable def w315 {l:List (GE UU)} (h:GamOk Tryz.prog (gal l)):WE Tryz.prog UU:=wJ 315 h (.n .e (.n (.n .e (.lp ⟨[iS 8 .int],some [],[]⟩ (some ⟨[],some [],[]⟩) true .e)) .e)) [.int] [] Tryz.func315
theorem zHh {b:World} {c:Hp} (hw:Holds b c) (hG:GlX b c) (d:Str) {r:(GMediaType×Bool)} (h:zA4 d=some r) :
  Con Tryz.prog 331 [(str d)] b c (fun H' v=>∃ f:Value,v=(.tuple ⟨[(agg [(str r.1.fType),(str r.1.fSub),f]),(boo r.2)]⟩)∧Sl H' f r.1.fParams):=by
 refine (c331 (xs:=(d)) (y:=r) hw hG.ok hG.gs ⟨_,rfl,rfl⟩ h).mono ?_;rintro _ v ⟨_,rfl,D⟩;obtain ⟨k,_,rfl,K0,⟨i,rfl,j⟩⟩:=D;obtain ⟨_,rfl,⟨_,rfl,K0_0⟩⟩:=K0;obtain rfl:i=_:=j;exact ⟨_,rfl,K0_0⟩
theorem c349:FK ⟨349,[.str],[.str],fun x=>zJd x⟩:=mk anil (.n .e (.n .e (.n (.n .e (.lp ⟨[iR 3 (.sl .byt) 5,iS 8 .int],some [],[]⟩ (some ⟨[iR 3 (.sl .byt) 5],some [],[]⟩) false (.n .e (.n .e (.n (.n (.n .e (.n (.n .e (.j ⟨[iR 3 (.sl .byt) 5],some [],[]⟩ false .e)) .e)) .e) .e))))) .e))) Tryz.func349
theorem c343:FK ⟨343,[.str,(.sl (.st 407))],[.str],fun x=>zGe x.1 x.2⟩:=mk (wc wI172 (wc wI233 (bsC (fcons c349 (fcons c18 (neC anil)))))) (.n .e (.n .e (.n .e (.n (.n .e (.lp ⟨[iS 12 .int,⟨.cs 5 1,.sl .byt,some 5⟩],none,[]⟩ (some ⟨[⟨.cs 5 1,.sl .byt,some 5⟩],none,[]⟩) false .e)) .e)))) Tryz.func343
theorem c332:FK ⟨332,[(.st 419)],[.str],fun x=>zCr x⟩:=mk (fcons c343 anil) (.e) Tryz.func332
theorem zJk {d:World} {c:Hp} (hw:Holds d c) (hG:GlX d c) (b:GMediaType) {f:Value} (i:Sl c f b.fParams) {r:Str} (h:zCr b=some r) :
  Cs Tryz.prog 332 [(agg [(str b.fType),(str b.fSub),f])] d c r:=by
 refine (c332 (xs:=(b)) (y:=r) hw hG.ok hG.gs ⟨_,rfl,⟨_,rfl,⟨_,rfl,i⟩⟩⟩ h).mono ?_;rintro _ v ⟨_,rfl,D⟩;obtain ⟨j,rfl,k⟩:=D;obtain rfl:j=_:=k;exact rfl
end Go.Proofs
namespace Go.Proofs
open Go.Eng Go.Eng.Pure
theorem zKd {j:World} {c:Hp} (hw:Holds j c) (hG:GlX j c) (k:Str) (o:(List GParam)) {d:Value} {t:Addr} {u:Addr} (aa:At c t [(str k)]) (p:At c u [d]) (f:Sl c d o) {r:(Str×Bool)} (h:zGO k o=some r) :
  Con Tryz.prog 330 [(Value.pointer (some t)),(Value.pointer (some u))] j c (fun H' v=>v=(.tuple ⟨[(str r.1),(boo r.2)]⟩)):=by
 refine CM 16 Tryz.func330 hw fun S=>?_
 refine Ws<|Wg<|A<|A<|We<|Ws<|Wg ?_;refine Lq S aa<|B h fun b ab h=>W.call S rfl (zHh S.holds (hG.pstX S.post) k ab) ?_
 rintro v2 w3 H4 x S ⟨z,rfl,R7⟩;have p:=At.mono p x (by simp);have f:=f.up x;refine M ?_;refine Ex ?_;refine Ex ?_;refine W.alloc [(str []),(str []),(.slice none 0 0)] S zWR ?_;intro b8 w9 S;refine W.store (i:=0) [(str b.1.fType),(str b.1.fSub),z] S rfl rfl rfl zRS rfl (AllOne.all (l:=[(str b.1.fType),(str b.1.fSub),z]) (.cons rfl (.cons rfl (.cons (Sl.oneC R7) .nil)))) (nL kr) rfl ?_;intro ak S;refine A<|We<|Ws<|Wg ?_;refine Lq S p<|Fb ?_;refine W.storeSl (α:=GParam) (i:=0) [(str b.1.fType),(str b.1.fSub),d] S f rfl rfl rfl zWk (nL kr) rfl ?_;intro al S;refine We<|Ws<|Wg ?_;refine WL.wz (R.loadBN (i:=0) (vs:=[(str b.1.fType),(str b.1.fSub),d]) S rfl rfl zRS rfl rfl)<|B h fun am ad h=>W.call S rfl (zJk S.holds (hG.pstX S.post) (⟨b.1.fType,b.1.fSub,o⟩:GMediaType) f ad) ?_
 rintro an ao ap aq S rfl;refine M<|A<|A<|We ?_;obtain rfl:=oi h;refine WP.ret (Out.two rfl S rfl rfl ?_);exact rfl
end Go.Proofs
namespace Go.Proofs
open Go Go.Eng Go.VI Go.Eng.Pure
theorem zGX {b:World} {c:Hp} (hw:Holds b c) (hG:GlX b c) (d:Int) (f:Str) {r:Str} (h:zA8 d f=some r) :
  Cs Tryz.prog 334 [(int d),(str f)] b c r:=by
 refine (c334 (xs:=(d,f)) (y:=r) hw hG.ok hG.gs ⟨_,_,rfl,rfl,⟨_,rfl,rfl⟩⟩ h).mono ?_;rintro _ v ⟨_,rfl,D⟩;obtain ⟨i,rfl,j⟩:=D;obtain rfl:i=_:=j;exact rfl
theorem zKk {b:World} {c:Hp} (hw:Holds b c) (hG:GlX b c) (d:Str) {r:Bool} (h:zCL d=some r) :
  Cb Tryz.prog 335 [(str d)] b c r:=by
 refine (c335 (xs:=(d)) (y:=r) hw hG.ok hG.gs ⟨_,rfl,rfl⟩ h).mono ?_;rintro _ v ⟨_,rfl,D⟩;obtain ⟨f,rfl,i⟩:=D;obtain rfl:f=_:=i;exact rfl
end Go.Proofs
namespace Go.Proofs
open Go.Eng Go.Eng.Pure
theorem zKJ {i:World} {c:Hp} (hw:Holds i c) (hG:GlX i c) (f:Int) (d:Str) (j:(List GParam)) {k:Value} {o:Addr} {p:Addr} {t:Addr} (x:At c o [(int f)]) (u:At c p [(str d)]) (z:At c t [k]) (aa:Sl c k j) {r:(Str×Bool)} (h:zGW f d j=some r) :
  Con Tryz.prog 333 [(Value.pointer (some o)),(Value.pointer (some p)),(Value.pointer (some t))] i c (fun H' v=>v=(.tuple ⟨[(str r.1),(boo r.2)]⟩)):=by
 refine CM 15 Tryz.func333 hw fun S=>?_
 refine Ws<|Wg<|A<|A<|We<|Ws<|WP.quiet S kr kr ?_;refine QH (int f) x ?_;refine QH (str d) u<|B h fun r4 ac h=>WQ.call (v:=str r4) rfl (fun w H' hq S=>zGX S.holds (hG.pstX S.post) f d ac) ?_
 refine QH (str d) u<|B h fun l ad h=>WQ.call (v:=boo l) rfl (fun w H' hq S=>zKk S.holds (hG.pstX S.post) d ad)<|QM ?_
 refine WQ.grp 4 [11,12,13] 14 (boo (l&&((j.length:Int)==0))) ?_ ?_
 ·rcases boolE l with b | b
  ·refine QGy b ?_
   refine QH k z<|QGy b<|QNq aa<|QGy b<|QLe<|QPt b ?_;exact WQ.nil ⟨(andT b),ag⟩
  refine QGn b<|QGn b<|QGn b<|QPf b ?_;exact WQ.nil ⟨(andF b),ag⟩
 intro us;refine QA<|QA<|WQ.nil ?_;intro w1 H2 ah S;obtain rfl:=oi h;refine WP.ret (Out.two rfl S rfl rfl ?_);exact rfl
theorem mz423:((Tryz.prog.info? 423).bind (·.zero))=some .nilFunc:=kr
end Go.Proofs
namespace Go.Proofs
open Go Go.Eng Go.VI Go.Eng.Pure
theorem zJO {b:World} {c:Hp} (hw:Holds b c) (hG:GlX b c) (d:Str) {r:Bool} (h:zAZ d=some r) :
  Cb Tryz.prog 18 [(str d)] b c r:=by
 refine (c18 (xs:=(d)) (y:=r) hw hG.ok hG.gs ⟨_,rfl,rfl⟩ h).mono ?_;rintro _ v ⟨_,rfl,D⟩;obtain ⟨f,rfl,i⟩:=D;obtain rfl:f=_:=i;exact rfl
end Go.Proofs
namespace Go.Proofs
open Go.Eng Go.Eng.Pure
theorem zLW {u:World} {o:Hp} (hw:Holds u o) (hG:GlX u o) (c:Int) (p:Str) (ad:(List GParam)) {aa:Value} (d:Sl o aa ad) {r:(Str×Bool)} (h:zEh c p ad=some r) :
  Con Tryz.prog 318 [(int c),(str p),aa] u o (fun H' v=>v=(.tuple ⟨[(str r.1),(boo r.2)]⟩)):=by
 refine CM 36 Tryz.func318 hw fun S=>?_
 refine Ws<|Wg ?_;refine W.box [(int c)] S rfl rfl ?_;intro x w2 S;refine W.box [(str p)] S rfl rfl ?_;intro j w4 S;refine W.box [aa] S rfl (congrArg Array.toList (Sl.cellsOne d)) ?_;intro f w6 S;refine A<|A<|We<|Ws<|Wg<|W.makeMap S ?_;intro b7 w8 S;replace S:St u o _ o [.mp b7 (enci []),.box f 403 [aa],.box j 9 [(str p)],.box x 3 [(int c)]]:=S;obtain ⟨H9,ap,aq,_,S⟩:=S.settle (i:=2) rfl;replace S:St u o _ H9 [.mp b7 (enci []),.box f 403 [aa],.box x 3 [(int c)]]:=S;have l:At H9 ⟨j,0,none⟩ [(str p)]:=⟨_,_,rfl,aq,[],by simp⟩;have d:=d.up ap;obtain ⟨ai,ao,au,_,S⟩:=S.settle (i:=1) rfl;replace S:St u o _ ai [.mp b7 (enci []),.box x 3 [(int c)]]:=S;have z:At ai ⟨f,0,none⟩ [aa]:=⟨_,_,rfl,au,[],by simp⟩;have d:=d.up ao;have l:=At.mono l ao (by simp);refine WL.wz (R.mkFunc (vs:=[(Value.pointer (some ⟨j,0,none⟩)),(Value.pointer (some ⟨f,0,none⟩))]) rfl)<|W.insertI (i:=0) (m:=[]) (k:=1) (v:=.func (.func 330) #[] [(Value.pointer (some ⟨j,0,none⟩)),(Value.pointer (some ⟨f,0,none⟩))].toArray) S rfl rfl rfl rfl Tryz.underlying425 Tryz.underlying3 rfl ?_;intro a5 S;replace S:St u o _ ai [.mp b7 (enci [(1,(.func (.func 330) #[] [(Value.pointer (some ⟨j,0,none⟩)),(Value.pointer (some ⟨f,0,none⟩))].toArray))]),.box x 3 [(int c)]]:=S;obtain ⟨aj,ak,av,_,S⟩:=S.settle (i:=1) rfl;replace S:St u o _ aj [.mp b7 (enci [(1,(.func (.func 330) #[] [(Value.pointer (some ⟨j,0,none⟩)),(Value.pointer (some ⟨f,0,none⟩))].toArray))])]:=S;have ab:At aj ⟨x,0,none⟩ [(int c)]:=⟨_,_,rfl,av,[],by simp⟩;have d:=d.up ak;have l:=At.mono l ak (by simp);have z:=At.mono z ak (by simp);refine WL.wz (R.mkFunc (vs:=[(Value.pointer (some ⟨x,0,none⟩)),(Value.pointer (some ⟨j,0,none⟩)),(Value.pointer (some ⟨f,0,none⟩))]) rfl)<|W.insertI (i:=0) (m:=[(1,(.func (.func 330) #[] [(Value.pointer (some ⟨j,0,none⟩)),(Value.pointer (some ⟨f,0,none⟩))].toArray))]) (k:=2) (v:=.func (.func 333) #[] [(Value.pointer (some ⟨x,0,none⟩)),(Value.pointer (some ⟨j,0,none⟩)),(Value.pointer (some ⟨f,0,none⟩))].toArray) S rfl rfl rfl rfl Tryz.underlying425 Tryz.underlying3 rfl ?_;intro a6 S;replace S:St u o _ aj [.mp b7 (enci [(1,(.func (.func 330) #[] [(Value.pointer (some ⟨j,0,none⟩)),(Value.pointer (some ⟨f,0,none⟩))].toArray)),(2,(.func (.func 333) #[] [(Value.pointer (some ⟨x,0,none⟩)),(Value.pointer (some ⟨j,0,none⟩)),(Value.pointer (some ⟨f,0,none⟩))].toArray))])]:=S;refine M<|A<|We<|Ws<|Ws<|Wg<|M ?_;refine Lq S ab ?_;rcases condE h with ⟨ae,h⟩ | ⟨ae,h⟩
 ·refine WL.wz (v:=.tuple ⟨[(.func (.func 330) #[] [(Value.pointer (some ⟨j,0,none⟩)),(Value.pointer (some ⟨f,0,none⟩))].toArray),(boo true)]⟩) (R.lookupI (i:=0) (k:=c) S rfl rfl rfl Tryz.underlying425 Tryz.underlying3 (zPE ae))<|M ?_
  refine Ex ?_;refine Ex<|A<|A<|We<|Ws<|Wg<|M<|We<|WP.condT (b:=true) rfl rfl ?_;refine Ws<|Wg<|M<|B h fun a7 aw h=>W.callv S rfl rfl (zKd S.holds (hG.pstX S.post) p ad l z d aw) ?_
  rintro a8 a9 ba af S rfl;have d:=d.up af;have ab:=At.mono ab af (by simp);have l:=At.mono l af (by simp);have z:=At.mono z af (by simp);refine Ex ?_;refine Ex<|A<|A<|We ?_;obtain rfl:=oi h;refine WP.ret (Out.two rfl S rfl rfl ?_);exact rfl
 rcases condE h with ⟨al,h⟩ | ⟨al,h⟩
 ·refine WL.wz (v:=.tuple ⟨[(.func (.func 333) #[] [(Value.pointer (some ⟨x,0,none⟩)),(Value.pointer (some ⟨j,0,none⟩)),(Value.pointer (some ⟨f,0,none⟩))].toArray),(boo true)]⟩) (R.lookupI (i:=0) (k:=c) S rfl rfl rfl Tryz.underlying425 Tryz.underlying3 (zKf ae (zPE al)))<|M ?_
  refine Ex ?_;refine Ex<|A<|A<|We<|Ws<|Wg<|M<|We<|WP.condT (b:=true) rfl rfl ?_;refine Ws<|Wg<|M<|B h fun bb ax h=>W.callv S rfl rfl (zKJ S.holds (hG.pstX S.post) c p ad ab l z d ax) ?_
  rintro bc bd be ah S rfl;have d:=d.up ah;have ab:=At.mono ab ah (by simp);have l:=At.mono l ah (by simp);have z:=At.mono z ah (by simp);refine Ex ?_;refine Ex<|A<|A<|We ?_;obtain rfl:=oi h;refine WP.ret (Out.two rfl S rfl rfl ?_);exact rfl
 refine WL.wz (v:=.tuple ⟨[.nilFunc,(boo false)]⟩) (R.lookupIN (i:=0) (k:=c) S rfl rfl rfl Tryz.underlying425 Tryz.underlying3 mz423 (zKf ae (zKf al zTX)))<|M ?_;refine Ex ?_;refine Ex<|A<|A<|We<|Ws<|Wg<|M<|We<|WP.condF (b:=false) rfl rfl ?_;refine Wk<|Ws<|WP.quiet S kr kr ?_;refine QH (int c) ab ?_;refine QH (str p) l<|B h fun ay az h=>WQ.call (v:=str ay) rfl (fun w H' hq S=>zGX S.holds (hG.pstX S.post) c p az) ?_
 refine QH (str p) l<|B h fun am a0 h=>WQ.call (v:=boo am) rfl (fun w H' hq S=>zJO S.holds (hG.pstX S.post) p a0)<|QM ?_
 refine WQ.grp 4 [32,33,34] 35 (boo (am&&((ad.length:Int)==0))) ?_ ?_
 ·rcases boolE am with t | t
  ·refine QGy t ?_
   refine QH aa z<|QGy t<|QNq d<|QGy t<|QLe<|QPt t ?_;exact WQ.nil ⟨(andT t),ag⟩
  refine QGn t<|QGn t<|QGn t<|QPf t ?_;exact WQ.nil ⟨(andF t),ag⟩
 intro us;refine QA<|QA<|WQ.nil ?_;intro bf bg bh S;obtain rfl:=oi h;refine WP.ret (Out.two rfl S rfl rfl ?_);exact rfl
end Go.Proofs
namespace Go.Proofs
open Go Go.Eng Go.VI Go.Eng.Pure
theorem c318:FK ⟨318,[.int,.str,(.sl (.st 407))],[.str,.boo],fun x=>zEh x.1 x.2.1 x.2.2⟩:=@fun w H az x y hw hg b hT h=>by
 obtain ⟨c,_,rfl,d,⟨f,_,rfl,i,⟨k,rfl,j⟩⟩⟩:=hT;obtain rfl:c=_:=d;obtain rfl:f=_:=i;exact (zLW hw ⟨b.gl,b,hg⟩ x.1 x.2.1 x.2.2 j h).mono (fun _ _ e=>⟨[_,_],e,_,_,rfl,rfl,⟨_,rfl,rfl⟩⟩)
theorem c317:FK ⟨317,[.str],[.int,.boo],fun x=>zGw x⟩:=mk anil (.n .e (.n .e (.n .e (.n .e (.n (.n .e (.lp ⟨[iS 5 .int,iS 40 .int],some [],[]⟩ (some ⟨[iS 5 .int],some [],[]⟩) true .e)) .e))))) Tryz.func317
theorem c316:FK ⟨316,[(.st 407)],[.boo],fun x=>zJr x⟩:=mk anil (.e) Tryz.func316
theorem c296:FK ⟨296,[.int,.str],[(.st 381),.boo],fun x=>zHx x.1 x.2⟩:=mk (wc w315 (fcons c318 (fcons c317 (fcons c316 (fcons c314 anil))))) (.n .e (.n .e (.n .e (.n .e (.n (.n .e (.n .e (.j ⟨[iS 7 (.sl (.st 407)),iS 9 .int],some [],[]⟩ true .e))) .e))))) Tryz.func296
theorem c269:FK ⟨269,[.int,(.sl (.st 138))],[(.sl (.st 381)),.boo],fun x=>zGq x.1 x.2⟩:=mk (fcons c296 (fcons c293 (fcons c118 (fcons c70 anil)))) (.n .e (.n .e (.n .e (.n .e (.n (.n .e (.lp ⟨[iR 7 (.sl (.st 381)) 381,iS 26 .int],some [],[]⟩ (some ⟨[iR 7 (.sl (.st 381)) 381],some [],[]⟩) false .e)) .e))))) Tryz.func269
theorem c259:FK ⟨259,[(.sl .str)],[.str],fun x=>zIT x⟩:=mk (fcons c171 anil) (.e) Tryz.func259
theorem c236:FK ⟨236,[(.st 278),(.sl (.st 138)),.boo],[(.sl .str)],fun x=>zCm x.1 x.2.1 x.2.2⟩:=mk (fcons c270 (fcons c269 (fcons c259 (fcons c258 (fcons c158 (fcons c153 (fcons c118 anil))))))) (.n .e (.n .e (.n .e (.n (.n .e (.n .e (.j ⟨[iS 7 (.sl .str)],some [],[]⟩ false .e))) (.n (.n .e (.j ⟨[iS 7 (.sl .str)],some [],[]⟩ false .e)) .e))))) Tryz.func236
theorem zJU {d:World} {b:Hp} (hw:Holds d b) (hG:GlX d b) (c:GAxis) (f:(List GField)) (i:Bool) {j:Value} {k:Value} (l:Sl b j c.fValues) (o:Sl b k f) {r:(List Str)} (h:zCm c f i=some r) :
  Con Tryz.prog 236 [(agg [(str c.fName),j]),k,(boo i)] d b (fun H' v=>Sl H' v r):=by
 refine (c236 (xs:=(c,f,i)) (y:=r) hw hG.ok hG.gs ⟨_,_,rfl,⟨_,rfl,⟨_,rfl,l⟩⟩,⟨_,_,rfl,o,⟨_,rfl,rfl⟩⟩⟩ h).mono ?_;rintro _ v ⟨_,rfl,D⟩;obtain ⟨p,rfl,K0⟩:=D;exact K0
end Go.Proofs
namespace Go.Proofs
open Go.Eng Go.Eng.Pure
theorem zKh {w0:World} {H0:Hp} (hw:Holds w0 H0) (hG:GlX w0 H0) (ad:(List GAxis)) (a5:(List GField)) (a6:Bool) (am:Int) {o:Value} {bd:Value} (b:Sl H0 o ad) (av:Sl H0 bd a5) {r:(List (List Str))} (h:zFC ad a5 a6 am=some r) :
  Con Tryz.prog 178 [o,bd,(boo a6),(int am)] w0 H0 (fun H' v=>Sl H' v r):=by
 refine CM 109 Tryz.func178 hw fun S=>?_
 refine Ws<|Wg<|A<|We<|Ws<|Ws<|Wg<|M<|B h fun r1 d7 h=>W.call S rfl (zKl S.holds (hG.pstX S.post) ad b d7) ?_
 rintro v2 w3 H4 d9 S rfl;have ⟨b,av⟩:=U2 d9 b av;refine No<|We ?_;rcases condE h with ⟨b0,h⟩ | ⟨b0,h⟩
 ·refine CT b0<|Ws<|Wg<|A<|We ?_
  exact WP.ret (Rl h S Sl.nil)
 refine CF b0<|Wk<|Ws<|Wg<|M<|Nq b<|B h fun l7 eb h=>W.makeSlice (α:=(List Str)) (zv:=(.slice none 0 0)) (z:=([]:List Str)) S el85 rfl rfl rfl zer33 ⟨_,rfl,Sl.nil⟩ eb ?_
 intro t w9 ec p ed ee S;refine A<|We<|Ws<|Ws<|Wg<|M<|Nq b<|M<|We<|B h fun b1 ef h=>WP.cut (fun f w=>match b1 with | .inl ae=>∃ (a7:Hp) (ab:List Value),f 0=o∧f 3=(int am)∧f 9=(.slice (some ⟨t,0,none⟩) p p)∧Sl a7 o ad∧Ms a7 ab ae∧ae.length=p∧St w0 H0 w a7 [.box t 33 ab] | .inr _=>False) ?_ ?_
 ·refine Wb ?_
  refine WP.loopM (zHM ad a5 a6) (fun s f w=>match s with | (b2,be)=>∃ (a2:Hp) (bf:List Value),f 0=o∧f 1=bd∧f 2=(boo a6)∧f 3=(int am)∧f 9=(.slice (some ⟨t,0,none⟩) p p)∧f 24=o∧f 25=(int (ad.length:Int))∧f 26=(int b2)∧Sl a2 o ad∧Sl a2 bd a5∧Ms a2 bf be∧be.length=p∧St w0 H0 w a2 [.box t 33 bf]) (0,l7) b1 ef ?_ ?_
  ·exact ⟨H4,ec,rfl,rfl,rfl,rfl,rfl,rfl,rfl,rfl,b,av,ee,ed,S⟩
  intro s f w hI gu k cw;obtain ⟨b2,be⟩:=s;obtain ⟨a2,bf,cx,cy,cz,c0,bg,c1,c2,bh,b,av,bi,b3,S⟩:=hI;refine Ws<|Wg<|La' bh c2<|We<|Ws ?_;rcases condE k with ⟨b4,k⟩ | ⟨b4,k⟩
  ·refine CT b4<|Wk<|Ws<|Wb<|Ws<|Wg<|M' bh<|B k fun a8 eg k=>W.idx (α:=GAxis) b c1 bh el76 eg ?_
   rintro gv _ eh ⟨bj,rfl,c3⟩;refine WL.wz (R.loadHN (vs:=[(str a8.fName),bj]) S rfl eh zM0 rfl rfl) ?_;refine W.alloc [(str []),(.slice none 0 0)] S zWe ?_;intro gw gx S;refine A ?_;refine W.store (i:=0) [(str a8.fName),bj] S rfl rfl rfl zM0 rfl (AllOne.all (l:=[(str a8.fName),bj]) (.cons rfl (.cons (Sl.oneC c3) .nil))) (nL kr) rfl ?_;intro gy S;refine We<|Ws<|Wg<|M' bg<|M ?_;refine WL.wz (R.loadBN (i:=0) (vs:=[(str a8.fName),bj]) S rfl rfl zM0 rfl rfl)<|M' cy<|M' cz<|B k fun gz ei k=>W.call S rfl (zJU S.holds (hG.pstX S.post) a8 a5 a6 c3 av ei) ?_
   rintro g0 g1 ej c6 S c7;have ⟨b,av⟩:=U2 c6 b av;have bi:=Ms.mono bi c6;refine B k fun g2 ek k=>?_
   refine WL.wz (R.idxM (α:=(List Str)) (xs:=be) rfl b3 rfl el85 ek)<|B k fun el c8 k=>?_
   refine W.storeM (α:=(List Str)) (i:=1) (m:=b2) S bi rfl rfl rfl lay33 (by obtain ⟨_,_,e9,_⟩:=c7; rw [e9]; rfl) ⟨_,rfl,c7⟩ c8 ?_;intro g3 en c9 S;have da:=(zGj c8).1.trans b3;refine We<|Ws<|Wg<|M' bg<|M<|B k fun g4 db k=>?_
   refine WL.wz (R.idxM (α:=(List Str)) (xs:=el) rfl da rfl el85 db) ?_;obtain ⟨_,_,g5,eo,ep⟩:=Ms.get c9 db;obtain ⟨g6,b5,er⟩:=ep;replace b5:=(List.cons.inj b5).1;subst b5;refine WL.wz (R.loadB (i:=1) S rfl rfl lay33 eo)<|Nq er<|Le<|We ?_;rcases condE k with ⟨b6,k⟩ | ⟨b6,k⟩
   ·refine CT b6<|Ws<|Wg<|A<|We ?_
    obtain rfl:=oi k;obtain rfl:=cw;exact WP.ret (Rl h S Sl.nil)
   refine CF b6<|Wk<|Wg<|Lg' bh rfl<|M<|We ?_;obtain rfl:=oi k;exact ⟨rfl,⟨ej,en,cx,cy,cz,c0,bg,c1,c2,rfl,b,av,c9,da,(S.pk [1])⟩⟩
  refine CF b4<|Wx ?_;obtain rfl:=oi k;obtain rfl:=cw;exact ⟨a2,bf,cx,c0,bg,b,bi,b3,S⟩
 intro f w hM;rcases b1 with ae | e
 ·obtain ⟨a7,ab,dc,es,et,b,d,dd,S⟩:=hM
  refine Ws<|Wg<|A<|We<|Ws<|Wg<|M' dc<|Nq b<|B h fun eu ew h=>W.makeSlice (α:=Int) (zv:=(int 0)) (z:=0) S el323 rfl rfl rfl zer3 rfl ew ?_
  intro ai g7 ex u ey ez S;refine A<|We<|Ws ?_;have S:=S.addNil 33 1;refine B h fun b7 e0 h=>WP.cut (fun f w=>∃ (b9:Hp) (bn:Value),f 12=bn∧Sl b9 bn b7∧St w0 H0 w b9 [.row bn 33 1 b7.length]) ?_ ?_
  ·refine Wb ?_
   refine WP.loopM (zHC ad am ae) (fun s f w=>match s with | (aw,aj)=>∃ (ax:Hp) (ak:Value) (ap:List Value),f 0=o∧f 3=(int am)∧f 9=(.slice (some ⟨t,0,none⟩) p p)∧f 12=ak∧f 13=(.slice (some ⟨ai,0,none⟩) u u)∧Sl ax o ad∧Sl ax ak aw∧Ms ax ap aj∧Ms ax ab ae∧aj.length=u∧St w0 H0 w ax [.row ak 33 1 aw.length,.box ai 3 ap,.box t 33 ab]) (([]:List (List Str)),eu) b7 e0 ?_ ?_
   ·exact ⟨a7,.slice none 0 0,ex,dc,es,et,rfl,rfl,b,Sl.nil,ez,d,ey,S⟩
   intro s f w hI g8 j de;obtain ⟨aw,aj⟩:=s;obtain ⟨ax,ak,ap,df,dg,e1,ca,dh,b,ac,af,d,bo,S⟩:=hI;refine Ws<|Ws<|Wg<|M' ca<|Nq ac<|M' dg<|La<|We ?_;rcases condE j with ⟨cb,j⟩ | ⟨cb,j⟩
   ·refine CT cb<|Wk<|Wb<|Ws<|Wg<|M' df<|Nq b<|B j fun e2 e4 j=>W.makeSlice (α:=Str) (zv:=(str [])) (z:=[]) S el33 rfl rfl rfl zer9 rfl e4 ?_
    intro a0 g9 e5 an e6 e7 S;refine A<|We<|Ws<|Ws<|Wg<|M' dh ?_;refine WL.wz (v:=int (aj.length:Int)) (R.ofEq (R.lenV rfl Tryz.underlying323) (by rw [bo]))<|M<|We<|B j fun a9 e8 j=>WP.cut (fun f w=>∃ (a1:Hp) (bp:List Value),f 0=o∧f 3=(int am)∧f 9=(.slice (some ⟨t,0,none⟩) p p)∧f 12=ak∧f 13=(.slice (some ⟨ai,0,none⟩) u u)∧f 14=(.slice (some ⟨a0,0,none⟩) an an)∧Sl a1 o ad∧Sl a1 ak aw∧Ms a1 bp a9∧Ms a1 ap aj∧Ms a1 ab ae∧a9.length=an∧St w0 H0 w a1 [.box a0 9 bp,.row ak 33 1 aw.length,.box ai 3 ap,.box t 33 ab]) ?_ ?_
    ·refine Wb ?_
     refine WP.loopM (zHI ae aj) (fun s f w=>match s with | (cc,bq)=>∃ (aq:Hp) (br:List Value),f 0=o∧f 3=(int am)∧f 9=(.slice (some ⟨t,0,none⟩) p p)∧f 12=ak∧f 13=(.slice (some ⟨ai,0,none⟩) u u)∧f 14=(.slice (some ⟨a0,0,none⟩) an an)∧f 55=(.slice (some ⟨ai,0,none⟩) u u)∧f 56=(int (aj.length:Int))∧f 57=(int cc)∧Sl aq o ad∧Sl aq ak aw∧Ms aq br bq∧Ms aq ap aj∧Ms aq ab ae∧bq.length=an∧St w0 H0 w aq [.box a0 9 br,.row ak 33 1 aw.length,.box ai 3 ap,.box t 33 ab]) (0,e2) a9 e8 ?_ ?_
     ·exact ⟨ax,e5,df,dg,e1,ca,dh,rfl,rfl,rfl,rfl,b,ac,e7,af,d,e6,S⟩
     intro s f w hI ha x fa;obtain ⟨cc,bq⟩:=s;obtain ⟨aq,br,di,dj,cd,dk,dl,ce,dm,dn,bs,b,ac,dp,af,d,cf,S⟩:=hI;refine Ws<|Wg<|La' bs dn<|We<|Ws ?_;rcases condE x with ⟨cg,x⟩ | ⟨cg,x⟩
     ·refine CT cg<|Wk<|Ws<|Wb<|Ws<|Wg<|M' bs<|B x fun fb dq x=>?_
      refine WL.wz (R.idxM (α:=Int) (xs:=aj) dm bo bs el323 dq) ?_;obtain ⟨_,_,fc,fd,fe⟩:=Ms.get af dq;obtain rfl:=(List.cons.inj (show [fc]=[(int fb)] from fe)).1;refine WL.wz (R.loadB (i:=2) S rfl rfl lay3 fd)<|A<|A<|We<|Wg<|M' ce<|M<|M' cd<|M<|B x fun hb dr x=>?_
      refine WL.wz (R.idxM (α:=(List Str)) (xs:=ae) rfl dd rfl el85 dr) ?_;obtain ⟨_,_,hc,ff,fg⟩:=Ms.get d dr;obtain ⟨hd,ch,fh⟩:=fg;replace ch:=(List.cons.inj ch).1;subst ch;refine WL.wz (R.loadB (i:=3) S rfl rfl lay33 ff)<|M<|B x fun he fi x=>W.idx (α:=Str) fh rfl rfl el33 fi ?_
      rintro hf _ fj rfl;refine Lq S fj<|B x fun hg fk x=>?_
      refine WL.wz (R.idxM (α:=Str) (xs:=bq) rfl cf rfl el33 fk)<|B x fun hh ds x=>?_
      refine W.storeM (α:=Str) (i:=0) (m:=cc) S dp rfl rfl rfl lay9 rfl rfl ds ?_;intro hi fl fm S;have fn:=(zGj ds).1.trans cf;refine We<|Wg<|Lg' bs rfl<|M<|We ?_;obtain rfl:=oi x;exact ⟨rfl,⟨aq,fl,di,dj,cd,dk,dl,ce,dm,dn,rfl,b,ac,fm,af,d,fn,S⟩⟩
     refine CF cg<|Wx ?_;obtain rfl:=oi x;obtain rfl:=fa;exact ⟨aq,br,di,dj,cd,dk,dl,ce,b,ac,dp,af,d,cf,S⟩
    rintro f w ⟨a1,bp,fo,fp,fq,fr,dt,fs,b,ac,ci,af,d,ft,S⟩;refine Ws<|Wg<|M' fr<|M' fs ?_;obtain ⟨cj,bt,fu,_,S⟩:=S.settle (i:=0) rfl;replace S:St w0 H0 _ cj [.row ak 33 1 aw.length,.box ai 3 ap,.box t 33 ab]:=S;have fv:At cj ⟨a0,0,none⟩ bp:=⟨_,_,rfl,fu,[],by simp⟩;have ⟨b,ac⟩:=U2 bt b ac;have ci:=Ms.mono ci bt;have af:=Ms.mono af bt;have d:=Ms.mono d bt;have ck:Sl cj (.slice (some ⟨a0,0,none⟩) an an) a9:=Ms.sl ci ft fv;refine W.bslice (α:=(List Str)) [(.slice (some ⟨a0,0,none⟩) an an)] ([a9]:List (List Str)) S el85 rfl rfl rfl (by decide) (Go.Eng.encS ⟨(by rw [Sl.cellsOne ck]; rfl),_,(by rw [Sl.cellsOne ck]),ck⟩ enc0) ?_;intro hj hk hl cl fw S;have ⟨b,ac⟩:=U2 cl b ac;have af:=Ms.mono af cl;have d:=Ms.mono d cl;refine B j fun bu fx j=>W.app (α:=(List Str)) (i:=1) S el85 rfl rfl rfl ac fw fx ?_
    intro ay hm fy cm au S;have ⟨b,ac⟩:=U2 cm b ac;have af:=Ms.mono af cm;have d:=Ms.mono d cm;refine A<|We<|Ws<|Wg<|M' dt ?_;refine WL.wz (v:=int (aj.length:Int)) (R.ofEq (R.lenV rfl Tryz.underlying323) (by rw [bo]))<|Lh<|A<|We<|Ws<|B j fun cn fz j=>WP.cut (fun f w=>match cn with | (co,ba)=>∃ (az:Hp) (cp:List Value),f 0=o∧f 3=(int am)∧f 9=(.slice (some ⟨t,0,none⟩) p p)∧f 12=ay∧f 13=(.slice (some ⟨ai,0,none⟩) u u)∧f 17=(int co)∧Sl az o ad∧Sl az ay bu∧Ms az cp ba∧Ms az ab ae∧ba.length=u∧St w0 H0 w az [.row ay 33 1 bu.length,.box ai 3 cp,.box t 33 ab]) ?_ ?_
    ·refine Wb ?_
     refine WP.loopM (zHD ae) (fun s f w=>match s with | (bv,bb)=>∃ (a3:Hp) (bw:List Value),f 0=o∧f 3=(int am)∧f 9=(.slice (some ⟨t,0,none⟩) p p)∧f 12=ay∧f 13=(.slice (some ⟨ai,0,none⟩) u u)∧f 17=(int bv)∧Sl a3 o ad∧Sl a3 ay bu∧Ms a3 bw bb∧Ms a3 ab ae∧bb.length=u∧St w0 H0 w a3 [.row ay 33 1 bu.length,.box ai 3 bw,.box t 33 ab]) (wr ((aj.length:Int) - 1),aj) cn fz ?_ ?_
     ·exact ⟨fy,ap,fo,fp,fq,rfl,dt,rfl,b,au,af,d,bo,(S.pk [1,2,3])⟩
     intro s f w hI hn al f0;obtain ⟨bv,bb⟩:=s;obtain ⟨a3,bw,du,dv,cq,dw,bx,a4,b,au,bc,d,bz,S⟩:=hI;refine Ws<|Ws<|WP.quiet S kr kr<|QM' a4<|QLd<|QM<|B al fun f1 ao al=>WQ.grp 12 [83,84,85,86,87,88,89,90,91,92,93] 94 (boo f1) ?_ ?_
     ·rcases boolE (decide (0≤bv)) with c | c
      ·replace ao:=condT ao c
       refine QGy c<|QM' bx<|QGy c<|QM' a4<|QGy c<|B ao fun f2 dx ao=>?_
       refine WQ.val (fun _ _=>(R.idxM (α:=Int) (xs:=bb) rfl bz rfl el323 dx))<|QGy c ?_;obtain ⟨_,_,f3,f4,f5⟩:=Ms.get bc dx;obtain rfl:=(List.cons.inj (show [f3]=[(int f2)] from f5)).1;refine WQ.val (fun w hw=>by obtain ⟨_,hq,S⟩:=hw; exact (R.loadB (i:=1) S rfl rfl lay3 f4))<|QGy c<|QM' cq<|QGy c<|QM' a4<|QGy c<|B ao fun ho dy ao=>?_
       refine WQ.val (fun _ _=>(R.idxM (α:=(List Str)) (xs:=ae) rfl dd rfl el85 dy))<|QGy c ?_;obtain ⟨_,_,hp,f6,f7⟩:=Ms.get d dy;obtain ⟨hr,cr,f8⟩:=f7;replace cr:=(List.cons.inj cr).1;subst cr;refine WQ.val (fun w hw=>by obtain ⟨_,hq,S⟩:=hw; exact (R.loadB (i:=2) S rfl rfl lay33 f6))<|QGy c<|QNq f8<|QGy c<|QLh<|QGy c<|QLe<|QPt c ?_;exact WQ.nil ⟨(ob ao),ag⟩
      replace ao:=condF ao c;refine QGn c<|QGn c<|QGn c<|QGn c<|QGn c<|QGn c<|QGn c<|QGn c<|QGn c<|QGn c<|QGn c<|QPf c ?_;exact WQ.nil ⟨(ob ao),ag⟩
     intro us;refine WQ.nil ?_;intro ht dz cs S;have ⟨b,au⟩:=U2 cs b au;have bc:=Ms.mono bc cs;have d:=Ms.mono d cs;rcases condE al with ⟨ct,al⟩ | ⟨ct,al⟩
     ·refine CT ct<|Wk<|Wb<|Ws<|Wg<|M' bx<|M' a4<|B al fun hu f9 al=>?_
      refine WL.wz (R.idxM (α:=Int) (xs:=bb) rfl bz rfl el323 f9)<|B al fun hv d0 al=>?_
      refine W.storeM (α:=Int) (i:=1) (m:=bv) S bc rfl rfl rfl lay3 rfl rfl d0 ?_;intro hx ga gb S;have gc:=(zGj d0).1.trans bz;refine We<|Wg<|M' a4<|Lh<|A<|We ?_;obtain rfl:=oi al;exact ⟨rfl,⟨dz,ga,du,dv,cq,dw,bx,rfl,b,au,gb,d,gc,S⟩⟩
     refine CF ct<|Wx ?_;obtain rfl:=oi al;obtain rfl:=f0;exact ⟨dz,bw,du,dv,cq,dw,bx,a4,b,au,bc,d,bz,S⟩
    intro f w hM;obtain ⟨co,ba⟩:=cn;obtain ⟨az,cp,gd,ge,gf,d1,d2,d3,b,au,d4,d,cu,S⟩:=hM;refine Ws<|Ws<|Wg<|M' d3<|La<|We ?_;rcases condE j with ⟨cv,j⟩ | ⟨cv,j⟩
    ·refine CT cv<|Wx ?_
     obtain rfl:=oi j;obtain rfl:=de;exact ⟨az,ay,d1,au,(S.pk [0])⟩
    refine CF cv<|Wk<|Wg<|M' d2<|M' d3<|B j fun gg d5 j=>?_
    refine WL.wz (R.idxM (α:=Int) (xs:=ba) rfl cu rfl el323 d5) ?_;obtain ⟨_,_,gh,gi,gj⟩:=Ms.get d4 d5;obtain rfl:=(List.cons.inj (show [gh]=[(int gg)] from gj)).1;refine WL.wz (R.loadB (i:=1) S rfl rfl lay3 gi)<|Lg<|B j fun hy gk j=>?_
    refine WL.wz (R.idxM (α:=Int) (xs:=ba) rfl cu rfl el323 gk)<|B j fun hz d6 j=>?_
    refine W.storeM (α:=Int) (i:=1) (m:=co) S d4 rfl rfl rfl lay3 rfl rfl d6 ?_;intro h0 gl gm S;have gn:=(zGj d6).1.trans cu;refine We ?_;obtain rfl:=oi j;exact ⟨rfl,⟨az,ay,gl,gd,ge,gf,d1,d2,b,au,gm,d,gn,S⟩⟩
   refine CF cb<|Wx ?_;obtain rfl:=oi j;obtain rfl:=de;exact ⟨ax,ak,ca,ac,(S.pk [0])⟩
  rintro f w ⟨b9,bn,go,gp,S⟩;refine Ws<|Wg<|M' go<|A<|We ?_;exact WP.ret (Rl h S gp)
 exact hM.elim
end Go.Proofs
namespace Go.Proofs
open Go Go.Eng Go.VI Go.Eng.Pure
theorem c178:FK ⟨178,[(.sl (.st 278)),(.sl (.st 138)),.boo,.int],[(.sl (.sl .str))],fun x=>zFC x.1 x.2.1 x.2.2.1 x.2.2.2⟩:=@fun w H az x y hw hg b hT h=>by
 obtain ⟨k,_,rfl,c,⟨l,_,rfl,d,⟨f,_,rfl,i,⟨j,rfl,e3⟩⟩⟩⟩:=hT;obtain rfl:f=_:=i;obtain rfl:j=_:=e3;exact (zKh hw ⟨b.gl,b,hg⟩ x.1 x.2.1 x.2.2.1 x.2.2.2 c d h).mono (fun _ v K0=>⟨[v],rfl,v,rfl,K0⟩)
theorem c114:FK ⟨114,[(.sl (.st 278)),(.sl (.st 138)),.boo],[(.sl .str),.boo],fun x=>zFE x.1 x.2.1 x.2.2⟩:=mk (fcons c178 anil) (.e) Tryz.func114
theorem c220:FK ⟨220,[.str,(.sl (.st 138))],[.str],fun x=>zIz x.1 x.2⟩:=mk (fcons c259 (fcons c258 (fcons c171 (fcons c149 (fcons c118 (fcons c96 (fcons c70 anil))))))) (.e) Tryz.func220
theorem c157:FK ⟨157,[(.sl .str),(.sl (.st 138))],[(.sl .str)],fun x=>zEU x.1 x.2⟩:=mk (fcons c220 anil) (.n .e (.n .e (.n (.n .e (.lp ⟨[iR 5 (.sl .str) 9,iS 10 .int],some [],[]⟩ (some ⟨[iR 5 (.sl .str) 9],some [],[]⟩) false .e)) .e))) Tryz.func157
theorem c113:FK ⟨113,[(.sl .str),(.sl .str),(.sl (.st 138))],[.boo],fun x=>zIp x.1 x.2.1 x.2.2⟩:=mk (fcons c177 (fcons c157 anil)) (.e) Tryz.func113
theorem c60:FK ⟨60,[(.st 79),(.sl (.st 138)),.boo],[.int,.boo],fun x=>zIq x.1 x.2.1 x.2.2⟩:=mk (wc w111 (wc w115 (wc w112 (fcons c114 (fcons c116 (fcons c113 anil)))))) (.e) Tryz.func60
theorem c37:FK ⟨37,[(.st 79),(.st 63),.int,(.st 23)],[(.st 83)],fun x=>zFy x.1 x.2.1 x.2.2.1 x.2.2.2⟩:=mk (fcons c63 (fcons c62 (fcons c61 (fcons c60 anil)))) (.n .e (.n .e (.n .e (.n .e (.n .e (.n .e (.n .e (.n .e (.n (.n .e (.j ⟨[iS 13 .int],some [],[]⟩ false .e)) (.n (.n .e (.j ⟨[],some [],[]⟩ true (.n (.n (.j ⟨[],some [],[]⟩ true .e) .e) .e))) .e)))))))))) Tryz.func37
theorem c191:FK ⟨191,[.str,(.sl .str)],[.boo],fun x=>zF0 x.1 x.2⟩:=mk (fcons c120 anil) (.n .e (.n (.n .e (.lp ⟨[iS 9 .int],some [],[]⟩ (some ⟨[],some [],[]⟩) true .e)) .e)) Tryz.func191
theorem c127:FK ⟨127,[(.st 92)],[(.st 92)],fun x=>zDx x⟩:=mk (fcons c191 anil) (.n .e (.n .e (.n (.n .e (.lp ⟨[iS 12 .int,iC 3 0 .int,iC 3 1 .int,iC 3 2 .str,⟨.cs 3 3,(.sl (.st 138)),some 138⟩,iC 3 4 .str],some [],[]⟩ (some ⟨[iC 3 0 .int,iC 3 1 .int,iC 3 2 .str,⟨.cs 3 3,(.sl (.st 138)),some 138⟩,iC 3 4 .str],some [],[]⟩) false .e)) .e))) Tryz.func127
theorem c190:FK ⟨190,[(.sl (.st 138)),.str],[(.sl (.st 142)),.boo,.boo],fun x=>zJz x.1 x.2⟩:=mk (fcons c134 (fcons c118 anil)) (.n .e (.n .e (.n .e (.n .e (.n .e (.n (.n .e (.lp ⟨[iR 8 (.sl (.st 142)) 142,iS 35 .int],some [],[]⟩ (some ⟨[iR 8 (.sl (.st 142)) 142],some [],[]⟩) true .e)) .e)))))) Tryz.func190
theorem c126:FK ⟨126,[(.st 63),(.st 92)],[.boo],fun x=>zB6 x.1 x.2⟩:=mk (fcons c190 (fcons c141 (fcons c76 (fcons c74 (fcons c70 anil))))) (.n .e (.n .e (.n (.n .e (.n (.n .e (.n .e (.n .e (.n (.n .e (.lp ⟨[iS 54 .int],some [],[]⟩ (some ⟨[],some [],[]⟩) true .e)) .e)))) .e)) .e))) Tryz.func126
theorem c65:FK ⟨65,[(.st 63),(.st 92)],[.str],fun x=>zFU x.1 x.2⟩:=mk (fcons c127 (fcons c126 (fcons c55 anil))) (.n .e (.n (.n .e (.j ⟨[iC 3 0 .int,iC 3 1 .int,iC 3 2 .str,iC 3 3 (.sl (.st 138)),iC 3 4 .str],some [],[]⟩ false .e)) .e)) Tryz.func65
theorem c39:FK ⟨39,[(.st 63),(.st 92)],[(.st 37)],fun x=>zHP x.1 x.2⟩:=mk (fcons c65 (fcons c34 anil)) (.e) Tryz.func39
noncomputable def wI219 {l:List (GE UU)} (h:GamOk Tryz.prog (gal l)):WE Tryz.prog UU:=wJ 219 h (.e) [.boo] [] Tryz.func219
end Go.Proofs
namespace Go.Proofs
open Go.Eng Go.Eng.Pure
theorem zHr {d:World} {b:Hp} (hw:Holds d b) (hG:GlX d b) (f:Str) (c:GAxis) (k:(List Str)) (i:Int) {l:Value} {j:Value} {o:Addr} {p:Addr} {t:Addr} (x:At b o [(str c.fName),l]) (ai:Sl b l c.fValues) (z:At b p [j]) (aa:Sl b j k) (ab:At b t [(int i)]) {r:Bool} (h:zBm f c k i=some r) :
  Cb Tryz.prog 257 [(str f),(Value.pointer (some o)),(Value.pointer (some p)),(Value.pointer (some t))] d b r:=by
 refine CM 14 Tryz.func257 hw fun S=>?_
 refine Ws<|Wg<|A<|We<|Ws<|WP.quiet S kr kr<|QFc ?_;have ac:=At.add x 0 (by simp);refine QH (str c.fName) ac<|QM ?_;refine QH j z ?_;refine QH (int i) ab<|B h fun u ad h=>WQ.idx (α:=Str) aa rfl rfl el33 ad ?_
 rintro a6 _ ae rfl;refine QH (str u) ae<|B h fun r8 ah h=>WQ.call (v:=boo r8) rfl (fun w H' hq S=>zH2 S.holds (hG.pstX S.post) c.fName f u ah)<|QA<|WQ.nil ?_
 intro w1 H2 am S;exact WP.ret (Rb h S)
end Go.Proofs
