/- A part. -/
import Derived.Test.YtipgfplekgdoiaaGreatDoorEng38
import Derived.Test.YtipgfplekgdoiaaGreatDoorEng33
import Derived.Test.YtipgfplekgdoiaaGreatDoorGenK22
namespace Go.Proofs
set_option maxHeartbeats 4000000
set_option maxRecDepth 10000
open Go.Eng Go.Eng.Pure
set_option linter.unusedVariables false
theorem zEU {p ws:World} {u Hs:Hp} {L2:List Ent}  {s:Str} {c:UInt8} {j d o l bm TB q t:Nat} {r:Loop} {m:List (Str×Bool)} (E:List (Str×Bool)→Str→List (Str×Bool)) (hl:s.length≤1073741824)
  (hp:r.params=#[t])
  (hY:∀ (k:Str) (m:List (Str×Bool)) (w:World) (H:Hp) (L:List Ent),St p u w H (.obj l (.loop r) :: .box bm TB [mapv q] :: .mp q (encm boo m) :: L) →
   RoundIn Fence.wide 0 Tryz.prog l r.fn ((r.params.zip #[str k]).foldl (fun tmps (t,a)=>tmps.setIfInBounds t a) r.tmps) r.assign r.body w (fun e w'=>e=.returned (.bool true)∧St p u w' H (.obj l (.loop r) :: .box bm TB [mapv q] :: .mp q (encm boo (E m k)) :: L)))
  (S:St p u ws Hs (.obj l (.loop r) :: .box bm TB [mapv q] :: .mp q (encm boo m) :: .box j 9 [str [c]] :: .box d 9 [str s] :: .box o 3 [int 0] :: L2)) :
  ConS Tryz.prog 155 [.func (.yield l) #[] #[],ptr j 0,ptr d 0,ptr o 0] p u ws Hs L2 (fun H' v L'=>∃ s',L'=[.obj l (.loop r),.box bm TB [mapv q],.mp q (encm boo ((zEV c s).foldl E m)),.box j 9 [str [c]],.box d 9 [str s'],.box o 3 [int 0]]∧v=.tuple #[]):=by
 refine ConS.mk (N:=52) Tryz.func155 rfl rfl kr rfl<|Ws<|Ws<|Wg ?_
 refine Lo 3 S<|Ns ?_
 refine WL.w (v:=boo false) (R.ofEq (R.eql (a:=1) (b:=0) rfl rfl) rfl)<|We<|WP.condF (b:=false) rfl rfl<|Wk<|Ws ?_
 refine WP.cut (fun f w=>∃ (s':Str) (m':List (Str×Bool)) (H:Hp),f 0=.func (.yield l) #[] #[]∧f 2=ptr d 0∧Hs.le H∧E m' s'=(zEV c s).foldl E m∧St p u w H (.obj l (.loop r) :: .box bm TB [mapv q] :: .mp q (encm boo m') :: .box j 9 [str [c]] :: .box d 9 [str s'] :: .box o 3 [int 0] :: L2)) ?_ ?_
 ·refine Wb ?_
  refine WP.loopK (fun (x:Str×List (Str×Bool)) f w=>∃ (H:Hp),f 0=.func (.yield l) #[] #[]∧f 1=ptr j 0∧f 2=ptr d 0∧f 3=ptr o 0∧Hs.le H∧x.1.length≤1073741824∧(zEV c x.1).foldl E x.2=(zEV c s).foldl E m ∧
    St p u w H (.obj l (.loop r) :: .box bm TB [mapv q] :: .mp q (encm boo x.2) :: .box j 9 [str [c]] :: .box d 9 [str x.1] :: .box o 3 [int 0] :: L2)) (fun x=>x.1.length) (s,m) ⟨Hs,rfl,rfl,rfl,rfl,Hp.le.refl _,hl,rfl,S⟩ ?_
  rintro ⟨x,y⟩ f w ⟨H,z,h1,h,h3,hle,hlx,hE,S⟩
  simp only at hlx hE
  refine Wb<|Ws<|Wg ?_
  refine Lo' 4 S h ?_
  refine Lo' 3 S h1<|W.call S rfl (zE4 S.holds  x [c] (r:=Lib.indexByte x c) rfl) ?_
  rintro _ w1 H1 ae S rfl
  refine A<|We<|Ws<|Ws<|Wg<|M<|La<|We ?_
  rcases zKR x c with ⟨hi,hno⟩ | ⟨a,b,rfl,hno,hi⟩
  ·refine WP.condT (b:=decide (Lib.indexByte x c<0)) rfl (by rw [hi]; rfl)<|Wx ?_
   refine ⟨x,y,H1,z,h,hle.trans ae,?_,S⟩
   rw [← hE,zKN c x hno]; rfl
  have hla:a.length+1+b.length≤1073741824:=by simp only [List.length_append,List.length_cons] at hlx; omega
  refine WP.condF (b:=decide (Lib.indexByte (a++c :: b) c<0)) rfl (by rw [hi]; exact decide_eq_false (by omega))<|Wk<|Ws<|Wg ?_
  refine Lo' 4 S h ?_
  refine WL.w (R.mv (v:=int a.length) (by rw [← hi]; rfl)) ?_
  refine Lo' 5 S h3 ?_
  refine WL.w (v:=int a.length) (R.ofEq (R.add rfl rfl) (by rw [Int.add_zero,wr_eq (by omega)]))<|Jd (zRD a b c)<|A<|We<|Ws ?_
  refine Ws<|WP.regionY [0,1,2,3] rfl ?_
  refine WY.valw rfl (R.mv (v:=.func (.yield l) #[] #[]) z) ?_
  refine WY.valw rfl (R.mv (v:=str a) rfl)<|WY.yield rfl rfl rfl (S.objAt (i:=0) rfl) (by rw [hp]; rfl) (hY a y w1 H1 _ S) ?_
  intro w2 S
  refine WY.valw rfl (R.not (b:=true) rfl)<|WY.nil<|WP.condF (b:=false) rfl rfl<|Wk<|Wg ?_
  refine Lo' 4 S h ?_
  refine WL.w (R.mv (v:=int a.length) (by rw [← hi]; rfl)) ?_
  refine Lo' 3 S h1<|Ns ?_
  refine WL.w (v:=int ((a.length+1:Nat):Int)) (R.ofEq (R.add rfl rfl) (by rw [wr_eq (by simp; omega)]; rfl))<|Jc (zOq a b c) ?_
  refine W.store (i:=4) [str b] S h rfl rfl lay9 rfl rfl (Nat.le_of_ble_eq_true rfl) rfl ?_
  intro w3 S
  refine We ?_
  refine ⟨(b,E y a),by simp; omega,H1,z,h1,h,h3,hle.trans ae,by simp; omega,?_,S⟩
  rw [← hE,zKO c a b hno]; rfl
 rintro f w ⟨s',m',H,z,h,hle,hE,S⟩
 refine WP.regionY [0,1,2] rfl ?_
 refine WY.valw rfl (R.mv (v:=.func (.yield l) #[] #[]) z) ?_
 refine WY.valw rfl (R.loadB (i:=4) (v:=str s') S h rfl lay9 rfl)<|WY.yield rfl rfl rfl (S.objAt (i:=0) rfl) (by rw [hp]; rfl) (hY s' m' w H _ S) ?_
 intro w2 S
 refine WY.nil<|OutS.zero (L':=[.obj l (.loop r),.box bm TB [mapv q],.mp q (encm boo (E m' s')),.box j 9 [str [c]],.box d 9 [str s'],.box o 3 [int 0]]) (.inr rfl) rfl hle S ?_
 exact ⟨s',by rw [hE],rfl⟩
theorem zHy {f ws:World} {h Hs:Hp} {i:List Ent} (S:St f h ws Hs i) (s sep:Str) (n:Int) :
  ConS Tryz.prog 127 [str s,str sep,int n] f h ws Hs i (fun H' v L'=>∃ b c d:Nat,L'=[.box b 9 [str sep],.box c 9 [str s],.box d 3 [int n]]∧v=.func (.func 155) #[] [ptr b 0,ptr c 0,ptr d 0].toArray):=by
 refine ConS.mk (N:=8) Tryz.func127 rfl rfl kr rfl<|Ws<|Wg ?_
 refine W.box [str s] S rfl rfl ?_
 intro c j S
 refine W.box [str sep] S rfl rfl ?_
 intro b k S
 refine W.box [int n] S rfl rfl ?_
 intro d l S
 refine A<|We<|Ws<|Wg ?_
 refine WL.w (R.mkFunc (vs:=[ptr b 0,ptr c 0,ptr d 0]) rfl)<|A<|We ?_
 have S3:=(S.front 2 rfl).front 2 rfl
 refine WP.ret (OutS.one (L':=[.box b 9 [str sep],.box c 9 [str s],.box d 3 [int n]]) rfl lr S3 rfl ?_)
 exact ⟨_,_,_,rfl,rfl⟩
theorem zFC {f ws:World} {h Hs:Hp} {i:List Ent} (S:St f h ws Hs i) (s sep:Str) :
  ConS Tryz.prog 99 [str s,str sep] f h ws Hs i (fun H' v L'=>∃ b c d:Nat,L'=[.box b 9 [str sep],.box c 9 [str s],.box d 3 [int 0]]∧v=.func (.func 155) #[] [ptr b 0,ptr c 0,ptr d 0].toArray):=by
 refine ConS.mk (N:=8) Tryz.func99 rfl rfl kr rfl<|Ws<|Wg<|A<|We<|Ws<|Wg<|M<|M<|W.callS rfl (zHy S s sep 0) ?_
 rintro _ j k _ hle S ⟨b,c,d,rfl,rfl⟩
 refine WL.w (R.as rfl)<|We ?_
 refine WP.ret (OutS.one rfl hle S rfl ?_)
 exact ⟨_,_,_,rfl,rfl⟩
theorem zJI {l:World} {j:Hp} (hw:Holds l j) (u:(List GField)) {x:Value} (b:Sl j x u) {r:(List GField)} (h:zIR u=some r) :
  Con Tryz.prog 66 [x] l j (fun H' v=>Sl H' v r):=by
 refine Con.mkR (N:=49) Tryz.func66 rfl rfl kr rfl ?_
 have S:=St.start hw
 refine WPR.seq<|WPR.of<|Wg<|A<|We<|WPR.seq<|WPR.of<|Wg<|W.makeMap S ?_
 intro c w2 S
 refine W.alloc [(.map none)] S zSM ?_
 intro o w4 S
 refine W.store (i:=0) [(mapv c)] S rfl rfl rfl zK1 rfl rfl (Nat.le_of_ble_eq_true rfl) rfl ?_
 intro w5 S
 refine We<|WPR.seq<|WPR.of<|Ws<|Wg<|M<|B h fun r6 br h=>W.call S rfl (zDx S.holds u [67,111,110,110,101,99,116,105,111,110] b br) ?_
 rintro v7 w8 H9 bt S aa
 have b:=b.up bt
 refine Nq aa<|M<|We<|B h fun af bu h=>WP.cut (fun f w=>∃ (au:Hp),f 0=x∧f 3=(ptr o 0)∧Sl au x u∧St l j w au [.box o 107 [(mapv c)],.mp c (encm boo af)]) ?_ ?_
 ·refine Wb ?_
  refine WP.loopM (zBx r6) (fun s f w=>match s with | (bd,av)=>∃ (ad:Hp),f 0=x∧f 3=(ptr o 0)∧f 13=v7∧f 14=(int (r6.length:Int))∧f 15=(int bd)∧Sl ad x u∧Sl ad v7 r6∧St l j w ad [.box o 107 [(mapv c)],.mp c (encm boo av)]) (0,([]:List (Str×Bool))) af bu ?_ ?_
  ·exact ⟨H9,rfl,rfl,rfl,rfl,rfl,b,aa,S⟩
  intro s f w hI cw q bv
  obtain ⟨bd,av⟩:=s
  obtain ⟨ad,be,aw,bf,bg,ax,b,aa,S⟩:=hI
  refine Ws<|Wg<|La' ax bg<|We<|Ws ?_
  rcases condE q with ⟨ay,q⟩ | ⟨ay,q⟩
  ·refine CT ay<|Wk<|Ws<|Wb<|Ws<|Wg<|B q fun bw bx q=>W.idx (α:=Str) aa bf ax el34 bx ?_
   rintro cx _ bz rfl
   refine Lq S bz<|A<|We<|WP.quietTail 3 S kr kr ?_
   refine WQ.val (fun w hw=>by obtain ⟨_,hq,S⟩:=hw; exact (R.loadB (i:=0) (v:=mapv c) S aw rfl zK1 rfl))<|QM<|B q fun b0 b2 q=>WQ.call (v:=str b0) rfl (fun w H' hq S=>zAV S.holds bw b2)<|WQ.nil ?_
   intro cy b4 bh S
   have b:=b.up bh
   have aa:=aa.up bh
   refine W.mapUpdate boo (i:=1) (m:=av) true S rfl rfl rfl rfl rfl Tryz.underlying107 Tryz.underlying9 ?_
   intro cz S
   refine We<|Wg<|Lg' ax rfl<|M<|We ?_
   cases q
   exact ⟨rfl,⟨b4,be,aw,bf,bg,rfl,b,aa,S⟩⟩
  refine CF ay<|Wx ?_
  cases q
  obtain rfl:=bv
  exact ⟨ad,be,aw,b,S⟩
 rintro f w ⟨au,b5,az,b,S⟩
 refine WPR.seq<|WPR.seq<|WPR.of<|Wg<|W.callS rfl (zFC S [104,111,115,116,32,99,97,99,104,101,45,99,111,110,116,114,111,108,32,118,97,114,121,32,118,97,114,105,97,110,116,115,32,118,97,114,105,97,110,116,45,107,101,121,32,118,105,97] [32]) ?_
 rintro _ c0 bi _ b6 S ⟨ah,ai,aj,rfl,rfl⟩
 replace S:St l j _ bi [.box ah 9 [(str [32])],.box ai 9 [(str [104,111,115,116,32,99,97,99,104,101,45,99,111,110,116,114,111,108,32,118,97,114,121,32,118,97,114,105,97,110,116,115,32,118,97,114,105,97,110,116,45,107,101,121,32,118,105,97])],.box aj 3 [(int 0)],.box o 107 [(mapv c)],.mp c (encm boo af)]:=S
 have b:=b.up b6
 refine We<|WPR.block ?_
 replace S:=S.front 2 rfl
 replace S:=S.front 2 rfl
 replace S:=S.front 2 rfl
 replace S:=S.front 4 rfl
 replace S:=S.front 4 rfl
 replace S:St l j _ bi [.box o 107 [(mapv c)],.mp c (encm boo af),.box ah 9 [(str [32])],.box ai 9 [(str [104,111,115,116,32,99,97,99,104,101,45,99,111,110,116,114,111,108,32,118,97,114,121,32,118,97,114,105,97,110,116,115,32,118,97,114,105,97,110,116,45,107,101,121,32,118,105,97])],.box aj 3 [(int 0)]]:=S
 refine B h fun a0 b7 h=>WPR.range (caps:=[(ptr ah 0),(ptr ai 0),(ptr aj 0)]) S rfl (zGy Tryz.func155 rfl kr) ?_
 intro fn ab c1 S
 replace S:=S.front 3 rfl
 replace S:=S.front 3 rfl
 replace S:=S.front 2 rfl
 replace S:=S.front 6 rfl
 replace S:=S.front 6 rfl
 replace S:=S.front 6 rfl
 replace S:=S.front 5 rfl
 replace S:=S.front 5 rfl
 replace S:=S.front 5 rfl
 refine Calls.mono (zEU (fun m k=>mdel m k) (Nat.le_of_ble_eq_true rfl) rfl (by exact fun k m w H L S=>Round.del S ⟨rfl,az,rfl,rfl,rfl⟩ (i1:=0) (i2:=1) rfl rfl zK1 rfl Tryz.underlying107 Tryz.underlying9) S).2 ?_
 rintro _ c2 ⟨v,bj,L3,rfl,b9,S,s9,rfl,rfl⟩
 refine ⟨_,rfl,bj,_,S,?_⟩
 intro c3 S
 rw [oi b7] at S
 replace S:St l j _ bj [.box o 107 [(mapv c)],.mp c (encm boo a0),.box ah 9 [(str [32])],.box ai 9 [(str s9)],.box aj 3 [(int 0)],.obj ab (.deferred (some []))]:=S
 replace S:=S.drop _ (.cons_cons _ (.cons_cons _ (.cons _ (.cons _ (.cons _ (.cons_cons _ .slnil))))))
 have b:=b.up b9
 refine WPR.seq<|WPR.seq<|WPR.of<|Wg<|W.callS rfl (zFC S [99,111,110,110,101,99,116,105,111,110,32,107,101,101,112,45,97,108,105,118,101,32,112,114,111,120,121,45,99,111,110,110,101,99,116,105,111,110,32,112,114,111,120,121,45,97,117,116,104,101,110,116,105,99,97,116,101,32,112,114,111,120,121,45,97,117,116,104,111,114,105,122,97,116,105,111,110,32,116,101,32,116,114,97,105,108,101,114,32,116,114,97,110,115,102,101,114,45,101,110,99,111,100,105,110,103,32,99,111,110,116,101,110,116,45,108,101,110,103,116,104,32,117,112,103,114,97,100,101] [32]) ?_
 rintro _ c4 bk _ ca S ⟨ak,al,am,rfl,rfl⟩
 replace S:St l j _ bk [.box ak 9 [(str [32])],.box al 9 [(str [99,111,110,110,101,99,116,105,111,110,32,107,101,101,112,45,97,108,105,118,101,32,112,114,111,120,121,45,99,111,110,110,101,99,116,105,111,110,32,112,114,111,120,121,45,97,117,116,104,101,110,116,105,99,97,116,101,32,112,114,111,120,121,45,97,117,116,104,111,114,105,122,97,116,105,111,110,32,116,101,32,116,114,97,105,108,101,114,32,116,114,97,110,115,102,101,114,45,101,110,99,111,100,105,110,103,32,99,111,110,116,101,110,116,45,108,101,110,103,116,104,32,117,112,103,114,97,100,101])],.box am 3 [(int 0)],.box o 107 [(mapv c)],.mp c (encm boo a0),.obj ab (.deferred (some []))]:=S
 have b:=b.up ca
 refine We<|WPR.block ?_
 replace S:=S.front 5 rfl
 replace S:=S.front 3 rfl
 replace S:=S.front 3 rfl
 replace S:=S.front 3 rfl
 replace S:=S.front 5 rfl
 replace S:=S.front 5 rfl
 replace S:St l j _ bk [.box o 107 [(mapv c)],.mp c (encm boo a0),.box ak 9 [(str [32])],.box al 9 [(str [99,111,110,110,101,99,116,105,111,110,32,107,101,101,112,45,97,108,105,118,101,32,112,114,111,120,121,45,99,111,110,110,101,99,116,105,111,110,32,112,114,111,120,121,45,97,117,116,104,101,110,116,105,99,97,116,101,32,112,114,111,120,121,45,97,117,116,104,111,114,105,122,97,116,105,111,110,32,116,101,32,116,114,97,105,108,101,114,32,116,114,97,110,115,102,101,114,45,101,110,99,111,100,105,110,103,32,99,111,110,116,101,110,116,45,108,101,110,103,116,104,32,117,112,103,114,97,100,101])],.box am 3 [(int 0)],.obj ab (.deferred (some []))]:=S
 refine B h fun an cb h=>WPR.range (caps:=[(ptr ak 0),(ptr al 0),(ptr am 0)]) S rfl (zGy Tryz.func155 rfl kr) ?_
 intro fn ao c5 S
 replace S:=S.front 3 rfl
 replace S:=S.front 3 rfl
 replace S:=S.front 2 rfl
 replace S:=S.front 6 rfl
 replace S:=S.front 6 rfl
 replace S:=S.front 6 rfl
 replace S:=S.front 5 rfl
 replace S:=S.front 5 rfl
 replace S:=S.front 5 rfl
 refine Calls.mono (zEU (fun m k=>mset m k true) (Nat.le_of_ble_eq_true rfl) rfl (by exact fun k m w H L S=>Round.set S ⟨rfl,az,rfl,rfl,rfl⟩ (i1:=0) (i2:=1) rfl rfl zK1 Tryz.underlying107 Tryz.underlying9) S).2 ?_
 rintro _ c6 ⟨v,a2,L3,rfl,cc,S,s9,rfl,rfl⟩
 refine ⟨_,rfl,a2,_,S,?_⟩
 intro c7 S
 rw [oi cb] at S
 replace S:St l j _ a2 [.box o 107 [(mapv c)],.mp c (encm boo an),.box ak 9 [(str [32])],.box al 9 [(str s9)],.box am 3 [(int 0)],.obj ao (.deferred (some [])),.obj ab (.deferred (some []))]:=S
 replace S:=S.drop _ (.cons_cons _ (.cons_cons _ (.cons _ (.cons _ (.cons _ (.cons_cons _ (.cons_cons _ .slnil)))))))
 have b:=b.up cc
 refine WPR.of<|Ws<|Wg<|A<|We<|Ws<|Ws<|Wg<|M' b5<|Nq b<|M<|We ?_
 have S:=S.addNil 64 2
 refine B h fun a3 cd h=>WP.cut (fun f w=>∃ (a4:Hp) (ap:Value),f 8=ap∧Sl a4 ap a3∧St l j w a4 [.row ap 64 2 a3.length,.obj ao (.deferred (some [])),.obj ab (.deferred (some []))]) ?_ ?_
 ·refine Wb ?_
  refine WP.loopM (zF6 u an) (fun s f w=>match s with | (a5,bn)=>∃ (ae:Hp) (ac:Value),f 3=(ptr o 0)∧f 8=ac∧f 31=x∧f 32=(int (u.length:Int))∧f 33=(int bn)∧Sl ae ac a5∧Sl ae x u∧St l j w ae [.row ac 64 2 a5.length,.box o 107 [(mapv c)],.mp c (encm boo an),.obj ao (.deferred (some [])),.obj ab (.deferred (some []))]) (([]:List GField),0) a3 cd ?_ ?_
  ·exact ⟨a2,.slice none 0 0,az,rfl,rfl,rfl,rfl,Sl.nil,b,S⟩
  intro s f w hI c8 d ce
  obtain ⟨a5,bn⟩:=s
  obtain ⟨ae,ac,a6,a7,a8,a9,aq,t,b,S⟩:=hI
  refine Ws<|Wg<|La' aq a9<|We<|Ws ?_
  rcases condE d with ⟨ba,d⟩ | ⟨ba,d⟩
  ·refine CT ba<|Wk<|Ws<|Wb<|Ws<|Wg<|B d fun p cf d=>W.idx (α:=GField) b a8 aq el26 cf ?_
   rintro c9 _ cg rfl
   refine WL.w (R.loadHN (vs:=[(str p.fName),(str p.fValue)]) S rfl cg lay64 rfl rfl) ?_
   refine W.alloc [(str []),(str [])] S zer64 ?_
   intro da db S
   refine W.store (i:=0) [(str p.fName),(str p.fValue)] S rfl rfl rfl lay64 rfl rfl (Nat.le_of_ble_eq_true rfl) rfl ?_
   intro dc S
   refine We<|Ws<|WP.quiet S kr kr ?_
   refine WQ.val (fun w hw=>by obtain ⟨_,hq,S⟩:=hw; exact (R.loadB (i:=2) (v:=mapv c) S a6 rfl zK1 rfl))<|QFb ?_
   refine QB 0 (str p.fName)<|B d fun ch ci d=>WQ.call (v:=str ch) rfl (fun w H' hq S=>zAV S.holds p.fName ci)<|B d fun g103 cj d=>?_
   refine WQ.val (v:=boo g103.1) (fun w hw=>by obtain ⟨_,hq,S⟩:=hw; exact (R.ofEq (R.lookup1 boo (i:=3) (m:=an) (z:=false) S rfl rfl rfl Tryz.underlying107 Tryz.underlying9 mz4 rfl) (by rw [oi cj])))<|QNo<|WQ.nil ?_
   intro dd ck bo S
   have t:=t.up bo
   have b:=b.up bo
   rcases condE d with ⟨bb,d⟩ | ⟨bb,d⟩
   ·refine CT bb<|Wg<|M' a7 ?_
    refine WL.w (R.loadBN (i:=0) (vs:=[(str p.fName),(str p.fValue)]) S rfl rfl lay64 rfl rfl)<|W.bslice (α:=GField) [(agg [(str p.fName),(str p.fValue)])] ([p]:List GField) S el26 rfl rfl rfl (by decide) (Go.Eng.encS ⟨rfl,rfl⟩ enc0) ?_
    intro de df dh bp cl S
    have t:=t.up bp
    have b:=b.up bp
    refine B d fun di cm d=>W.app (α:=GField) (i:=2) S el26 rfl rfl rfl t cl cm ?_
    intro cn dj co bq cp S
    have t:=t.up bq
    have b:=b.up bq
    refine A<|We<|Wg<|Lg' aq rfl<|M<|We ?_
    cases d
    exact ⟨rfl,⟨co,cn,a6,rfl,a8,a9,rfl,cp,b,(S.drop _ (.cons _ (.cons _ (.cons_cons _ (.cons_cons _ (.cons_cons _ (.cons_cons _ (.cons_cons _ .slnil))))))))⟩⟩
   refine CF bb<|Wk<|Wg<|Lg' aq rfl<|M<|We ?_
   cases d
   exact ⟨rfl,⟨ck,ac,a6,a7,a8,a9,rfl,t,b,(S.drop _ (.cons _ (.cons_cons _ (.cons_cons _ (.cons_cons _ (.cons_cons _ (.cons_cons _ .slnil)))))))⟩⟩
  refine CF ba<|Wx ?_
  cases d
  obtain rfl:=ce
  exact ⟨ae,ac,a7,t,(S.drop _ (.cons_cons _ (.cons _ (.cons _ (.cons_cons _ (.cons_cons _ .slnil))))))⟩
 rintro f w ⟨a4,ap,cq,cr,S⟩
 refine Ws<|Wg<|M' cq<|A<|We ?_
 cases h
 replace S:=S.front 2 rfl
 replace S:=S.front 2 rfl
 refine WP.ret (OutR.one [ao,ab] rfl rfl S rfl ?_)
 exact cr
theorem zIF {l:World} {o:Hp} (hw:Holds l o) (k:Str) (c:Str) {r:Str} (h:zDq k c=some r) :
  Cs Tryz.prog 131 [(str k),(str c)] l o r:=by
 refine CM 37 Tryz.func131 hw fun S=>?_
 refine Ws<|Wg<|A<|We<|Ws<|Ws<|Wg<|M<|Na<|M ?_
 refine WL.grp 3 [10,11] 12 (boo ((k==[])||(c==[]))) ?_ ?_
 ·rcases boolE (k==[]) with f | f
  ·refine Gn f<|Gn f<|Pt f ?_
   exact We ⟨(orT f),ag,rfl⟩
  refine Gy f<|M<|Gy f<|Na<|Pf f ?_
  exact We ⟨(orF f),ag,rfl⟩
 intro us
 refine We ?_
 rcases condE h with ⟨p,h⟩ | ⟨p,h⟩
 ·refine CT p<|Ws<|Wg<|M<|A<|We ?_
  exact WP.ret (Rs h S)
 refine CF p<|Wk<|Ws<|Ws<|Wg<|M<|Ns<|Le<|M<|B h fun u j h=>WL.grp 4 [18,19,20] 21 (boo u) ?_ ?_
 ·rcases boolE ((c.length:Int)==1) with d | d
  ·replace j:=condT j d
   refine Gy d<|M<|Gy d<|B j fun v x j=>Ja x<|Gy d<|Ma v 128<|Pt d ?_
   exact We ⟨(ob j),ag,rfl⟩
  replace j:=condF j d
  refine Gn d<|Gn d<|Gn d<|Pf d ?_
  exact We ⟨(ob j),ag,rfl⟩
 intro us
 refine We ?_
 rcases condE h with ⟨q,h⟩ | ⟨q,h⟩
 ·refine CT q<|Ws<|Wg<|M<|M<|B h fun z aa h=>Ja aa<|B h fun ai ab h=>W.call S rfl (zEQ S.holds k z ab) ?_
  rintro aj ak al am S rfl
  refine A<|We ?_
  exact WP.ret (Rs h S)
 refine CF q<|Wk<|Ws<|Ws<|Wg<|M<|B h fun an ac h=>W.call S rfl (zEF S.holds c ac) ?_
 rintro ao ap aq ar S rfl
 refine M ?_
 refine Ex ?_
 refine Ex ?_
 refine W.alloc (List.replicate 256 (boo false)) S zRF ?_
 intro ad au S
 refine W.store (i:=0) (setc c) S rfl rfl rfl zOu (show (Lib.setCells c).size=256 by have:=zFu c; simpa [setc] using this) (zNP c) (Nat.le_of_eq (by rw [List.length_replicate])) (zKu ((zFu c).trans (by rw [List.length_replicate]))) ?_
 intro av S
 obtain ⟨t,aw,ae,_,S⟩:=S.settle (i:=0) rfl
 replace S:St l o _ t []:=S
 have af:At t ⟨ad,0,none⟩ (setc c):=⟨_,_,rfl,ae,[],by simp⟩
 refine A<|We<|Ws<|Wg<|M<|We<|WP.condT (b:=true) rfl rfl<|Ws<|Wg<|M<|B h fun ax ah h=>W.call S rfl (zD0 S.holds k c af ah) ?_
 rintro ay az a0 a1 S rfl
 refine A<|We ?_
 exact WP.ret (Rs h S)
theorem zLH {d:World} {f:Hp} (hw:Holds d f) (b:Str) {r:Int} (h:zHm b=some r) :
  Ci Tryz.prog 132 [(str b)] d f r:=by
 refine CM 11 Tryz.func132 hw fun S=>?_
 refine Ws<|Wg<|A<|We<|Ws<|Ws<|Wg<|M<|B h fun j i h=>W.call S rfl (zIL S.holds b [32,9,40,41,44,34] i) ?_
 rintro k l o p S rfl
 refine A<|We<|Ws<|Wg<|M<|Ld<|We ?_
 rcases condE h with ⟨c,h⟩ | ⟨c,h⟩
 ·refine CT c<|Ws<|Wg<|M<|A<|We ?_
  exact WP.ret (Ri h S)
 refine CF c<|Wk<|Ws<|Wg<|M<|Ns<|A<|We ?_
 exact WP.ret (Ri h S)
theorem zKC {j:World} {c:Hp} (hw:Holds j c) (k:Str) {r:Int} (h:zEv k=some r) :
  Ci Tryz.prog 133 [(str k)] j c r:=by
 refine CM 21 Tryz.func133 hw fun S=>?_
 refine Ws<|Wg<|A<|We<|Ws<|Ws<|Wg<|A<|We<|B h fun o aa h=>WP.cut (fun f w=>match o with | .inl _=>∃ (u:Hp),St j c w u [] | .inr _=>False) ?_ ?_
 ·refine Wb ?_
  refine WP.loopM (zAx k) (fun s f w=>match s with | v=>∃ (d:Hp),f 0=(str k)∧f 3=(int v)∧St j c w d []) 1 o aa ?_ ?_
  ·exact ⟨c,rfl,rfl,S⟩
  intro v f w hI y6 b x
  obtain ⟨d,l,i,S⟩:=hI
  refine Ws<|Ws<|Wg<|M' i<|M' l<|Ns<|La<|We ?_
  rcases condE b with ⟨p,b⟩ | ⟨p,b⟩
  ·refine CT p<|Wk<|Ws<|Wb<|Ws<|Wg<|M' l<|M' i<|B b fun z ab b=>Ja ab<|We<|Wb<|Ws<|Wg<|Me z 92<|A<|We ?_
   rcases condE b with ⟨q,b⟩ | ⟨q,b⟩
   ·refine CT q<|Wg<|M' i<|Lg<|A<|We<|Wg<|M<|Lg<|A<|We ?_
    cases b
    exact ⟨rfl,⟨d,l,rfl,S⟩⟩
   refine CF q<|Ws<|Wg<|Me z 34<|A<|We ?_
   rcases condE b with ⟨t,b⟩ | ⟨t,b⟩
   ·refine CT t<|Ws<|Wg<|M' i<|Lg<|A<|We ?_
    cases b
    obtain rfl:=x
    exact WP.ret (Ri h S)
   refine CF t<|Wk<|Wg<|M' i<|Lg<|A<|We ?_
   cases b
   exact ⟨rfl,⟨d,l,rfl,S⟩⟩
  refine CF p<|Wx ?_
  cases b
  obtain rfl:=x
  exact ⟨d,S⟩
 intro f w hM
 rcases o with _ | e
 ·obtain ⟨u,S⟩:=hM
  refine Ws<|Wg<|A<|We ?_
  exact WP.ret (Ri h S)
 exact hM.elim
theorem zIQ {w0:World} {H0:Hp} (hw:Holds w0 H0) (ak:Str) {r:((List Str)×Bool)} (h:zGQ ak=some r) :
  Con Tryz.prog 102 [(str ak)] w0 H0 (fun H' v=>∃ u1:Value,v=(.tuple ⟨[u1,(boo r.2)]⟩)∧Sl H' u1 r.1):=by
 refine CM 75 Tryz.func102 hw fun S=>?_
 refine Ws<|Wg<|A<|A<|We<|Ws<|Ws<|Wg<|M<|Ns<|La<|M<|B h fun b4 q h=>WL.grp 4 [12,13,14] 15 (boo b4) ?_ ?_
 ·rcases boolE (decide ((ak.length:Int)<2)) with l | l
  ·replace q:=condT q l
   refine Gn l<|Gn l<|Gn l<|Pt l ?_
   exact We ⟨(ob q),ag,rfl⟩
  replace q:=condF q l
  refine Gy l<|M<|Gy l<|B q fun c3 a3 q=>Ja a3<|Gy l<|Mf c3 40<|Pf l ?_
  exact We ⟨(ob q),ag,rfl⟩
 intro us
 refine M<|B h fun b8 t h=>WL.grp 7 [17,18,19,20,21,22] 23 (boo b8) ?_ ?_
 ·rcases boolE b4 with j | j
  ·replace t:=condT t j
   refine Gn j<|Gn j<|Gn j<|Gn j<|Gn j<|Gn j<|Pt j ?_
   exact We ⟨(ob t),ag,rfl⟩
  replace t:=condF t j
  refine Gy j<|M<|Gy j<|M<|Gy j<|Ns<|Gy j<|Lh<|Gy j<|B t fun c7 a6 t=>Ja a6<|Gy j<|Mf c7 41<|Pf j ?_
  exact We ⟨(ob t),ag,rfl⟩
 intro us
 refine We ?_
 rcases condE h with ⟨al,h⟩ | ⟨al,h⟩
 ·refine CT al<|Ws<|Wg<|A<|A<|We ?_
  cases h
  refine WP.ret (Out.two rfl S rfl rfl ?_)
  exact ⟨_,rfl,Sl.nil⟩
 refine CF al<|Wk<|Ws<|Wg<|A<|We<|Ws<|Wg<|M<|M<|Ns<|Lh<|B h fun a7 a8 h=>Jb a8<|A<|We ?_
 have S:=S.addNil 9 1
 refine B h fun a9 ba h=>WP.cut (fun _ _=>False) ?_ (fun _ _ h=>h.elim)
 refine Wb ?_
 refine WP.loopM (zCT) (fun s f w=>match s with | (am,z)=>∃ (an:Hp) (p:Value),f 0=(str am)∧f 4=p∧Sl an p z∧St w0 H0 w an [.row p 9 1 z.length]) (a7,([]:List Str)) a9 ba ?_ ?_
 ·exact ⟨H0,.slice none 0 0,rfl,rfl,Sl.nil,S⟩
 intro s f w hI cd b ao
 obtain ⟨am,z⟩:=s
 obtain ⟨an,p,bb,ap,c,S⟩:=hI
 refine Wb<|Ws<|Wg<|M' bb<|B b fun af bc b=>W.call S rfl (zIF S.holds am [32] bc) ?_
 rintro ce cf cg bd S rfl
 have c:=c.up bd
 refine A<|We<|Ws<|Ws<|Wg<|M<|Na<|We ?_
 rcases condE b with ⟨aq,b⟩ | ⟨aq,b⟩
 ·refine CT aq<|Ws<|Wg<|M' ap<|A<|A<|We ?_
  cases b
  obtain rfl:=ao
  cases h
  refine WP.ret (Out.two rfl S rfl rfl ?_)
  exact ⟨_,rfl,c⟩
 refine CF aq<|Wk<|Ws<|Wg<|M<|B b fun ch be b=>W.call S rfl (zLH S.holds af be) ?_
 rintro ci cj bf bg S rfl
 have c:=c.up bg
 refine A<|We<|Ws<|Ws<|Wg<|M<|B b fun bh bi b=>Ja bi<|Me bh 34<|We<|B b fun ah aa b=>WP.cut (fun f w=>∃ (ai:Hp),f 0=(str af)∧f 4=p∧f 5=(int ah)∧Sl ai p z∧St w0 H0 w ai [.row p 9 1 z.length]) ?_ ?_
 ·rcases condE aa with ⟨ar,aa⟩ | ⟨ar,aa⟩
  ·refine CT ar<|Wg<|M<|B aa fun ck bj aa=>W.call S rfl (zKC S.holds af bj) ?_
   rintro cl cm bk bn S rfl
   have c:=c.up bn
   refine A<|We ?_
   cases aa
   exact ⟨bk,rfl,ap,rfl,c,S⟩
  refine CF ar<|Wk ?_
  cases aa
  exact ⟨bf,rfl,ap,rfl,c,S⟩
 rintro f w ⟨ai,ac,a0,ad,c,S⟩
 refine Ws<|Ws<|Wg<|M' ad<|Le<|M<|B b fun bo u b=>WL.grp 11 [44,45,46,47,48,49,50,51,52,53] 54 (boo bo) ?_ ?_
 ·rcases boolE (ah==0) with d | d
  ·replace u:=condT u d
   refine Gn d<|Gn d<|Gn d<|Gn d<|Gn d<|WL.gund rfl rfl<|WL.gund rfl rfl<|WL.gund rfl rfl<|WL.gund rfl rfl<|Gn d<|Pt d ?_
   exact We ⟨(ob u),ag,rfl⟩
  replace u:=condF u d
  refine Gy d<|M' ad<|Gy d<|M' ac<|Gy d<|Ns<|Gy d<|La<|Gy d<|M<|B u fun bp x u=>WL.grp 5 [49,50,51,52] 53 (boo bp) ?_ ?_
  ·rcases boolE (decide (ah<(af.length:Int))) with k | k
   ·replace x:=condT x k
    refine Gy k<|M' ac<|Gy k<|M' ad<|Gy k<|B x fun bq br x=>Ja br<|Gy k<|Mf bq 32<|Gy d<|Pt k ?_
    exact We ⟨(ob x),ag,rfl⟩
   replace x:=condF x k
   refine Gn k<|Gn k<|Gn k<|Gn k<|Gy d<|Pf k ?_
   exact We ⟨(ob x),ag,rfl⟩
  intro us
  refine Pf d ?_
  exact We ⟨(ob u),ag,rfl⟩
 intro us
 refine We ?_
 rcases condE b with ⟨au,b⟩ | ⟨au,b⟩
 ·refine CT au<|Ws<|Wg<|A<|A<|We ?_
  cases b
  obtain rfl:=ao
  cases h
  refine WP.ret (Out.two rfl S rfl rfl ?_)
  exact ⟨_,rfl,Sl.nil⟩
 refine CF au<|Wk<|Ws<|Wg<|M' ac<|M' ad<|B b fun bs bt b=>Jd bt<|A<|We<|Ws<|Ws<|Wg<|M' ac<|B b fun bu bv b=>Ja bv<|Me bu 34<|We<|B b fun a1 o b=>WP.cut (fun f w=>match a1 with | .inl aj=>∃ (av:Hp),f 0=(str af)∧f 4=p∧f 5=(int ah)∧f 6=(str aj)∧Sl av p z∧St w0 H0 w av [.row p 9 1 z.length] | .inr _=>False) ?_ ?_
 ·rcases condE o with ⟨aw,o⟩ | ⟨aw,o⟩
  ·refine CT aw<|Ws<|Wg<|A<|We<|Ws<|Wg<|M<|B o fun cn bw o=>W.call S rfl (zG4 S.holds bs bw) ?_
   rintro co cp bx bz S rfl
   have c:=c.up bz
   refine M ?_
   refine Ex ?_
   refine Ex<|A<|A<|We<|Ws<|Wg<|M<|No<|We ?_
   rcases condE o with ⟨ax,o⟩ | ⟨ax,o⟩
   ·refine CT ax<|Ws<|Wg<|A<|A<|We ?_
    cases o
    cases b
    obtain rfl:=ao
    cases h
    refine WP.ret (Out.two rfl S rfl rfl ?_)
    exact ⟨_,rfl,Sl.nil⟩
   refine CF ax<|Wk ?_
   cases o
   exact ⟨bx,ac,a0,ad,rfl,c,S⟩
  refine CF aw<|Wk ?_
  cases o
  exact ⟨ai,ac,a0,ad,rfl,c,S⟩
 intro f w hM
 rcases a1 with aj | e
 ·obtain ⟨av,b0,b1,b2,b3,c,S⟩:=hM
  refine Ws<|Wg<|M' b1<|M' b3<|W.bslice (α:=Str) [(str aj)] ([aj]:List Str) S el34 rfl rfl rfl (by decide) (Go.Eng.encS ⟨rfl,rfl⟩ enc0) ?_
  intro cq cr cs b5 b6 S
  have c:=c.up b5
  refine B b fun ct b7 b=>W.app (α:=Str) (i:=1) S el34 rfl rfl rfl c b6 b7 ?_
  intro b9 cu ca cv cb S
  refine A<|We<|Wg<|M' b0<|M' b2<|B b fun cw cc b=>Jc cc<|A<|We ?_
  cases b
  exact ⟨rfl,⟨ca,b9,rfl,rfl,cb,(S.drop _ (.cons _ (.cons_cons _ .slnil)))⟩⟩
 exact hM.elim
theorem zJB {q:World} {o:Hp} (hw:Holds q o) (u:(List GField)) {au:Value} (x:Sl o au u) {r:((List GAxis)×Int)} (h:zEi u=some r) :
  Con Tryz.prog 67 [au] q o (fun H' v=>∃ u1:Value,v=(.tuple ⟨[u1,(int r.2)]⟩)∧Sl H' u1 r.1):=by
 refine CM 52 Tryz.func67 hw fun S=>?_
 refine Ws<|Wg<|A<|A<|We<|Ws<|Ws<|Wg<|M<|B h fun r1 a9 h=>W.call S rfl (zE5 S.holds u [86,97,114,105,97,110,116,115] x a9) ?_
 rintro v2 w3 H4 ba S rfl
 have x:=x.up ba
 refine No<|We ?_
 rcases condE h with ⟨af,h⟩ | ⟨af,h⟩
 ·refine CT af<|Ws<|Wg<|A<|A<|We ?_
  cases h
  refine WP.ret (Out.two rfl S rfl rfl ?_)
  exact ⟨_,rfl,Sl.nil⟩
 refine CF af<|Wk<|Ws<|Wg<|A<|We<|Ws<|Ws<|Wg<|M<|B h fun r7 bb h=>W.call S rfl (zDx S.holds u [86,97,114,105,97,110,116,115] x bb) ?_
 rintro v8 w9 bc b2 S c
 refine Nq c<|M<|We ?_
 have S:=S.addNil 68 2
 refine B h fun ai bd h=>WP.cut (fun f w=>match ai with | .inl z=>∃ (aj:Hp) (aa:Value),f 4=aa∧Sl aj aa z∧St q o w aj [.row aa 68 2 z.length] | .inr _=>False) ?_ ?_
 ·refine Wb ?_
  refine WP.loopM (zCK r7) (fun s f w=>match s with | (ab,ax)=>∃ (t:Hp) (p:Value),f 4=p∧f 16=v8∧f 17=(int (r7.length:Int))∧f 18=(int ax)∧Sl t p ab∧Sl t v8 r7∧St q o w t [.row p 68 2 ab.length]) (([]:List GAxis),0) ai bd ?_ ?_
  ·exact ⟨bc,.slice none 0 0,rfl,rfl,rfl,rfl,Sl.nil,c,S⟩
  intro s f w hI b3 b ay
  obtain ⟨ab,ax⟩:=s
  obtain ⟨t,p,az,a0,a1,ak,d,c,S⟩:=hI
  refine Ws<|Wg<|La' ak a1<|We<|Ws ?_
  rcases condE b with ⟨al,b⟩ | ⟨al,b⟩
  ·refine CT al<|Wk<|Ws<|Wb<|Ws<|Wg<|B b fun be bf b=>W.idx (α:=Str) c a0 ak el34 bf ?_
   rintro b4 _ bg rfl
   refine Lq S bg<|A<|We<|Ws<|Wg<|M<|B b fun am bh b=>W.call S rfl (zF8 S.holds be [61] bh) ?_
   rintro b5 b6 b7 a2 S rfl
   have d:=d.up a2
   have c:=c.up a2
   refine M ?_
   refine Ex ?_
   refine Ex ?_
   refine Ex<|A<|A<|A<|We<|Ws<|Wg<|M<|B b fun a3 bi b=>W.call S rfl (zIQ S.holds am.2.1 bi) ?_
   rintro b8 b9 a4 a5 S ⟨an,rfl,k⟩
   have d:=d.up a5
   have c:=c.up a5
   refine M ?_
   refine Ex ?_
   refine Ex<|A<|A<|We<|Ws<|Ws<|Wg<|M<|No<|M<|B b fun bj l b=>WL.grpw 4 [36,37,38] 39 (boo bj) (fun w=>∃ H':Hp,a4.le H'∧St q o w H' [.row p 68 2 ab.length]) ?_ ?_
   ·rcases boolE (!a3.2) with j | j
    ·replace l:=condT l j
     refine Gn j<|Gn j<|Gn j<|Pt j ?_
     exact We ⟨(ob l),ag,⟨a4,lr,S⟩⟩
    replace l:=condF l j
    refine Gy j<|M<|Gy j<|B l fun ca bk l=>W.call S rfl (zAz S.holds am.1 bk) ?_
    rintro cb cc bn ac S rfl
    have d:=d.up ac
    have c:=c.up ac
    have k:=k.up ac
    refine Gy j<|No<|Pf j ?_
    exact We ⟨(ob l),ag,⟨bn,ac,S⟩⟩
   intro us cd ⟨ce,ao,S⟩
   have d:=d.up ao
   have c:=c.up ao
   have k:=k.up ao
   refine We ?_
   rcases condE b with ⟨ap,b⟩ | ⟨ap,b⟩
   ·refine CT ap<|Ws<|Wg<|A<|A<|We ?_
    cases b
    obtain rfl:=ay
    cases h
    refine WP.ret (Out.two rfl S rfl rfl ?_)
    exact ⟨_,rfl,Sl.nil⟩
   refine CF ap<|Wk<|Wg<|M' az<|M<|B b fun ad bo b=>W.call S rfl (zAV S.holds am.1 bo) ?_
   rintro cf cg ch aq S rfl
   have d:=d.up aq
   have c:=c.up aq
   have k:=k.up aq
   refine M ?_
   refine WL.w (R.build [(0,(str ad)),(1,an)] [(str ad),an] bp68 zer68 rfl (by obtain ⟨_,_,rfl,_⟩:=k; rfl))<|W.bslice (α:=GAxis) [(agg [(str ad),an])] ([(⟨ad,a3.1⟩:GAxis)]:List GAxis) S el22 rfl rfl rfl (by decide) (Go.Eng.encS ⟨rfl,_,rfl,k⟩ enc0) ?_
   intro ci cj ck a6 bp S
   have d:=d.up a6
   have c:=c.up a6
   refine B b fun cl bq b=>W.app (α:=GAxis) (i:=1) S el22 rfl rfl rfl d bp bq ?_
   intro br cm bs a7 bt S
   have d:=d.up a7
   have c:=c.up a7
   refine A<|We<|Wg<|Lg' ak rfl<|M<|We ?_
   cases b
   exact ⟨rfl,⟨bs,br,rfl,a0,a1,rfl,bt,c,(S.drop _ (.cons _ (.cons_cons _ .slnil)))⟩⟩
  refine CF al<|Wx ?_
  cases b
  obtain rfl:=ay
  exact ⟨t,p,az,d,S⟩
 intro f w hM
 rcases ai with z | e
 ·obtain ⟨aj,aa,a8,ae,S⟩:=hM
  refine Ws<|Ws<|Wg<|M' a8<|B h fun cn bu h=>W.call S rfl (zCD S.holds z ae bu) ?_
  rintro co cp cq bv S rfl
  have ae:=ae.up bv
  refine No<|We ?_
  rcases condE h with ⟨ar,h⟩ | ⟨ar,h⟩
  ·refine CT ar<|Ws<|Wg<|A<|A<|We ?_
   cases h
   refine WP.ret (Out.two rfl S rfl rfl ?_)
   exact ⟨_,rfl,Sl.nil⟩
  refine CF ar<|Wk<|Ws<|Wg<|M' a8<|A<|A<|We ?_
  cases h
  refine WP.ret (Out.two rfl S rfl rfl ?_)
  exact ⟨_,rfl,ae⟩
 exact hM.elim
theorem zGs {j:World} {b:Hp} (hw:Holds j b) (d:Str) (c:GAxis) (k:(List Str)) (f:Int) {l:Value} {i:Value} {o:Addr} {p:Addr} {q:Addr} (u:At b o [(str c.fName),l]) (ah:Sl b l c.fValues) (x:At b p [i]) (z:Sl b i k) (aa:At b q [(int f)]) {r:Bool} (h:zBX d c k f=some r) :
  Cb Tryz.prog 136 [(str d),(.pointer (some o)),(.pointer (some p)),(.pointer (some q))] j b r:=by
 refine CM 14 Tryz.func136 hw fun S=>?_
 refine Ws<|Wg<|A<|We<|Ws<|WP.quiet S kr kr<|QFc ?_
 have ab:=At.add u 0 (by simp)
 refine QH (str c.fName) ab<|QM ?_
 refine QH i x ?_
 refine QH (int f) aa<|B h fun t ac h=>WQ.idx (α:=Str) z rfl rfl el34 ac ?_
 rintro a6 _ ad rfl
 refine QH (str t) ad<|B h fun r8 af h=>WQ.call (v:=boo r8) rfl (fun w H' hq S=>zG8 S.holds c.fName d t af)<|QA<|WQ.nil ?_
 intro w1 H2 al S
 exact WP.ret (Rb h S)
theorem zEE {j:World} {c:Hp} (hw:Holds j c) (i:(List Str)) (o:(Str→Option Bool)) {k:Value} {kp_f:FuncId} {cp_f:List Value} (d:Sl c k i) (Fp_f:∀ {w:World} {H:Hp},c.le H→Holds w H→∀ (x:Str) (rr:Bool),o x=some rr→Con Tryz.prog kp_f ([(str x)]++cp_f) w H (fun H' v=>v=(boo rr))) {r:Int} (h:zAq i o=some r) :
  Ci Tryz.prog 135 [k,(.func (.func kp_f) #[] cp_f.toArray)] j c r:=by
 refine CM 19 Tryz.func135 hw fun S=>?_
 refine Ws<|Wg<|A<|We<|Ws<|Ws<|Wg<|M<|Nq d<|M<|We<|B h fun p af h=>WP.cut (fun f w=>match p with | .inl _=>∃ (z:Hp),St j c w z [] | .inr _=>False) ?_ ?_
 ·refine Wb ?_
  refine WP.loopM (zAX i o) (fun s f w=>match s with | aa=>∃ (l:Hp),f 0=k∧f 1=(.func (.func kp_f) #[] cp_f.toArray)∧f 7=(int (i.length:Int))∧f 8=(int aa)∧Sl l k i∧St j c w l []) 0 p af ?_ ?_
  ·exact ⟨c,rfl,rfl,rfl,rfl,d,S⟩
  intro aa f w hI y8 b ab
  obtain ⟨l,h2,h3,h4,q,d,S⟩:=hI
  refine Ws<|Wg<|La' q h4<|We<|Ws ?_
  rcases condE b with ⟨t,b⟩ | ⟨t,b⟩
  ·refine CT t<|Wk<|Ws<|Wb<|Ws<|Wg<|M' q<|A<|We<|Ws<|Wg<|M' h3 ?_
   refine M' h2<|M<|B b fun ah ai b=>W.idx (α:=Str) d rfl rfl el34 ai ?_
   rintro ao _ aj rfl
   refine Lq S aj<|B b fun ap ak b=>W.callv S rfl rfl (Fp_f (S.post.le) S.holds ah _ ak) ?_
   rintro aq ar al am S rfl
   have d:=d.up am
   refine We ?_
   rcases condE b with ⟨u,b⟩ | ⟨u,b⟩
   ·refine CT u<|Ws<|Wg<|M<|A<|We ?_
    cases b
    obtain rfl:=ab
    exact WP.ret (Ri h S)
   refine CF u<|Wk<|Wg<|Lg' q rfl<|M<|We ?_
   cases b
   exact ⟨rfl,⟨al,h2,h3,h4,rfl,d,S⟩⟩
  refine CF t<|Wx ?_
  cases b
  obtain rfl:=ab
  exact ⟨l,S⟩
 intro f w hM
 rcases p with _ | e
 ·obtain ⟨z,S⟩:=hM
  refine Ws<|Wg<|A<|We ?_
  exact WP.ret (Ri h S)
 exact hM.elim
theorem zHN {u:World} {k:Hp} (hw:Holds u k) (aj:(List GAxis)) (ad:(List Str)) {am:Value} {ae:Value} (d:Sl k am aj) (c:Sl k ae ad) {r:((List Str)×Bool)} (h:zCp aj ad=some r) :
  Con Tryz.prog 103 [am,ae] u k (fun H' v=>∃ u1:Value,v=(.tuple ⟨[u1,(boo r.2)]⟩)∧Sl H' u1 r.1):=by
 refine CM 41 Tryz.func103 hw fun S=>?_
 refine Ws<|Wg ?_
 refine W.box [ae] S rfl (congrArg Array.toList (Sl.cellsOne c)) ?_
 intro b1 w2 S
 refine A<|A<|We<|Ws<|Ws<|Wg ?_
 refine Lo 0 S<|Nq c<|M<|Nq d<|Lf<|We ?_
 rcases condE h with ⟨aw,h⟩ | ⟨aw,h⟩
 ·refine CT aw<|Ws<|Wg<|A<|A<|We ?_
  cases h
  refine WP.ret (Out.two rfl S rfl rfl ?_)
  exact ⟨_,rfl,Sl.nil⟩
 refine CF aw<|Wk<|Ws<|Wg ?_
 refine Lo 0 S<|Nq c<|B h fun l4 bn h=>W.makeSlice (α:=Str) (zv:=(str [])) (z:=[]) S el34 rfl rfl rfl zer9 rfl bn ?_
 intro q w6 bb x bo ax S
 refine A<|We<|Ws<|Ws<|Wg<|M<|Nq d<|M<|We ?_
 obtain ⟨ay,az,bp,_,S⟩:=S.settle (i:=1) rfl
 replace S:St u k _ ay [.box q 9 bb]:=S
 have j:At ay ⟨b1,0,none⟩ [ae]:=⟨_,_,rfl,bp,[],by simp⟩
 have d:=d.up az
 have c:=c.up az
 have ax:=Ms.mono ax az
 refine B h fun a0 bq h=>WP.cut (fun f w=>match a0 with | .inl ao=>∃ (a1:Hp) (ap:List Value),f 6=(.slice (some ⟨q,0,none⟩) x x)∧Ms a1 ap ao∧ao.length=x∧St u k w a1 [.box q 9 ap] | .inr _=>False) ?_ ?_
 ·refine Wb ?_
  refine WP.loopM (zAh aj ad) (fun s f w=>match s with | (t,aq)=>∃ (aa:Hp) (af:List Value),f 3=(.pointer (some ⟨b1,0,none⟩))∧f 6=(.slice (some ⟨q,0,none⟩) x x)∧f 18=am∧f 19=(int (aj.length:Int))∧f 20=(int t)∧At aa ⟨b1,0,none⟩ [ae]∧Sl aa ae ad∧Sl aa am aj∧Ms aa af aq∧aq.length=x∧St u k w aa [.box q 9 af]) (0,l4) a0 bq ?_ ?_
  ·exact ⟨ay,bb,rfl,rfl,rfl,rfl,rfl,j,c,d,ax,bo,S⟩
  intro s f w hI cg b bc
  obtain ⟨t,aq⟩:=s
  obtain ⟨aa,af,bd,a2,be,bf,ar,j,c,d,o,a3,S⟩:=hI
  refine Ws<|Wg<|La' ar bf<|We<|Ws ?_
  rcases condE b with ⟨a4,b⟩ | ⟨a4,b⟩
  ·refine CT a4<|Wk<|Ws<|Wb<|Ws<|Wg<|M' ar<|B b fun ab br b=>W.idx (α:=GAxis) d be ar el22 br ?_
   rintro ch _ bs ⟨ak,rfl,p⟩
   refine WL.w (R.loadHN (vs:=[(str ab.fName),ak]) S rfl bs lay68 rfl rfl) ?_
   refine W.alloc [(int 0)] S zer3 ?_
   intro a5 ci S
   refine W.alloc [(str []),(.slice none 0 0)] S zer68 ?_
   intro bg cj S
   refine W.store (i:=1) [(int t)] S rfl rfl rfl lay3 rfl rfl (Nat.le_of_ble_eq_true rfl) rfl ?_
   intro ck S
   refine W.store (i:=0) [(str ab.fName),ak] S rfl rfl rfl lay68 rfl (AllOne.all (l:=[(str ab.fName),ak]) (.cons rfl (.cons (Sl.oneC p) .nil))) (Nat.le_of_ble_eq_true rfl) rfl ?_
   intro cl S
   refine We<|Ws<|Wg<|Fb ?_
   refine Lo 0 S ?_
   obtain ⟨bh,al,bt,_,S⟩:=S.settle (i:=0) rfl
   replace S:St u k _ bh [.box a5 3 [(int t)],.box q 9 af]:=S
   have ah:At bh ⟨bg,0,none⟩ [(str ab.fName),ak]:=⟨_,_,rfl,bt,[],by simp⟩
   have j:=At.mono j al (by simp)
   have c:=c.up al
   have d:=d.up al
   have p:=p.up al
   have o:=Ms.mono o al
   obtain ⟨bi,ai,bu,_,S⟩:=S.settle (i:=0) rfl
   replace S:St u k _ bi [.box q 9 af]:=S
   have au:At bi ⟨a5,0,none⟩ [(int t)]:=⟨_,_,rfl,bu,[],by simp⟩
   have j:=At.mono j ai (by simp)
   have c:=c.up ai
   have d:=d.up ai
   have p:=p.up ai
   have ah:=At.mono ah ai (by simp)
   have o:=Ms.mono o ai
   refine WL.w (R.mkFunc (vs:=[(.pointer (some ⟨bg,0,none⟩)),(.pointer (some ⟨b1,0,none⟩)),(.pointer (some ⟨a5,0,none⟩))]) (mapC rfl (mapC bd (mapC rfl mapN))))<|B b fun cm bv b=>W.call S rfl (zEE S.holds ab.fValues (fun x0=>zBX x0 ab ad t) p (fun hle hw x0 r h=>zGs hw x0 ab ad t (At.mono ah hle (by simp)) (p.up hle) (At.mono j hle (by simp)) (c.up hle) (At.mono au hle (by simp)) h) bv) ?_
   rintro cn co cp ac S rfl
   have j:=At.mono j ac (by simp)
   have c:=c.up ac
   have d:=d.up ac
   have p:=p.up ac
   have au:=At.mono au ac (by simp)
   have ah:=At.mono ah ac (by simp)
   have o:=Ms.mono o ac
   refine A<|We<|Ws<|Ws<|Wg<|M<|La<|We ?_
   rcases condE b with ⟨a7,b⟩ | ⟨a7,b⟩
   ·refine CT a7<|Ws<|Wg<|A<|A<|We ?_
    cases b
    obtain rfl:=bc
    cases h
    refine WP.ret (Out.two rfl S rfl rfl ?_)
    exact ⟨_,rfl,Sl.nil⟩
   refine CF a7<|Wk<|WP.quietTail 8 S kr kr<|QM' a2 ?_
   refine QH (int t) au<|QFc ?_
   have bw:=At.add ah 1 (by simp)
   refine QH ak bw<|QM<|B b fun bx bz b=>WQ.idx (α:=Str) p rfl rfl el34 bz ?_
   rintro cq _ b0 rfl
   refine QH (str bx) b0<|B b fun cr b2 b=>?_
   refine WQ.val (fun _ _=>(R.idxM (α:=Str) (xs:=aq) rfl a3 rfl el34 b2))<|WQ.nil ?_
   intro cs b3 av S
   have j:=At.mono j av (by simp)
   have c:=c.up av
   have d:=d.up av
   have o:=Ms.mono o av
   refine B b fun ct bj b=>?_
   refine W.storeM (α:=Str) (i:=0) (m:=t) S o rfl rfl rfl lay9 rfl rfl bj ?_
   intro cu b4 b6 S
   have b7:=(zFs bj).1.trans a3
   refine We<|Wg<|Lg' ar rfl<|M<|We ?_
   cases b
   exact ⟨rfl,⟨b3,b4,bd,a2,be,bf,rfl,j,c,d,b6,b7,S⟩⟩
  refine CF a4<|Wx ?_
  cases b
  obtain rfl:=bc
  exact ⟨aa,af,a2,o,a3,S⟩
 intro f w hM
 rcases a0 with ao | e
 ·obtain ⟨a1,ap,b8,a8,b9,S⟩:=hM
  refine Ws<|Wg<|M' b8<|A<|A<|We ?_
  obtain ⟨a9,ca,cb,_,S⟩:=S.settle (i:=0) rfl
  replace S:St u k _ a9 []:=S
  have cc:At a9 ⟨q,0,none⟩ ap:=⟨_,_,rfl,cb,[],by simp⟩
  have a8:=Ms.mono a8 ca
  have cd:Sl a9 (.slice (some ⟨q,0,none⟩) x x) ao:=Ms.sl a8 b9 cc
  cases h
  refine WP.ret (Out.two rfl S rfl rfl ?_)
  exact ⟨_,rfl,cd⟩
 exact hM.elim
theorem zHX {f:World} {b:Hp} (hw:Holds f b) (c:(List Str)) (d:(List Str)) {i:Value} {j:Value} {k:Addr} (l:Sl b i c) (o:At b k [j]) (p:Sl b j d) {r:Bool} (h:zBv c d=some r) :
  Cb Tryz.prog 104 [i,(.pointer (some k))] f b r:=by
 refine CM 7 Tryz.func104 hw fun S=>?_
 refine Ws<|Wg<|A<|We<|Ws<|Wg<|M ?_
 refine Lq S o<|B h fun t q h=>W.call S rfl (zAu S.holds c d l p q) ?_
 rintro u v x z S rfl
 refine A<|We ?_
 exact WP.ret (Rb h S)
end Go.Proofs
