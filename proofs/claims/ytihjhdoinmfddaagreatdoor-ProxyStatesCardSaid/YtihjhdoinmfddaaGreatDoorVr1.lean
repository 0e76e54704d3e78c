/- A part. -/
import Derived.Shelf.Strings.IndexAnyAll
import Derived.Laws.RangeAny
import Derived.Laws.Runes
import Derived.WalkMore
import Derived.Lib.OthersKept
import Derived.Shelf.RegionOpenPlain
import Derived.Shelf.Small.Utf8
import Derived.Test.YtihjhdoinmfddaaGreatDoorEng41
set_option linter.unusedVariables false
set_option linter.unusedSimpArgs false
namespace Go.Proofs
open Go.Shelf Go.RowKit Go.Lib
variable {P:Program} {ρ:Ren}
set_option maxHeartbeats 4000000 in
set_option maxRecDepth 1000000 in
theorem zIa (L : Lays.n152 P ρ) (s : ByteArray) (w : World) (hascii : ∀ (j : Nat) b, s.data.toList[j]? = some b → b.toNat < 128) :
  Calls P (ρ.f 152) #[.string s,.int .i32 65533] w fun e w'=>e=.returned (.int .i64 (-1))∧Below w.heap.size w w':=by
 have HA:Aside (∀ (j:Nat) b,s.data.toList[j]?=some b→b.toNat<128):=hascii;clear hascii;have mixed:=L.mixed;have t3:=L.t3; have a3:=L.a3; have z3:=L.z3; have v3:=L.v3;have t4:=L.t4; have a4:=L.a4; have z4:=L.z4; have v4:=L.v4;have t5:=L.t5; have a5:=L.a5; have z5:=L.z5; have v5:=L.v5;have t9:=L.t9; have a9:=L.a9; have z9:=L.z9; have v9:=L.v9;have t21:=L.t21; have a21:=L.a21; have z21:=L.z21; have v21:=L.v21
 go_enter L.f152,Body.n152_ntmps ρ
 go_wp2
 go_loopg [5,6] s.size (fun g _ _ wx=>∃ i:Nat,i+g=s.size∧wx=w.iter s i)
 case atStart=>grind
 case round =>
  obtain ⟨i,hig,rfl⟩:=hrel;cases gk with
  | zero =>
   obtain rfl:i=s.size:=by omega
   have hnx:=run_next_end (P:=P) w s s.size
   go_wp2
   go_ret
   exact ⟨rfl,(Below.refl _ _).alloc (nR _) _⟩
  | succ g =>
   have hi:i<s.size:=by omega
   obtain ⟨x,hx⟩:∃ x:UInt8,s[i]'hi=x:=⟨_,rfl⟩;have hxl:s.data.toList[i]?=some x:=by rw [← hx]; exact Lib.data_getElem? s i hi
   have hx128:x.toNat<128:=HA.out i x hxl;have hnx:=fun ty=>run_next_ascii (P:=P) w s i ty hi (by rw [hx]; exact hx128)
   rw [hx] at hnx;have hne:((x.toNat:Int)==65533)=false:=beq_eq_false_iff_ne.2 (by omega);clear hxl hx
   go_wp2
   go_roundg g
   all_goals grind
set_option maxHeartbeats 4000000 in
set_option maxRecDepth 1000000 in
theorem zIE (L : Lays.n152 P ρ) (s : ByteArray) (r : Int) (w : World) (h0 : 128 ≤ r) (h1 : r ≤ 2147483647) (hne : r ≠ 65533) (hascii : ∀ (j : Nat) b, s.data.toList[j]? = some b → b.toNat < 128) :
  Calls P (ρ.f 152) #[.string s,.int .i32 r] w fun e w'=>e=.returned (.int .i64 (-1))∧Below w.heap.size w w':=by
 have HA:Aside (∀ (j:Nat) b,s.data.toList[j]?=some b→b.toNat<128):=hascii;clear hascii;have mixed:=L.mixed;have t3:=L.t3; have a3:=L.a3; have z3:=L.z3; have v3:=L.v3;have t4:=L.t4; have a4:=L.a4; have z4:=L.z4; have v4:=L.v4;have t5:=L.t5; have a5:=L.a5; have z5:=L.z5; have v5:=L.v5;have t9:=L.t9; have a9:=L.a9; have z9:=L.z9; have v9:=L.v9;have t21:=L.t21; have a21:=L.a21; have z21:=L.z21; have v21:=L.v21;have e1:(r==65533)=false:=beq_eq_false_iff_ne.2 hne;have e2:(r<128)=False:=eq_false (by omega);have e119:∀ args w,(callFunc (ρ.f 119) args).run P w=.ok (.enter (ρ.f 119) args) w:=enters_of L.f119 (by kernel_rfl) rfl;have e137:∀ args w,(callFunc (ρ.f 137) args).run P w=.ok (.enter (ρ.f 137) args) w:=enters_of L.f137 (by kernel_rfl) rfl;have HV:Aside (Utf8.valid r=Lib.validRune r):=Go.validRune_eq r;cases hv:Lib.validRune r with
 | false =>
  go_enter L.f152,Body.n152_ntmps ρ
  go_wp2_with (go_at_fn (ρ.f 119); refine (Any.utf8_ValidRune { L with } _ _).mono ?_; rintro e w' ⟨rfl,hw⟩; rw [hw,hv])
  go_ret
  exact ⟨rfl,Below.refl _ _⟩
 | true =>
  obtain ⟨n2,n4,hl⟩:=encode_facts r (HV.out.trans hv) h0;obtain ⟨rs,hrs⟩:∃ rs,Utf8.encode r=rs:=⟨_,rfl⟩;rw [hrs] at n2 n4 hl;obtain ⟨n,hn⟩:∃ n,rs.size=n+1:=⟨rs.size - 1,by omega⟩;have hcv:(convert (ρ.t 21) (ρ.t 9) (.int .i32 r)).run P w=.ok (.string rs) w:=by rw [run_convert_int_string w _ _ .i32 r (by rw [t21]; rfl) t9,hrs]
  have hnz:(rs.size:Int) - 1=(n:Int):=by omega
  go_enter L.f152,Body.n152_ntmps ρ
  go_wp2_with (go_at_fn (ρ.f 119); refine (Any.utf8_ValidRune { L with } _ _).mono ?_; rintro e w' ⟨rfl,hw⟩; rw [hw,hv])
  go_wp2
  go_step3
  go_wp2
  go_loopg [9,10] 0 (fun _ s9 _ wx=>s9=.int .i64 n∧wx=w)
  case atStart=>grind
  case round =>
   obtain ⟨rfl,rfl⟩:=hrel;by_cases hin:n<s.size
   ·have hinz:(n:Int)<(s.size:Int):=by omega
    obtain ⟨x,hx⟩:∃ x:UInt8,s[n]'hin=x:=⟨_,rfl⟩;have hxl:s.data.toList[n]?=some x:=by rw [← hx]; exact Lib.data_getElem? s n hin
    have hx128:x.toNat<128:=HA.out n x hxl;have hrn:n<rs.size:=by omega
    obtain ⟨y,hy⟩:∃ y:UInt8,rs[n]'hrn=y:=⟨_,rfl⟩;have hy128:128≤y.toNat:=by
     rw [← hy];have:=hl (by omega);have e:rs.size - 1=n:=by omega
     simpa only [e] using this
    have hxy:((x.toNat:Int)==(y.toNat:Int))=false:=beq_eq_false_iff_ne.2 (by omega);have hrz:(n:Int)<(rs.size:Int):=by omega
    have hback:((y.toNat:Int)).toNat.toUInt8=y:=by simp
    have hno:∀ a e,Lib.indexByte (s.extract a e).data.toList y=-1:=fun a e=>by
     have key:∀ (l:List UInt8),(∀ b ∈ l,b.toNat<128)→Lib.indexByte l y=-1:=by
      intro l
      induction l with
      | nil=>intro _; rfl
      | cons b l ih =>
       intro h;have hb:(b==y)=false:=beq_eq_false_iff_ne.2 (fun e=>by have:=h b (by simp); rw [e] at this; omega);rw [Lib.indexByte,hb,ih (fun c hc=>h c (by simp [hc]))];rfl
     refine key _ fun b hb=>?_
     have hm:=mem_extract hb;obtain ⟨j,hj⟩:=lI.1 hm;exact HA.out j b hj
    have HN:Aside (∀ a e,Lib.indexByte (s.extract a e).data.toList y=-1):=hno;clear hno hxl
    go_wp2
    go_step3
    go_wp2
    go_region_o
    have c1:(0:Int)≤(n:Int)+1:=by omega
    have c2:(n:Int)+1≤(s.size:Int):=by omega
    have hwr:IntKind.i64.wrap ((n:Int)+1)=(n:Int)+1:=wrap_small _ c1 (by omega);have c3:((n:Int)+1).toNat=n+1:=by omega
    go_wp2
    go_region_with_o (go_at_fn (ρ.f 137); refine (Any.strings_IndexByte { L with } _ _ _).mono ?_; rintro e w' ⟨rfl,hw⟩; rw [hw,hback,HN.out])
    all_goals go_wp2
    dsimp only [Exit.noGoto,Exit.inBlock,Exit.then]
    go_ret
    exact ⟨rfl,(Below.refl _ _).drew.drew⟩
   ·have hinz:¬ ((n:Int)<(s.size:Int)):=by omega
    go_wp2
    go_ret
    exact ⟨rfl,Below.refl _ _⟩
theorem zIF (L : Lays.n152 P ρ) (s : ByteArray) (r : Int) (w : World) (h0 : 128 ≤ r) (h1 : r ≤ 2147483647) (hascii : ∀ (j : Nat) b, s.data.toList[j]? = some b → b.toNat < 128) :
  Calls P (ρ.f 152) #[.string s,.int .i32 r] w fun e w'=>e=.returned (.int .i64 (-1))∧Below w.heap.size w w':=by
 by_cases h:r=65533
 ·subst h; exact zIa L s w hascii
 ·exact zIE L s r w h0 h1 h hascii
theorem zPh (s : ByteArray) (i : Nat) (hi : i < s.size) (ha : 128 ≤ (s[i]'hi).toNat) :
  i+(Utf8.decode s i).2≤s.size∧1≤(Utf8.decode s i).2∧∀ j,i≤j→j<i+(Utf8.decode s i).2→∀ (h:j<s.size),128≤(s[j]'h).toNat:=by
 have hcont:∀ k,(i+k<s.size&&(s.get! (i+k)).toNat / 64==2)=true→∃ h:i+k<s.size,128≤(s[i+k]'h).toNat:=by
  intro k hk;simp only [bQ,decide_eq_true_eq,beq_iff_eq] at hk;refine ⟨hk.1,?_⟩;have e:s.get! (i+k)=s[i+k]'hk.1:=by
   have:=get_at s (i+k) hk.1
   simpa using this
  grind
 have hn:¬ (s[i]'hi).toNat<128:=by omega
 have one:∀ j,i≤j→j<i+1→∀ (h:j<s.size),128≤(s[j]'h).toNat:=fun j h1 h2 h=>by
  grind
 simp only [Utf8.decode,get_at s i hi,hn,if_false];split
 ·grind
 ·split
  ·rename_i hc
   simp only [bQ] at hc;obtain ⟨g1,g2⟩:=hcont 1 (by simpa using hc.1.2);obtain ⟨k1,k2⟩:=hcont 2 (by simpa using hc.2);split
   all_goals grind
  ·split
   ·rename_i hc
    simp only [bQ] at hc;obtain ⟨g1,g2⟩:=hcont 1 (by simpa using hc.1.1.2);obtain ⟨k1,k2⟩:=hcont 2 (by simpa using hc.1.2);obtain ⟨m1,m2⟩:=hcont 3 (by simpa using hc.2);split
    ·refine ⟨by show i+4≤_; omega,by show 1≤4; omega,fun j h1 h2 h=>?_⟩
     have h2:j<i+4:=h2;by_cases hj:j=i
     ·subst hj; exact ha
     by_cases hj1:j=i+1
     ·subst hj1; exact g2
     by_cases hj2:j=i+2
     ·subst hj2; exact k2
     ·obtain rfl:j=i+3:=by omega
      exact m2
    ·exact ⟨by show i+1≤_; omega,by show 1≤1; omega,one⟩
   grind
set_option maxHeartbeats 8000000 in
set_option maxRecDepth 1000000 in
theorem zHj (L : Lays.n153 P ρ) (s chars : ByteArray) (w : World) (h2 : 2 ≤ chars.size) (h8 : s.size ≤ 8) (hac : ∀ (j : Nat) b, chars.data.toList[j]? = some b → b.toNat < 128) :
  Calls P (ρ.f 153) #[.string s,.string chars] w fun e w'=>e=.returned (.int .i64 (Lib.indexAny s.data.toList chars.data.toList))∧Below w.heap.size w w':=by
 have HA:Aside (∀ (j:Nat) b,chars.data.toList[j]?=some b→b.toNat<128):=hac;clear hac;have hemp:chars.toList.isEmpty=false:=by
  rw [Lib.toList_data];cases h:chars.data.toList with
  | nil=>have:=Lib.size_eq chars; grind
  | cons _ _=>rfl
 have hn1:((chars.size:Int)==1)=false:=beq_eq_false_iff_ne.2 (by omega);have h8z:decide ((8:Int)<(s.size:Int))=false:=decide_eq_false (by omega);have t3:=L.t3; have a3:=L.a3; have z3:=L.z3; have v3:=L.v3;have t4:=L.t4; have a4:=L.a4; have z4:=L.z4; have v4:=L.v4;have t5:=L.t5; have a5:=L.a5; have z5:=L.z5; have v5:=L.v5;have t9:=L.t9; have a9:=L.a9; have z9:=L.z9; have v9:=L.v9;have t21:=L.t21; have a21:=L.a21; have z21:=L.z21; have v21:=L.v21;have e152:∀ args w,(callFunc (ρ.f 152) args).run P w=.ok (.enter (ρ.f 152) args) w:=enters_of L.f152 (by kernel_rfl) rfl;have e226:∀ args w,(callFunc (ρ.f 226) args).run P w=.ok (.enter (ρ.f 226) args) w:=enters_of L.f226 (by kernel_rfl) rfl
 go_enter L.f153,Body.n153_ntmps ρ
 go_wp2_with (go_at_fn (ρ.f 226); refine (Any.strings_shouldUseASCIISet { L with } _ _).mono ?_; rintro e w' ⟨rfl,hw⟩; rw [hw,h8z])
 go_loopg [9,10] s.size (fun g _ _ wx=>∃ i:Nat,i≤s.size∧s.size≤i+g∧wx.heap[w.heap.size]?=some (.stringIter s i)∧Below w.heap.size w wx∧Lib.NoAny s.data.toList chars.data.toList i)
 case atStart=>exact ⟨0,by omega,by omega,World.iter_heap w s 0,(Below.refl _ _).alloc (nR _) _,Lib.NoAny.zero _ _⟩
 case round =>
  obtain ⟨i,hil,hig,hit,hbel,hno⟩:=hrel;have HN:Aside (Lib.NoAny s.data.toList chars.data.toList i):=hno;have HB:Aside (Below w.heap.size w wr):=hbel;clear hno hbel;by_cases hi:i<s.size
  ·obtain ⟨x,hx⟩:∃ x:UInt8,s[i]'hi=x:=⟨_,rfl⟩
   have hxl:s.data.toList[i]?=some x:=by rw [← hx]; exact Lib.data_getElem? s i hi
   have hws:w.heap.size<wr.heap.size:=(Array.getElem?_eq_some_iff.1 hit).1;by_cases hx128:x.toNat<128
   ·have hnx:=fun ty=>Lib.run_next_ascii_at (P:=P) wr w.heap.size s i ty hit hi (by grind)
    rw [hx] at hnx;have hit2:=Lib.iterAt_heap wr w.heap.size s i (i+1) hit;have hbel2:=Lib.below_iterAt HB.out (nR _) s (i+1);have HI:Aside ((wr.iterAt w.heap.size s (i+1)).heap[w.heap.size]?=some (.stringIter s (i+1))):=hit2;have HB2:Aside (Below w.heap.size w (wr.iterAt w.heap.size s (i+1))):=hbel2;have Hx:Aside (s.data.toList[i]?=some x):=hxl;clear hxl hx hit hit2 hbel2;have hcon:=Lib.contains_iff_indexByte chars.data.toList x;have hback:((x.toNat:Int)).toNat.toUInt8=x:=by simp
    cases hin:chars.data.toList.contains x
    ·rw [hin] at hcon
     have hlt:¬ ((0:Int)≤Lib.indexByte chars.data.toList x):=dF hcon.symm;clear hcon
     go_wp2_with (go_at_fn (ρ.f 152); refine (Any.strings_IndexRune_ascii { L with } _ _ _ (by omega) (by omega)).mono ?_; rintro e w' ⟨rfl,hw⟩; rw [hw,hback])
     go_roundg (s.size - (i+1))
     case measure=>omega
     case rel=>exact ⟨i+1,by omega,by omega,HI.out,HB2.out,HN.out.succ Hx.out hin⟩
    ·rw [hin] at hcon
     have hge:(0:Int)≤Lib.indexByte chars.data.toList x:=dT hcon.symm;clear hcon
     go_wp2_with (go_at_fn (ρ.f 152); refine (Any.strings_IndexRune_ascii { L with } _ _ _ (by omega) (by omega)).mono ?_; rintro e w' ⟨rfl,hw⟩; rw [hw,hback])
     go_ret
     exact ⟨by rw [Lib.indexAny_hit HN.out Hx.out hin]; rfl,HB2.out⟩
   ·have hge128:128≤(s[i]'hi).toNat:=by rw [hx]; omega
    obtain ⟨d1,d2,d3⟩:=zPh s i hi hge128;have dh:=decode_high s i hi hge128;have dl:=decode_le s i;obtain ⟨r,n,hrn⟩:∃ r n,Utf8.decode s i=(r,n):=⟨_,_,rfl⟩;rw [hrn] at d1 d2 d3 dh dl;simp only at d1 d2 d3 dh dl;have hnx:=fun ty=>Lib.run_next_any_at (P:=P) wr w.heap.size s i ty hit hi
    rw [hrn] at hnx;simp only at hnx;have HI:Aside ((wr.iterAt w.heap.size s (i+n)).heap[w.heap.size]?=some (.stringIter s (i+n))):=Lib.iterAt_heap wr w.heap.size s i (i+n) hit;have HB2:Aside (Below w.heap.size w (wr.iterAt w.heap.size s (i+n))):=Lib.below_iterAt HB.out (nR _) s (i+n);have HR:=zIF (P:=P) (ρ:=ρ) { L with } chars (r:Int) (wr.iterAt w.heap.size s (i+n)) (by omega) (by omega) HA.out;have HD:Aside (∀ j,i≤j→j<i+n→∀ (h:j<s.size),128≤(s[j]'h).toNat):=d3;have hsz2:(wr.iterAt w.heap.size s (i+n)).heap.size=wr.heap.size:=Lib.iterAt_size _ _ _ _;have HZ:Aside ((wr.iterAt w.heap.size s (i+n)).heap.size=wr.heap.size):=hsz2;clear hxl hx hit d3 dh dl hge128 hsz2;have hlt:¬ ((0:Int)≤(-1)):=by omega
    go_wp2_with (go_at_fn (ρ.f 152); refine HR.mono ?_; rintro e w' ⟨rfl,hw⟩)
    go_roundg (s.size - (i+n))
    case measure=>omega
    case rel =>
     refine ⟨i+n,by omega,by omega,?_,HB2.out.trans (hw.mono HB2.out.size),?_⟩
     ·rw [hw.block _ (by rw [HZ.out]; exact hws)]; exact HI.out
     ·intro j b hj hb
      by_cases hji:j<i
      ·exact HN.out j b hji hb
      ·obtain ⟨hjl,hjb⟩:=List.getElem?_eq_some_iff.1 hb
       have hjs:j<s.size:=by omega
       have h1:=HD.out j (by omega) hj hjs;have e:s[j]'hjs=b:=by
        have:=Lib.data_getElem? s j hjs
        grind
       rw [e] at h1;cases hc:chars.data.toList.contains b with
       | false=>rfl
       | true =>
        have hm:b ∈ chars.data.toList:=by simpa using hc
        obtain ⟨q,hq⟩:=lI.1 hm;have:=HA.out q b hq;omega
  ·obtain rfl:i=s.size:=by omega
   have hnx:=Lib.run_next_end_at (P:=P) wr w.heap.size s s.size;have hnx2:=fun ty=>hnx ty hit hi
   clear hnx
   go_wp2
   go_ret
   exact ⟨by rw [Lib.indexAny_none (by rw [← Lib.size_eq]; exact HN.out)]; rfl,HB.out⟩
theorem zJH (L : Lays.n153 P ρ) (h116 : (P.info? (ρ.t 116)).map (fun i => (i.zero, i.size)) = some (some (.agg (Array.replicate 256 (.bool false))), 256)) (s chars : ByteArray) (w : World) (h2 : 2 ≤ chars.size) (hs : s.size < 4294967281) (hcs : chars.size < 4294967281)
    (hac:∀ (j:Nat) b,chars.data.toList[j]?=some b→b.toNat<128) :
    Calls P (ρ.f 153) #[.string s,.string chars] w fun e w'=>e=.returned (.int .i64 (Lib.indexAny s.data.toList chars.data.toList))∧Below w.heap.size w w':=by
  by_cases h8:s.size≤8
  · exact zHj L s chars w h2 h8 hac
  · refine (Any.strings_IndexAny_long L (zero_of_info h116).1 (zero_of_info h116).2 s chars w h2 (by omega) hs hcs hac).mono fun e w' ⟨h1,h2⟩=>⟨h1,?_⟩
    rw [h2];exact ((Below.refl _ _).alloc (nR _) _).alloc (by simp) _
end Go.Proofs
namespace Go.Eng
open Go Go.RowKit
section
variable {P:Program} {N:Frm} {f:Fr} {w w' w0:World} {H0 H:Hp} {L:List Ent} {ops:Array Oper} {rest:List Oper} {Q:Fr→World→Prop} {d:Nat} {ty:TypeId} {pos:String} {af:Array Edge} {α:Type} [Enc α]
theorem W.appMr {T e e' : TypeId} {x y : Operand} {v u : Value} {xs ys zs : List α} {i j : Nat} {en : Ent} (S : St w0 H0 w H L) (hE : Elem P T e (Enc.sz α)) (hi : L[i]? = some (.row v e (Enc.sz α) xs.length)) (hj : L[j]? = some en)
    (hx:ev N f x=v) (hy:ev N f y=u) (hX:Sl H v xs) (hY:MR H en e' u ys) (h:xapp xs ys=some zs)
    (k:∀ v' w' H',H.le H'→Sl H' v' zs→St w0 H0 w' H' (L.set i (.row v' e (Enc.sz α) zs.length))→WL P N ops rest Q (upd f d v') w'):WL P N ops (⟨some d,.call ⟨.builtin .append,#[x,y],#[T,T]⟩,ty,pos,af,none⟩ :: rest) Q f w:=by
  have hs:∃ ysC,Src P (Enc.sz α) T u ys.length ysC w∧Cells H ysC ys:=by
    rcases hY with ⟨rfl,rfl,rfl⟩ | ⟨b,cap,cur,cs,h1,h2,h3,h4,h5,h6,h7⟩
    · exact ⟨[],Src.ofNil w hE.1 0,rfl⟩
    · subst h1
      subst h2;refine ⟨cs,Src.ofSlice w hE.1 _ _ _ cs h7.length (fun q z hq=>?_) (fun z hz=>h7.one z hz),h7⟩;rw [Addr.add_lit,Nat.zero_add,zHW (objAt S hj).2,← Array.getElem?_toList]
      grind
  obtain ⟨ysC,hs,hC⟩:=hs;obtain ⟨v',w',H',hr,hle,hsl,hst⟩:=S.appendSrc (P:=P) (t:=T) (ty:=ty) hE hi hX hs hC h;refine WL.wz (v:=v') (w':=w') ?_ (k v' w' H' hle hsl hst)
  grind [execOp,resolve,Go.invoke,Go.builtin,Sem.run_bind,Sem.run_pure,Result.andThen_ok]
end
section
variable {P:Program} {N:Frm} {f:Fr} {w w0:World} {H0 H:Hp} {L:List Ent} {od:Option Nat} {ty:TypeId} {pos:String} {af:Array Edge} {g:Option (Nat×Bool)} {α:Type} [Enc α]
theorem MR.front {T e : TypeId} {x j : Operand} {v : Value} {xs ys : List α} {m : Int} {en : Ent} (R : MR H en e v xs) (hx : ev N f x = v) (hj : ev N f j = int m) (hE : Elem P T e (Enc.sz α)) (h : xsub xs 0 m = some ys) :
  ∃ v',(∀ w:World,(execOp (ev N f) ⟨od,.slice T x none (some j) none,ty,pos,af,g⟩).run P w=.ok (.value v') w)∧MR H en e v' ys:=by
 unfold xsub at h;split at h
 case isFalse=>cases h
 rename_i h0;simp only [oI] at h;subst h;rcases R with ⟨h1,h2,h3⟩ | ⟨b,cap,cur,cs,h1,h2,h3,h4,h5,h6,h7⟩
 ·subst h2
  have hm:m=0:=by simp at h0; omega
  subst hm;refine ⟨.slice none 0 0,fun w=>?_,.inl ⟨rfl,rfl,h3⟩⟩;obtain ⟨ht,inf,z,hinf,_,hsize,_⟩:=hE;rw [h1] at hx;simp [execOp,Instr.sliceAt,Instr.slice,Instr.sliceBounds,Instr.sliceBound,asIntOf,hx,hj,int,run_underlying ht,sizeOf,typeInfo,hinf]
 ·obtain ⟨n,rfl⟩:=Int.eq_ofNat_of_zero_le h0.2.1
  have hn:n≤xs.length:=by omega
  rw [h1] at hx;refine ⟨_,fun w=>R.sliceHi (k:=n) hx hj hE om,.inr ⟨b,cap,cur,cs.take (n*Enc.sz α),?_,h2,?_,h4,h5,?_,?_⟩⟩
  ·grind
  ·simp; omega
  ·rw [← h6,List.take_take]
   simp_all
  ·simp only [Int.toNat_natCast,Int.toNat_zero,List.drop_zero]
   exact h7.take n hn
end
end Go.Eng
namespace Go.Eng
open Go
theorem cT {α:Type} {b:Bool} {x:Option α} {r:α} (h:(bif b then x else none)=some r):b=true∧x=some r:=by
 cases b with
 | false=>cases h
 | true=>exact ⟨rfl,h⟩
section
variable {P:Program} {N:Frm} {f:Fr} {w:World} {od:Option Nat} {ty:TypeId} {pos:String} {af:Array Edge} {g:Option (Nat×Bool)}
theorem R.eqlHN {T T' u : TypeId} {ms : Array (String × TypeId)} {x y : Operand} {v : Value} (hx : ev N f x = .iface u v) (hy : ev N f y = .nilIface) (hT : P.underlying T = some (.interface ms)) :
  (execOp (ev N f) ⟨od,.binOp .eql T x y T',ty,pos,af,g⟩).run P w=.ok (.value (boo false)) w:=by
 simp_all [run_equal_held_nil,zGf,execOp,eqGuard,binOp,boo]
theorem R.neqHN {T T' u : TypeId} {ms : Array (String × TypeId)} {x y : Operand} {v : Value} (hx : ev N f x = .iface u v) (hy : ev N f y = .nilIface) (hT : P.underlying T = some (.interface ms)) :
  (execOp (ev N f) ⟨od,.binOp .neq T x y T',ty,pos,af,g⟩).run P w=.ok (.value (boo true)) w:=by
 simp_all [run_equal_held_nil,zGf,execOp,eqGuard,binOp,boo]
def notI (P:Program) (T:TypeId):Bool:=match P.underlying T with | some (.interface _)=>false | some _=>true | none=>false
def isI (P:Program) (T:TypeId):Bool:=match P.underlying T with | some (.interface _)=>true | _=>false
theorem zS5 {T:TypeId} (h:isI P T=true):∃ ms,P.underlying T=some (.interface ms):=by
 unfold isI at h
 grind
theorem R.mkI' {T : TypeId} {x : Operand} {v : Value} (hT : notI P T = true) (hx : ev N f x = v) :
  (execOp (ev N f) ⟨od,.makeInterface T x,ty,pos,af,g⟩).run P w=.ok (.value (.iface T v)) w:=by
 unfold notI at hT;split at hT
 all_goals simp_all [execOp,Instr.makeInterface,run_underlying]
end
end Go.Eng
namespace Go.VI
open Go Go.Eng
inductive PT where
 | int | byt | boo | str | sl (t:PT) | st (T:TypeId) | mr (t:PT) | mp (t:PT) | hid | po (T:TypeId) | er
 deriving DecidableEq
def PT.T (S:TypeId→Type):PT→Type
 | .int=>Int | .byt=>UInt8 | .boo=>Bool | .str=>Str | .sl t=>List (t.T S) | .st T=>S T | .mr t=>List (t.T S) | .mp t=>List (Str×t.T S) | .hid=>Unit | .po T=>Option (S T) | .er=>Nat
def HL (S:TypeId→Type):List PT→Type
 | []=>Unit
 | t :: ts=>t.T S×HL S ts
@[reducible] def noEnc (α:Type):Enc α where
 sz:=1
 cells _ _ _:=False
 pos:=Nat.one_pos
 len h:=h.elim
 mono h _:=h.elim
 one h:=h.elim
@[reducible] def PT.encW (S:TypeId→Type) (E:(T:TypeId)→Enc (S T)):(t:PT)→Enc (t.T S)
 | .int=>inferInstanceAs (Enc Int) | .byt=>inferInstanceAs (Enc UInt8) | .boo=>inferInstanceAs (Enc Bool) | .str=>inferInstanceAs (Enc Str)
 | .sl t=>@Go.Eng.instEncList (t.T S) (t.encW S E)
 | .st T=>E T
 | .mr _=>noEnc _
 | .mp _=>noEnc _
 | .hid=>noEnc _
 | .po _=>noEnc _
 | .er=>noEnc _
def encM (m:List (Str×Value)):Value:=.iface 0 (.tuple ⟨m.flatMap fun p=>[Eng.str p.1,p.2]⟩)
theorem zQh:∀ {m n:List (Str×Value)},encM m=encM n→m=n:=by
 have key:∀ {m n:List (Str×Value)},(m.flatMap fun p=>[Eng.str p.1,p.2])=(n.flatMap fun p=>[Eng.str p.1,p.2])→m=n:=by
  intro m
  induction m with
  | nil =>
   intro n h;cases n <;> grind
  | cons p m ih =>
   intro n h;cases n <;> grind [Eng.str]
 grind [encM]
def MapR {α:Type} (r:Value→α→Prop):List (Str×Value)→List (Str×α)→Prop
 | [],[]=>True
 | p :: m,q :: n=>p.1=q.1∧r p.2 q.2∧MapR r m n
 | _,_=>False
theorem MapR.imp {α:Type} {r r':Value→α→Prop} (h:∀ v x,r v x→r' v x):∀ {m:List (Str×Value)} {n:List (Str×α)},MapR r m n→MapR r' m n
 | [],[],_=>trivial
 | _ :: _,_ :: _,⟨h1,h2,h3⟩=>⟨h1,h _ _ h2,h3.imp h⟩
 | [],_ :: _,h'=>h'.elim
 | _ :: _,[],h'=>h'.elim
def stR (S:TypeId→Type) (E:(T:TypeId)→Enc (S T)) (H:Hp):(t:PT)→(Value→t.T S→Prop)→Value→t.T S→Prop
 | .st T,_,v,x=>∃ cs,v=Eng.agg cs∧(E T).cells H cs x
 | .int,r,v,x=>r v x | .byt,r,v,x=>r v x | .boo,r,v,x=>r v x | .str,r,v,x=>r v x | .sl _,r,v,x=>r v x | .mr _,r,v,x=>r v x | .mp _,r,v,x=>r v x | .hid,r,v,x=>r v x | .po _,r,v,x=>r v x | .er,r,v,x=>r v x
def PoR {α:Type} (E:Enc α) (H:Hp) (v:Value):Option α→Prop
 | none=>v=.pointer none
 | some y=>∃ a cs,v=.pointer (some a)∧cs≠[]∧At H a cs∧E.cells H cs y
theorem PoR.mono {α:Type} {E:Enc α} {H H':Hp} {v:Value} (hl:H.le H'):∀ {x:Option α},PoR E H v x→PoR E H' v x
 | none,h=>h
 | some _,⟨a,cs,e,hne,ha,hc⟩=>⟨a,cs,e,hne,ha.mono hl hne,E.mono hc hl⟩
theorem PoR.one {α:Type} {E:Enc α} {H:Hp} {v:Value}:∀ {x:Option α},PoR E H v x→v.oneCell'=true∧v.cells=#[v]
 | none,h=>by rw [show v=.pointer none from h]; exact ⟨rfl,rfl⟩
 | some _,⟨a,cs,e,_⟩=>by subst e; exact ⟨rfl,rfl⟩
def ErR (H:Hp) (v:Value) (g:Nat):Prop:=(∃ T a,v=.iface T (.pointer (some a)))∧At H ⟨g,0,none⟩ [v]
theorem ErR.mono {H H':Hp} {v:Value} {g:Nat} (h:ErR H v g) (hl:H.le H'):ErR H' v g:=⟨h.1,h.2.mono hl sI⟩
theorem ErR.one {H:Hp} {v:Value} {g:Nat}:ErR H v g→v.oneCell'=true∧v.cells=#[v]
 | ⟨⟨_,_,e⟩,_⟩=>by subst e; exact ⟨rfl,rfl⟩
def CellR (S:TypeId→Type) (E:(T:TypeId)→Enc (S T)) (H:Hp):(t:PT)→Value→t.T S→Prop
 | .int,v,x=>v=Eng.int x
 | .byt,v,x=>v=Eng.byt x
 | .boo,v,x=>v=Eng.boo x
 | .str,v,x=>v=Eng.str x
 | .sl t,v,x=>@Sl (t.T S) (t.encW S E) H v x
 | .st _,_,_=>False
 | .mr _,v,x=>∃ a c,v=.slice a (List.length x) c
 | .mp t,v,x=>∃ m,v=encM m∧MapR (stR S E H t (CellR S E H t)) m x
 | .hid,v,_=>v=Eng.int 0
 | .po T,v,x=>PoR (E T) H v x
 | .er,v,g=>ErR H v g
def zJw (S:TypeId→Type) (E:(T:TypeId)→Enc (S T)) (H:Hp):(ts:List PT)→List Value→HL S ts→Prop
 | [],cs,_=>cs=[]
 | t :: ts,cs,x=>∃ v r,cs=v :: r∧CellR S E H t v x.1∧zJw S E H ts r x.2
structure UV where
 S:TypeId→Type
 enc:(T:TypeId)→Enc (S T)
 fs:TypeId→List PT
 get:(T:TypeId)→S T→HL S (fs T)
 put:(T:TypeId)→HL S (fs T)→S T
 gl:Nat→Option (List Value)
 /-- Structs whose pointers,once stored,point to what no longer turns. -/
 po:TypeId→Bool:=fun _=>false
 /-- Variables that hold errors and never turn. -/
 se:Nat→Bool:=fun _=>false
 gw:World→Prop
 gw_post:∀ {w0 w:World} {H0 H:Hp},gw w0→Post w0 H0 w H→gw w
 cells_get:∀ {T H cs x},(enc T).cells H cs x→zJw S enc H (fs T) cs (get T x)
 cells_mk:∀ {T H cs x},zJw S enc H (fs T) cs x→(enc T).cells H cs (put T x)
abbrev PT.enc (U:UV) (t:PT):Enc (t.T U.S):=t.encW U.S U.enc
inductive CV where
 | int (x:Int) | byt (c:UInt8) | boo (b:Bool) | str (s:Str) | raw (v:Value) | und
 | ref (i:Nat) | agg (l:List CV) | tup (l:List CV) | ptr (i o:Nat) | pa (i o:Nat) | fn (k:FuncId) (l:List CV) | mp (b:Nat) | bm (k:FuncId) (l:List CV) | ifc (T:TypeId) (c:CV) | pe (i k n:Nat) | sa (i p:Nat)
structure Env where
 vs:List Value
 bs:List Nat
 ps:List Addr
 hs:Nat→Option Ent
mutual
def CV.val (E:Env):CV→Option Value
 | .int x=>some (Eng.int x)
 | .byt c=>some (Eng.byt c)
 | .boo b=>some (Eng.boo b)
 | .str s=>some (Eng.str s)
 | .raw v=>some v
 | .und=>some undef
 | .ref i=>E.vs[i]?
 | .agg l=>(CV.vals E l).map Eng.agg
 | .tup l=>(CV.vals E l).map fun vs=>.tuple ⟨vs⟩
 | .ptr i o=>E.bs[i]?.map fun b=>Eng.ptr b o
 | .pa i o=>E.ps[i]?.map fun a=>.pointer (some (a.add o))
 | .fn k l=>(CV.vals E l).map fun vs=>.func (.func k) #[] vs.toArray
 | .mp b=>E.bs[b]?.map mapv
 | .bm k l=>(CV.vals E l).map fun vs=>.func (.func k) vs.toArray #[]
 | .ifc T c=>(c.val E).map (.iface T)
 | .sa i p=>match E.vs[i]?,E.ps[p]? with | some (.slice (some a) n c),some b=>if a=b then some (.slice (some a) n c) else none | _,_=>none
 | .pe i k n=>match E.vs[i]? with | some (.slice (some a) _ _)=>some (.pointer (some (a.add (k*n)))) | _=>none
def CV.vals (E:Env):List CV→Option (List Value)
 | []=>some []
 | c :: l=>match c.val E,CV.vals E l with | some v,some vs=>some (v :: vs) | _,_=>none
end
structure Env.le (E E':Env):Prop where
 vs:∃ l,E'.vs=E.vs++l
 bs:∃ l,E'.bs=E.bs++l
 ps:∃ l,E'.ps=E.ps++l
 hs:E'.hs=E.hs
theorem zB9 {α:Type} {a b c:List α} (h:∃ l,b=a++l) (k:∃ l,c=b++l):∃ l,c=a++l:=by
 grind
theorem zAI {α:Type} (a:List α):∃ l,a=a++l:=⟨[],(List.append_nil a).symm⟩
theorem Env.le_refl (E:Env):E.le E:=⟨zAI _,zAI _,zAI _,rfl⟩
theorem Env.le_trans {A B C:Env} (h:A.le B) (k:B.le C):A.le C:=⟨zB9 h.vs k.vs,zB9 h.bs k.bs,zB9 h.ps k.ps,k.hs.trans h.hs⟩
theorem zD8 {α:Type} {l m:List α} {i:Nat} {x:α} (e:∃ k,m=l++k) (h:l[i]?=some x):m[i]?=some x:=by
 grind
theorem zBd {α:Type} {l:List α} {x:α} {n:Nat} (h:l.length=n):(l++[x])[n]?=some x:=by
 grind
mutual
theorem CV.val_mono {E E':Env} (hl:E.le E'):∀ {c:CV} {v:Value},c.val E=some v→c.val E'=some v
 | .int x,v,h=>h
 | .byt c,v,h=>h
 | .boo b,v,h=>h
 | .str s,v,h=>h
 | .raw u,v,h=>h
 | .und,v,h=>h
 | .ref i,v,h=>by
  simp only [CV.val] at h ⊢;exact zD8 hl.vs h
 | .agg l,v,h=>by
  simp only [CV.val] at h ⊢;cases hv:CV.vals E l with
  | none=>grind
  | some vs=>rw [hv] at h; rw [CV.vals_mono hl hv]; exact h
 | .tup l,v,h=>by
  simp only [CV.val] at h ⊢;cases hv:CV.vals E l with
  | none=>grind
  | some vs=>rw [hv] at h; rw [CV.vals_mono hl hv]; exact h
 | .ifc T c,v,h=>by
  simp only [CV.val] at h ⊢;cases hb:c.val E with
  | none=>grind
  | some b=>rw [hb] at h; rw [CV.val_mono hl hb]; exact h
 | .sa i p,v,h=>by
  simp only [CV.val] at h ⊢;split at h
  ·rename_i hv hp; rw [zD8 hl.vs hv,zD8 hl.ps hp]; exact h
  ·cases h
 | .pe i k n,v,h=>by
  simp only [CV.val] at h ⊢;split at h
  ·rename_i a _ _ hb; rw [zD8 hl.vs hb]; exact h
  ·cases h
 | .bm k l,v,h=>by
  simp only [CV.val] at h ⊢;cases hv:CV.vals E l with
  | none=>grind
  | some vs=>rw [hv] at h; rw [CV.vals_mono hl hv]; exact h
 | .fn k l,v,h=>by
  simp only [CV.val] at h ⊢;cases hv:CV.vals E l with
  | none=>grind
  | some vs=>rw [hv] at h; rw [CV.vals_mono hl hv]; exact h
 | .ptr i o,v,h=>by
  simp only [CV.val] at h ⊢;cases hb:E.bs[i]? with
  | none=>grind
  | some b=>rw [hb] at h; rw [zD8 hl.bs hb]; exact h
 | .mp i,v,h=>by
  simp only [CV.val] at h ⊢;cases hb:E.bs[i]? with
  | none=>grind
  | some b=>rw [hb] at h; rw [zD8 hl.bs hb]; exact h
 | .pa i o,v,h=>by
  simp only [CV.val] at h ⊢;cases hb:E.ps[i]? with
  | none=>grind
  | some b=>rw [hb] at h; rw [zD8 hl.ps hb]; exact h
theorem CV.vals_mono {E E':Env} (hl:E.le E'):∀ {l:List CV} {vs:List Value},CV.vals E l=some vs→CV.vals E' l=some vs
 | [],vs,h=>h
 | c :: l,vs,h=>by
  simp only [CV.vals] at h ⊢;cases hc:c.val E with
  | none=>grind
  | some v =>
   cases hv:CV.vals E l with
   | none=>grind
   | some us =>
    rw [hc,hv] at h;rw [CV.val_mono hl hc,CV.vals_mono hl hv]; exact h
end
structure SLV (U:UV) where
 t:PT
 x:t.T U.S
structure SLL (U:UV) where
 t:PT
 xs:List (t.T U.S)
inductive EI where
 | box (b:Nat) (T:TypeId) (cs:List CV) | row (i:Nat) (T:TypeId)
structure VS (U:UV) where
 fr:List (Nat×CV)
 sl:List (SLV U)
 pt:List (List CV)
 nb:Nat
 en:List EI
 dt:List (Nat×Nat)
def look:List (Nat×CV)→Nat→Option CV
 | [],_=>none
 | (k,v) :: r,t=>bif Nat.beq t k then some v else look r t
def SlsOk {U:UV} (H:Hp):List Value→List (SLV U)→Prop
 | [],[]=>True
 | v :: vs,x :: xs=>CellR U.S U.enc H x.t v x.x∧SlsOk H vs xs
 | _,_=>False
def PtsOk (E:Env) (H:Hp):List Addr→List (List CV)→Prop
 | [],[]=>True
 | a :: az,x :: xs=>(∃ cs,CV.vals E x=some cs∧cs≠[]∧At H a cs)∧PtsOk E H az xs
 | _,_=>False
def memX:List (Nat×Nat)→Nat→Nat→Bool
 | [],_,_=>false
 | (b,o) :: r,b',o'=>(Nat.beq b b'&&Nat.beq o o')||memX r b' o'
def noX:Nat→Nat→Bool:=fun _ _=>false
def slOf {U:UV} (sl:List (SLV U)) (i:Nat):Option (SLL U):=match sl[i]? with | some ⟨.sl t,xs⟩=>some ⟨t,xs⟩ | _=>none
def mrOf {U:UV} (sl:List (SLV U)) (i:Nat):Option (SLL U):=match sl[i]? with | some ⟨.mr t,xs⟩=>some ⟨t,xs⟩ | _=>none
def CsOk (E:Env) (X:Nat→Nat→Bool) (b:Nat):Nat→List CV→List Value→Prop
 | _,[],[]=>True
 | o,c :: cs,v :: vs=>(X b o=true∨c.val E=some v)∧CsOk E X b (o+1) cs vs
 | _,_,_=>False
def isE (k:Nat):Nat→List Value→Ent→Prop
 | 0,vals,e=>∃ m,vals=[encM m]∧e=.mp k (encm (fun v=>v) m)
 | T+1,vals,e=>e=.box k T vals
theorem zGI {k:Nat}:∀ {T:Nat} {vals:List Value} {e:Ent},isE k T vals e→e.blk=some k
 | 0,_,_,⟨_,_,h⟩=>by subst h; rfl
 | _+1,_,_,h=>by rw [show _=Ent.box k _ _ from h]; rfl
theorem zXg {k:Nat}:∀ {T T':Nat} {vals vals':List Value} {e:Ent},isE k T vals e→isE k T' vals' e→T=T'∧vals=vals'
 | 0,0,_,_,_,⟨m,h1,h2⟩,⟨n,h3,h4⟩=>by
  grind [encm,List.map_inj_right,Eng.str]
 | 0,_+1,_,_,_,⟨_,_,h⟩,h'=>by subst h; cases h'
 | _+1,0,_,_,_,h',⟨_,_,h⟩=>by subst h; cases h'
 | T+1,T'+1,vals,vals',e,h,h'=>by
  have h:e=.box k T vals:=h;have h':e=.box k T' vals':=h'
  grind
def RowE {U:UV} (h:Option Ent) (H:Hp) (T:TypeId) (v:Value):SLV U→Ent→Prop
 | ⟨.sl t,xs⟩,e=>e=.row v T (@Enc.sz _ (t.enc U)) (List.length xs)
 | ⟨.mr t,xs⟩,e=>@MR (t.T U.S) (t.enc U) H e T v xs
 | ⟨.hid,_⟩,e=>h=some e
 | _,_=>False
theorem RowE.mono {U:UV} {o:Option Ent} {H H':Hp} {T:TypeId} {v:Value} (hl:H.le H'):∀ {x:SLV U} {e:Ent},RowE o H T v x e→RowE o H' T v x e
 | ⟨.sl _,_⟩,_,h=>h
 | ⟨.mr t,xs⟩,e,h=>by letI:=t.enc U; exact MR.mono (show MR H e T v xs from h) hl
 | ⟨.int,_⟩,_,h=>h.elim
 | ⟨.byt,_⟩,_,h=>h.elim
 | ⟨.boo,_⟩,_,h=>h.elim
 | ⟨.str,_⟩,_,h=>h.elim
 | ⟨.st _,_⟩,_,h=>h.elim
 | ⟨.mp _,_⟩,_,h=>h.elim
 | ⟨.po _,_⟩,_,h=>h.elim
 | ⟨.er,_⟩,_,h=>h.elim
 | ⟨.hid,_⟩,_,h=>h
theorem RowE.any {U:UV} {o:Option Ent} {H:Hp} {T:TypeId} {v:Value}:∀ {x:SLV U} {e:Ent},RowE none H T v x e→RowE o H T v x e
 | ⟨.sl _,_⟩,_,h=>h
 | ⟨.mr _,_⟩,_,h=>h
 | ⟨.int,_⟩,_,h=>h.elim
 | ⟨.byt,_⟩,_,h=>h.elim
 | ⟨.boo,_⟩,_,h=>h.elim
 | ⟨.str,_⟩,_,h=>h.elim
 | ⟨.st _,_⟩,_,h=>h.elim
 | ⟨.mp _,_⟩,_,h=>h.elim
 | ⟨.po _,_⟩,_,h=>h.elim
 | ⟨.er,_⟩,_,h=>h.elim
 | ⟨.hid,_⟩,_,h=>by cases h
def EnOk {U:UV} (X:Nat→Nat→Bool) (E:Env) (H:Hp) (sl:List (SLV U)):EI→Ent→Prop
 | .box b T cs,e=>∃ vals k,E.bs[b]?=some k∧CsOk E X b 0 cs vals∧isE k T vals e
 | .row i T,e=>∃ x v,sl[i]?=some x∧E.vs[i]?=some v∧RowE (E.hs i) H T v x e
def EnsOk {U:UV} (X:Nat→Nat→Bool) (E:Env) (H:Hp) (sl:List (SLV U)):List EI→List Ent→Prop
 | [],[]=>True
 | i :: is,e :: es=>EnOk X E H sl i e∧EnsOk X E H sl is es
 | _,_=>False
structure GlOk (U:UV) (H:Hp):Prop where
 g:∀ g cs,U.gl g=some cs→cs≠[]∧At H ⟨g,0,none⟩ cs
 s:∀ g,U.se g=true→∃ v,ErR H v g
variable {H:Hp} {U:UV}
theorem GlOk.mono {H':Hp} (h:GlOk U H) (hl:H.le H'):GlOk U H':=⟨fun g cs e=>⟨(h.g g cs e).1,(h.g g cs e).2.mono hl (h.g g cs e).1⟩,fun g e=>let ⟨v,k⟩:=h.s g e; ⟨v,k.mono hl⟩⟩
structure GlW (U:UV) (w0:World) (H0 H:Hp):Prop where
 gl:GlOk U H
 gw:U.gw w0
 g0:GlOk U H0
theorem GlW.mono {w0:World} {H0 H':Hp} (h:GlW U w0 H0 H) (hl:H.le H'):GlW U w0 H0 H':=⟨h.gl.mono hl,h.gw,h.g0⟩
theorem zQn {α:Type} (E:Enc α) {H':Hp} {v:Value} {xs:List α} (h:@Sl α E H v xs) (hl:H.le H'):@Sl α E H' v xs:=Sl.mono h hl
structure RelX {U:UV} (X:Nat→Nat→Bool) (w0:World) (H0:Hp) (s:VS U) (f:Fr) (w:World) (E:Env) (H:Hp) (L:List Ent):Prop where
 st:St w0 H0 w H L
 gl:GlW U w0 H0 H
 sls:SlsOk H E.vs s.sl
 pts:PtsOk E H E.ps s.pt
 nb:E.bs.length=s.nb
 ens:EnsOk X E H s.sl s.en L
 fr:∀ t c,look s.fr t=some c→c.val E=some (f t)
abbrev RelE {U:UV} (w0:World) (H0:Hp) (s:VS U) (f:Fr) (w:World) (E:Env) (H:Hp) (L:List Ent):Prop:=RelX noX w0 H0 s f w E H L
theorem zJ4 {U:UV} {H H':Hp} (hl:H.le H'):∀ {t:PT} {v:Value} {x:t.T U.S},CellR U.S U.enc H t v x→CellR U.S U.enc H' t v x
 | .int,_,_,h=>h
 | .byt,_,_,h=>h
 | .boo,_,_,h=>h
 | .str,_,_,h=>h
 | .st _,_,_,h=>h
 | .mr _,_,_,h=>h
 | .hid,_,_,h=>h
 | .po _,_,_,h=>PoR.mono hl h
 | .er,_,_,h=>ErR.mono h hl
 | .sl _,_,_,h=>zQn _ h hl
 | .mp t,_,_,⟨m,e,h⟩=>⟨m,e,h.imp fun v x hv=>by
  cases t with
  | st T=>obtain ⟨cs,e,hc⟩:=hv; exact ⟨cs,e,(U.enc T).mono hc hl⟩
  | sl t=>exact zJ4 hl (t:=.sl t) hv
  | mr t=>exact zJ4 hl (t:=.mr t) hv
  | mp t=>exact zJ4 hl (t:=.mp t) hv
  | po T=>exact PoR.mono hl hv
  | er=>exact ErR.mono hv hl
  | _=>exact hv⟩
theorem zUR {U:UV} {H:Hp}:∀ {t:PT} {v:Value} {x:t.T U.S},CellR U.S U.enc H t v x→v.oneCell'=true∧v.cells=#[v]
 | .int,_,_,h=>by rw [show _=Eng.int _ from h]; exact ⟨rfl,rfl⟩
 | .byt,_,_,h=>by rw [show _=Eng.byt _ from h]; exact ⟨rfl,rfl⟩
 | .boo,_,_,h=>by rw [show _=Eng.boo _ from h]; exact ⟨rfl,rfl⟩
 | .str,_,_,h=>by rw [show _=Eng.str _ from h]; exact ⟨rfl,rfl⟩
 | .st _,_,_,h=>h.elim
 | .mr _,_,_,⟨a,c,e⟩=>by subst e; exact ⟨rfl,rfl⟩
 | .hid,_,_,h=>by rw [show _=Eng.int _ from h]; exact ⟨rfl,rfl⟩
 | .po _,_,_,h=>PoR.one h
 | .er,_,_,h=>ErR.one h
 | .sl _,_,_,h=>by obtain ⟨a,c,e,_⟩:=h; subst e; exact ⟨rfl,rfl⟩
 | .mp _,_,_,⟨m,e,_⟩=>by subst e; exact ⟨rfl,rfl⟩
theorem SlsOk.mono {U:UV} {H H':Hp} (hl:H.le H'):∀ {vs:List Value} {xs:List (SLV U)},SlsOk H vs xs→SlsOk H' vs xs
 | [],[],_=>trivial
 | _ :: _,_ :: _,⟨h,r⟩=>⟨zJ4 hl h,r.mono hl⟩
 | [],_ :: _,h=>h.elim
 | _ :: _,[],h=>h.elim
theorem SlsOk.len {U:UV} {H:Hp}:∀ {vs:List Value} {xs:List (SLV U)},SlsOk H vs xs→vs.length=xs.length
 | [],[],_=>rfl
 | _ :: _,_ :: _,⟨_,r⟩=>by rw [lC,lC,r.len]
 | [],_ :: _,h=>h.elim
 | _ :: _,[],h=>h.elim
theorem SlsOk.get {U:UV} {H:Hp}:∀ {vs:List Value} {xs:List (SLV U)} {i:Nat} {x:SLV U},SlsOk H vs xs→xs[i]?=some x→∃ v,vs[i]?=some v∧CellR U.S U.enc H x.t v x.x
 | [],[],_,_,_,h=>by simp at h
 | v :: _,y :: _,0,x,⟨h,_⟩,e=>by
  grind
 | _ :: _,_ :: _,i+1,x,⟨_,r⟩,e=>by
  simp only [List.getElem?_cons_succ] at e ⊢;exact r.get e
 | [],_ :: _,_,_,h,_=>h.elim
 | _ :: _,[],_,_,h,_=>h.elim
theorem SlsOk.gets {vs:List Value} {xs:List (SLV U)} {i:Nat} {x:SLL U} (h:SlsOk H vs xs) (e:slOf xs i=some x):∃ v,vs[i]?=some v∧@Sl (x.t.T U.S) (x.t.enc U) H v x.xs:=by
 unfold slOf at e;split at e
 case h_2=>cases e
 rename_i t l hl;cases e;exact h.get hl
theorem SlsOk.getm {U:UV} {vs:List Value} {xs:List (SLV U)} {i:Nat} {x:SLL U} (h:SlsOk H vs xs) (e:mrOf xs i=some x):∃ a c,vs[i]?=some (.slice a x.xs.length c):=by
 unfold mrOf at e;split at e
 case h_2=>cases e
 rename_i t l hl;cases e;obtain ⟨v,hv,a,c,e⟩:=h.get hl
 grind
theorem SlsOk.snoc {U:UV} {H:Hp} {v:Value} {x:SLV U} (hx:CellR U.S U.enc H x.t v x.x):∀ {vs:List Value} {xs:List (SLV U)},SlsOk H vs xs→SlsOk H (vs++[v]) (xs++[x])
 | [],[],_=>⟨hx,trivial⟩
 | _ :: _,_ :: _,⟨h,r⟩=>⟨h,r.snoc hx⟩
 | [],_ :: _,h=>h.elim
 | _ :: _,[],h=>h.elim
theorem PtsOk.mono {E E':Env} {H H':Hp} (hE:E.le E') (hl:H.le H'):∀ {az:List Addr} {xs:List (List CV)},PtsOk E H az xs→PtsOk E' H' az xs
 | [],[],_=>trivial
 | _ :: _,_ :: _,⟨⟨cs,h1,h2,h3⟩,r⟩=>⟨⟨cs,CV.vals_mono hE h1,h2,h3.mono hl h2⟩,r.mono hE hl⟩
 | [],_ :: _,h=>h.elim
 | _ :: _,[],h=>h.elim
theorem PtsOk.len {E:Env} {H:Hp}:∀ {az:List Addr} {xs:List (List CV)},PtsOk E H az xs→az.length=xs.length
 | [],[],_=>rfl
 | _ :: _,_ :: _,⟨_,r⟩=>by rw [lC,lC,r.len]
 | [],_ :: _,h=>h.elim
 | _ :: _,[],h=>h.elim
theorem PtsOk.get {E:Env} {H:Hp}:∀ {az:List Addr} {xs:List (List CV)} {i:Nat} {x:List CV},PtsOk E H az xs→xs[i]?=some x→∃ a cs,az[i]?=some a∧CV.vals E x=some cs∧cs≠[]∧At H a cs
 | [],[],_,_,_,h=>by simp at h
 | a :: _,y :: _,0,x,⟨⟨cs,h⟩,_⟩,e=>by
  grind
 | _ :: _,_ :: _,i+1,x,⟨_,r⟩,e=>by
  simp only [List.getElem?_cons_succ] at e ⊢;exact r.get e
 | [],_ :: _,_,_,h,_=>h.elim
 | _ :: _,[],_,_,h,_=>h.elim
theorem PtsOk.snoc {E:Env} {H:Hp} {a:Addr} {x:List CV} (hx:∃ cs,CV.vals E x=some cs∧cs≠[]∧At H a cs):∀ {az:List Addr} {xs:List (List CV)},PtsOk E H az xs→PtsOk E H (az++[a]) (xs++[x])
 | [],[],_=>⟨hx,trivial⟩
 | _ :: _,_ :: _,⟨h,r⟩=>⟨h,r.snoc hx⟩
 | [],_ :: _,h=>h.elim
 | _ :: _,[],h=>h.elim
theorem CsOk.mono {E E':Env} (hE:E.le E') {X:Nat→Nat→Bool} {b:Nat}:∀ {o:Nat} {cs:List CV} {vs:List Value},CsOk E X b o cs vs→CsOk E' X b o cs vs
 | _,[],[],_=>trivial
 | _,_ :: _,_ :: _,⟨h,r⟩=>⟨h.elim .inl fun h=>.inr (CV.val_mono hE h),r.mono hE⟩
 | _,[],_ :: _,h=>h.elim
 | _,_ :: _,[],h=>h.elim
theorem CsOk.vals {E:Env} {b:Nat}:∀ {o:Nat} {cs:List CV} {vs:List Value},CsOk E noX b o cs vs→CV.vals E cs=some vs
 | _,[],[],_=>rfl
 | _,_ :: _,_ :: _,⟨h,r⟩=>by
  rcases h with h | h
  ·cases h
  ·simp only [CV.vals,h,r.vals]
 | _,[],_ :: _,h=>h.elim
 | _,_ :: _,[],h=>h.elim
theorem CsOk.of_vals {E:Env} {X:Nat→Nat→Bool} {b:Nat}:∀ {o:Nat} {cs:List CV} {vs:List Value},CV.vals E cs=some vs→CsOk E X b o cs vs
 | _,[],[],_=>trivial
 | o,c :: cs,vs,h=>by
  simp only [CV.vals] at h;cases hc:c.val E with
  | none=>grind
  | some v =>
   cases hv:CV.vals E cs with
   | none=>grind
   | some us=>rw [hc,hv] at h; cases h; exact ⟨.inr hc,CsOk.of_vals hv⟩
 | _,[],_ :: _,h=>by cases h
theorem EnOk.mono {U:UV} {X:Nat→Nat→Bool} {E E':Env} {H':Hp} {s s':List (SLV U)} (hE:E.le E') (hl:H.le H') (hs:∃ l,s'=s++l) {i:EI} {e:Ent} (h:EnOk X E H s i e):EnOk X E' H' s' i e:=by
 cases i with
 | box b T cs =>
  obtain ⟨vals,k,h1,h2,h3⟩:=h;exact ⟨vals,k,zD8 hE.bs h1,h2.mono hE,h3⟩
 | row i T =>
  obtain ⟨x,v,h1,h2,h3⟩:=h;exact ⟨x,v,zD8 hs h1,zD8 hE.vs h2,by rw [hE.hs]; exact h3.mono hl⟩
theorem EnsOk.mono {U:UV} {X:Nat→Nat→Bool} {E E':Env} {H H':Hp} {s s':List (SLV U)} (hE:E.le E') (hl:H.le H') (hs:∃ l,s'=s++l):∀ {is:List EI} {es:List Ent},EnsOk X E H s is es→EnsOk X E' H' s' is es
 | [],[],_=>trivial
 | _ :: _,_ :: _,⟨h,r⟩=>⟨h.mono hE hl hs,r.mono hE hl hs⟩
 | [],_ :: _,h=>h.elim
 | _ :: _,[],h=>h.elim
theorem EnsOk.get {U:UV} {X:Nat→Nat→Bool} {E:Env} {H:Hp} {s:List (SLV U)}:∀ {is:List EI} {es:List Ent} {p:Nat} {i:EI},EnsOk X E H s is es→is[p]?=some i→∃ e,es[p]?=some e∧EnOk X E H s i e
 | [],[],_,_,_,h=>by simp at h
 | _ :: _,e :: _,0,x,⟨h,_⟩,k=>by
  grind
 | _ :: _,_ :: _,p+1,x,⟨_,r⟩,k=>by
  simp only [List.getElem?_cons_succ] at k ⊢;exact r.get k
 | [],_ :: _,_,_,h,_=>h.elim
 | _ :: _,[],_,_,h,_=>h.elim
theorem EnsOk.set {U:UV} {X:Nat→Nat→Bool} {E:Env} {H:Hp} {s:List (SLV U)}:∀ {is:List EI} {es:List Ent} {p:Nat} {i:EI} {e:Ent},EnsOk X E H s is es→EnOk X E H s i e→EnsOk X E H s (is.set p i) (es.set p e)
 | [],[],_,_,_,_,_=>trivial
 | _ :: _,_ :: _,0,_,_,⟨_,r⟩,k=>⟨k,r⟩
 | _ :: _,_ :: _,p+1,_,_,⟨h,r⟩,k=>⟨h,r.set k⟩
 | [],_ :: _,_,_,_,h,_=>h.elim
 | _ :: _,[],_,_,_,h,_=>h.elim
theorem EnsOk.erase {U:UV} {X:Nat→Nat→Bool} {E:Env} {H:Hp} {s:List (SLV U)}:∀ {is:List EI} {es:List Ent} {p:Nat},EnsOk X E H s is es→EnsOk X E H s (is.eraseIdx p) (es.eraseIdx p)
 | [],[],_,_=>trivial
 | _ :: _,_ :: _,0,⟨_,r⟩=>r
 | _ :: _,_ :: _,p+1,⟨h,r⟩=>⟨h,r.erase⟩
 | [],_ :: _,_,h=>h.elim
 | _ :: _,[],_,h=>h.elim
theorem EnsOk.len {U:UV} {X:Nat→Nat→Bool} {E:Env} {H:Hp} {s:List (SLV U)}:∀ {is:List EI} {es:List Ent},EnsOk X E H s is es→is.length=es.length
 | [],[],_=>rfl
 | _ :: _,_ :: _,⟨_,r⟩=>by rw [lC,lC,r.len]
 | [],_ :: _,h=>h.elim
 | _ :: _,[],h=>h.elim
end Go.VI
