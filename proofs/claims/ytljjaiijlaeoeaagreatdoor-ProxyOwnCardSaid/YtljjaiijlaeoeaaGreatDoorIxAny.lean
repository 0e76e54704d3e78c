/- A part. -/
import Derived.Shelf.Strings.IndexAnyAll
import Derived.Laws.RangeAny
import Derived.Laws.Runes
import Derived.WalkMore
import Derived.Lib.OthersKept
import Derived.Shelf.RegionOpenPlain
import Derived.Shelf.Small.Utf8
set_option linter.unusedVariables false
namespace Go.Proofs
open Go.Shelf Go.RowKit Go.Lib
variable {P:Program} {ρ:Ren}
set_option maxHeartbeats 4000000 in
set_option maxRecDepth 1000000 in
theorem zEx (L : Lays.n152 P ρ) (s : ByteArray) (w : World) (hascii : ∀ (j : Nat) b, s.data.toList[j]? = some b → b.toNat < 128) :
    Calls P (ρ.f 152) #[.string s,.int .i32 65533] w fun e w'=>e=.returned (.int .i64 (-1))∧Below w.heap.size w w':=by
  have HA:Aside (∀ (j:Nat) b,s.data.toList[j]?=some b→b.toNat<128):=hascii
  clear hascii
  have mixed:=L.mixed
  have t3:=L.t3; have a3:=L.a3; have z3:=L.z3; have v3:=L.v3
  have t4:=L.t4; have a4:=L.a4; have z4:=L.z4; have v4:=L.v4
  have t5:=L.t5; have a5:=L.a5; have z5:=L.z5; have v5:=L.v5
  have t9:=L.t9; have a9:=L.a9; have z9:=L.z9; have v9:=L.v9
  have t21:=L.t21; have a21:=L.a21; have z21:=L.z21; have v21:=L.v21
  go_enter L.f152,Body.n152_ntmps ρ
  go_wp2
  go_loopg [5,6] s.size (fun g _ _ wx=>∃ i:Nat,i+g=s.size∧wx=w.iter s i)
  case atStart=>exact ⟨0,by omega,rfl⟩
  case round =>
    obtain ⟨i,hig,rfl⟩:=hrel
    cases gk with
    | zero =>
      obtain rfl:i=s.size:=by omega
      have hnx:=run_next_end (P:=P) w s s.size
      go_wp2
      go_ret
      exact ⟨rfl,(Below.refl _ _).alloc (Nat.le_refl _) _⟩
    | succ g =>
      have hi:i<s.size:=by omega
      obtain ⟨x,hx⟩:∃ x:UInt8,s[i]'hi=x:=⟨_,rfl⟩
      have hxl:s.data.toList[i]?=some x:=by rw [← hx]; exact Lib.data_getElem? s i hi
      have hx128:x.toNat<128:=HA.out i x hxl
      have hnx:=fun ty=>run_next_ascii (P:=P) w s i ty hi (by rw [hx]; exact hx128)
      rw [hx] at hnx
      have hne:((x.toNat:Int)==65533)=false:=beq_eq_false_iff_ne.2 (by omega)
      clear hxl hx
      go_wp2
      go_roundg g
      case measure=>omega
      case rel=>exact ⟨i+1,by omega,rfl⟩
set_option maxHeartbeats 4000000 in
set_option maxRecDepth 1000000 in
theorem zEn (L : Lays.n152 P ρ) (s : ByteArray) (r : Int) (w : World) (h0 : 128 ≤ r) (h1 : r ≤ 2147483647) (hne : r ≠ 65533) (hascii : ∀ (j : Nat) b, s.data.toList[j]? = some b → b.toNat < 128) :
    Calls P (ρ.f 152) #[.string s,.int .i32 r] w fun e w'=>e=.returned (.int .i64 (-1))∧Below w.heap.size w w':=by
  have HA:Aside (∀ (j:Nat) b,s.data.toList[j]?=some b→b.toNat<128):=hascii
  clear hascii
  have mixed:=L.mixed
  have t3:=L.t3; have a3:=L.a3; have z3:=L.z3; have v3:=L.v3
  have t4:=L.t4; have a4:=L.a4; have z4:=L.z4; have v4:=L.v4
  have t5:=L.t5; have a5:=L.a5; have z5:=L.z5; have v5:=L.v5
  have t9:=L.t9; have a9:=L.a9; have z9:=L.z9; have v9:=L.v9
  have t21:=L.t21; have a21:=L.a21; have z21:=L.z21; have v21:=L.v21
  have e1:(r==65533)=false:=beq_eq_false_iff_ne.2 hne
  have e2:(r<128)=False:=eq_false (by omega)
  have e119:∀ args w,(callFunc (ρ.f 119) args).run P w=.ok (.enter (ρ.f 119) args) w:=enters_of L.f119 (by kernel_rfl) rfl
  have e137:∀ args w,(callFunc (ρ.f 137) args).run P w=.ok (.enter (ρ.f 137) args) w:=enters_of L.f137 (by kernel_rfl) rfl
  have HV:Aside (Utf8.valid r=Lib.validRune r):=Go.validRune_eq r
  cases hv:Lib.validRune r with
  | false =>
    go_enter L.f152,Body.n152_ntmps ρ
    go_wp2_with (go_at_fn (ρ.f 119); refine (Any.utf8_ValidRune { L with } _ _).mono ?_; rintro e w' ⟨rfl,hw⟩; rw [hw,hv])
    go_ret
    exact ⟨rfl,Below.refl _ _⟩
  | true =>
    obtain ⟨n2,n4,hl⟩:=encode_facts r (HV.out.trans hv) h0
    obtain ⟨rs,hrs⟩:∃ rs,Utf8.encode r=rs:=⟨_,rfl⟩
    rw [hrs] at n2 n4 hl
    obtain ⟨n,hn⟩:∃ n,rs.size=n+1:=⟨rs.size - 1,by omega⟩
    have hcv:(convert (ρ.t 21) (ρ.t 9) (.int .i32 r)).run P w=.ok (.string rs) w:=by rw [run_convert_int_string w _ _ .i32 r (by rw [t21]; rfl) t9,hrs]
    have hnz:(rs.size:Int) - 1=(n:Int):=by omega
    go_enter L.f152,Body.n152_ntmps ρ
    go_wp2_with (go_at_fn (ρ.f 119); refine (Any.utf8_ValidRune { L with } _ _).mono ?_; rintro e w' ⟨rfl,hw⟩; rw [hw,hv])
    go_wp2
    go_step3
    go_wp2
    go_loopg [9,10] 0 (fun _ s9 _ wx=>s9=.int .i64 n∧wx=w)
    case atStart=>exact ⟨by go_num,rfl⟩
    case round =>
      obtain ⟨rfl,rfl⟩:=hrel
      by_cases hin:n<s.size
      · have hinz:(n:Int)<(s.size:Int):=by omega
        obtain ⟨x,hx⟩:∃ x:UInt8,s[n]'hin=x:=⟨_,rfl⟩
        have hxl:s.data.toList[n]?=some x:=by rw [← hx]; exact Lib.data_getElem? s n hin
        have hx128:x.toNat<128:=HA.out n x hxl
        have hrn:n<rs.size:=by omega
        obtain ⟨y,hy⟩:∃ y:UInt8,rs[n]'hrn=y:=⟨_,rfl⟩
        have hy128:128≤y.toNat:=by
          rw [← hy]
          have:=hl (by omega)
          have e:rs.size - 1=n:=by omega
          simpa only [e] using this
        have hxy:((x.toNat:Int)==(y.toNat:Int))=false:=beq_eq_false_iff_ne.2 (by omega)
        have hrz:(n:Int)<(rs.size:Int):=by omega
        have hback:((y.toNat:Int)).toNat.toUInt8=y:=by simp
        have hno:∀ a e,Lib.indexByte (s.extract a e).data.toList y=-1:=fun a e=>by
          have key:∀ (l:List UInt8),(∀ b ∈ l,b.toNat<128)→Lib.indexByte l y=-1:=by
            intro l
            induction l with
            | nil=>intro _; rfl
            | cons b l ih =>
              intro h
              have hb:(b==y)=false:=beq_eq_false_iff_ne.2 (fun e=>by have:=h b (by simp); rw [e] at this; omega)
              rw [Lib.indexByte,hb,ih (fun c hc=>h c (by simp [hc]))]
              rfl
          refine key _ fun b hb=>?_
          have hm:=mem_extract hb
          obtain ⟨j,hj⟩:=List.mem_iff_getElem?.1 hm
          exact HA.out j b hj
        have HN:Aside (∀ a e,Lib.indexByte (s.extract a e).data.toList y=-1):=hno
        clear hno hxl
        go_wp2
        go_step3
        go_wp2
        go_region_o
        have c1:(0:Int)≤(n:Int)+1:=by omega
        have c2:(n:Int)+1≤(s.size:Int):=by omega
        have hwr:IntKind.i64.wrap ((n:Int)+1)=(n:Int)+1:=wrap_small _ c1 (by omega)
        have c3:((n:Int)+1).toNat=n+1:=by omega
        go_wp2
        go_region_with_o (go_at_fn (ρ.f 137); refine (Any.strings_IndexByte { L with } _ _ _).mono ?_; rintro e w' ⟨rfl,hw⟩; rw [hw,hback,HN.out])
        all_goals go_wp2
        dsimp only [Exit.noGoto,Exit.inBlock,Exit.then]
        go_ret
        exact ⟨rfl,(Below.refl _ _).drew.drew⟩
      · have hinz:¬ ((n:Int)<(s.size:Int)):=by omega
        go_wp2
        go_ret
        exact ⟨rfl,Below.refl _ _⟩
theorem zEj (L : Lays.n152 P ρ) (s : ByteArray) (r : Int) (w : World) (h0 : 128 ≤ r) (h1 : r ≤ 2147483647) (hascii : ∀ (j : Nat) b, s.data.toList[j]? = some b → b.toNat < 128) :
    Calls P (ρ.f 152) #[.string s,.int .i32 r] w fun e w'=>e=.returned (.int .i64 (-1))∧Below w.heap.size w w':=by
  by_cases h:r=65533
  · subst h; exact zEx L s w hascii
  · exact zEn L s r w h0 h1 h hascii
theorem zHl (s : ByteArray) (i : Nat) (hi : i < s.size) (ha : 128 ≤ (s[i]'hi).toNat) :
    i+(Utf8.decode s i).2≤s.size∧1≤(Utf8.decode s i).2∧∀ j,i≤j→j<i+(Utf8.decode s i).2→∀ (h:j<s.size),128≤(s[j]'h).toNat:=by
  have hcont:∀ k,(i+k<s.size&&(s.get! (i+k)).toNat / 64==2)=true→∃ h:i+k<s.size,128≤(s[i+k]'h).toNat:=by
    intro k hk
    simp only [Bool.and_eq_true,decide_eq_true_eq,beq_iff_eq] at hk
    refine ⟨hk.1,?_⟩
    have e:s.get! (i+k)=s[i+k]'hk.1:=by
      have:=get_at s (i+k) hk.1
      simpa using this
    rw [e] at hk
    omega
  have hn:¬ (s[i]'hi).toNat<128:=by omega
  have one:∀ j,i≤j→j<i+1→∀ (h:j<s.size),128≤(s[j]'h).toNat:=fun j h1 h2 h=>by
    obtain rfl:j=i:=by omega
    exact ha
  simp only [Utf8.decode,get_at s i hi,hn,if_false]
  split
  · rename_i hc
    simp only [Bool.and_eq_true] at hc
    obtain ⟨g1,g2⟩:=hcont 1 (by simpa using hc.2)
    split
    · refine ⟨by show i+2≤_; omega,by show 1≤2; omega,fun j h1 h2 h=>?_⟩
      have h2:j<i+2:=h2
      by_cases hj:j=i
      · subst hj; exact ha
      · obtain rfl:j=i+1:=by omega
        exact g2
    · exact ⟨by show i+1≤_; omega,by show 1≤1; omega,one⟩
  · split
    · rename_i hc
      simp only [Bool.and_eq_true] at hc
      obtain ⟨g1,g2⟩:=hcont 1 (by simpa using hc.1.2)
      obtain ⟨k1,k2⟩:=hcont 2 (by simpa using hc.2)
      split
      · refine ⟨by show i+3≤_; omega,by show 1≤3; omega,fun j h1 h2 h=>?_⟩
        have h2:j<i+3:=h2
        by_cases hj:j=i
        · subst hj; exact ha
        by_cases hj1:j=i+1
        · subst hj1; exact g2
        · obtain rfl:j=i+2:=by omega
          exact k2
      · exact ⟨by show i+1≤_; omega,by show 1≤1; omega,one⟩
    · split
      · rename_i hc
        simp only [Bool.and_eq_true] at hc
        obtain ⟨g1,g2⟩:=hcont 1 (by simpa using hc.1.1.2)
        obtain ⟨k1,k2⟩:=hcont 2 (by simpa using hc.1.2)
        obtain ⟨m1,m2⟩:=hcont 3 (by simpa using hc.2)
        split
        · refine ⟨by show i+4≤_; omega,by show 1≤4; omega,fun j h1 h2 h=>?_⟩
          have h2:j<i+4:=h2
          by_cases hj:j=i
          · subst hj; exact ha
          by_cases hj1:j=i+1
          · subst hj1; exact g2
          by_cases hj2:j=i+2
          · subst hj2; exact k2
          · obtain rfl:j=i+3:=by omega
            exact m2
        · exact ⟨by show i+1≤_; omega,by show 1≤1; omega,one⟩
      · exact ⟨by show i+1≤_; omega,by show 1≤1; omega,one⟩
set_option maxHeartbeats 8000000 in
set_option maxRecDepth 1000000 in
theorem zEN (L : Lays.n153 P ρ) (s chars : ByteArray) (w : World) (h2 : 2 ≤ chars.size) (h8 : s.size ≤ 8) (hac : ∀ (j : Nat) b, chars.data.toList[j]? = some b → b.toNat < 128) :
    Calls P (ρ.f 153) #[.string s,.string chars] w fun e w'=>e=.returned (.int .i64 (Lib.indexAny s.data.toList chars.data.toList))∧Below w.heap.size w w':=by
  have HA:Aside (∀ (j:Nat) b,chars.data.toList[j]?=some b→b.toNat<128):=hac
  clear hac
  have hemp:chars.toList.isEmpty=false:=by
    rw [Lib.toList_data]
    cases h:chars.data.toList with
    | nil=>have:=Lib.size_eq chars; rw [h,List.length_nil] at this; omega
    | cons _ _=>rfl
  have hn1:((chars.size:Int)==1)=false:=beq_eq_false_iff_ne.2 (by omega)
  have h8z:decide ((8:Int)<(s.size:Int))=false:=decide_eq_false (by omega)
  have t3:=L.t3; have a3:=L.a3; have z3:=L.z3; have v3:=L.v3
  have t4:=L.t4; have a4:=L.a4; have z4:=L.z4; have v4:=L.v4
  have t5:=L.t5; have a5:=L.a5; have z5:=L.z5; have v5:=L.v5
  have t9:=L.t9; have a9:=L.a9; have z9:=L.z9; have v9:=L.v9
  have t21:=L.t21; have a21:=L.a21; have z21:=L.z21; have v21:=L.v21
  have e152:∀ args w,(callFunc (ρ.f 152) args).run P w=.ok (.enter (ρ.f 152) args) w:=enters_of L.f152 (by kernel_rfl) rfl
  have e226:∀ args w,(callFunc (ρ.f 226) args).run P w=.ok (.enter (ρ.f 226) args) w:=enters_of L.f226 (by kernel_rfl) rfl
  go_enter L.f153,Body.n153_ntmps ρ
  go_wp2_with (go_at_fn (ρ.f 226); refine (Any.strings_shouldUseASCIISet { L with } _ _).mono ?_; rintro e w' ⟨rfl,hw⟩; rw [hw,h8z])
  go_loopg [9,10] s.size (fun g _ _ wx=>∃ i:Nat,i≤s.size∧s.size≤i+g∧wx.heap[w.heap.size]?=some (.stringIter s i)∧Below w.heap.size w wx∧Lib.NoAny s.data.toList chars.data.toList i)
  case atStart=>exact ⟨0,by omega,by omega,World.iter_heap w s 0,(Below.refl _ _).alloc (Nat.le_refl _) _,Lib.NoAny.zero _ _⟩
  case round =>
    obtain ⟨i,hil,hig,hit,hbel,hno⟩:=hrel
    have HN:Aside (Lib.NoAny s.data.toList chars.data.toList i):=hno
    have HB:Aside (Below w.heap.size w wr):=hbel
    clear hno hbel
    by_cases hi:i<s.size
    · obtain ⟨x,hx⟩:∃ x:UInt8,s[i]'hi=x:=⟨_,rfl⟩
      have hxl:s.data.toList[i]?=some x:=by rw [← hx]; exact Lib.data_getElem? s i hi
      have hws:w.heap.size<wr.heap.size:=(Array.getElem?_eq_some_iff.1 hit).1
      by_cases hx128:x.toNat<128
      · have hnx:=fun ty=>Lib.run_next_ascii_at (P:=P) wr w.heap.size s i ty hit hi (by rw [hx]; exact hx128)
        rw [hx] at hnx
        have hit2:=Lib.iterAt_heap wr w.heap.size s i (i+1) hit
        have hbel2:=Lib.below_iterAt HB.out (Nat.le_refl _) s (i+1)
        have HI:Aside ((wr.iterAt w.heap.size s (i+1)).heap[w.heap.size]?=some (.stringIter s (i+1))):=hit2
        have HB2:Aside (Below w.heap.size w (wr.iterAt w.heap.size s (i+1))):=hbel2
        have Hx:Aside (s.data.toList[i]?=some x):=hxl
        clear hxl hx hit hit2 hbel2
        have hcon:=Lib.contains_iff_indexByte chars.data.toList x
        have hback:((x.toNat:Int)).toNat.toUInt8=x:=by simp
        cases hin:chars.data.toList.contains x
        · rw [hin] at hcon
          have hlt:¬ ((0:Int)≤Lib.indexByte chars.data.toList x):=of_decide_eq_false hcon.symm
          clear hcon
          go_wp2_with (go_at_fn (ρ.f 152); refine (Any.strings_IndexRune_ascii { L with } _ _ _ (by omega) (by omega)).mono ?_; rintro e w' ⟨rfl,hw⟩; rw [hw,hback])
          go_roundg (s.size - (i+1))
          case measure=>omega
          case rel=>exact ⟨i+1,by omega,by omega,HI.out,HB2.out,HN.out.succ Hx.out hin⟩
        · rw [hin] at hcon
          have hge:(0:Int)≤Lib.indexByte chars.data.toList x:=of_decide_eq_true hcon.symm
          clear hcon
          go_wp2_with (go_at_fn (ρ.f 152); refine (Any.strings_IndexRune_ascii { L with } _ _ _ (by omega) (by omega)).mono ?_; rintro e w' ⟨rfl,hw⟩; rw [hw,hback])
          go_ret
          exact ⟨by rw [Lib.indexAny_hit HN.out Hx.out hin]; rfl,HB2.out⟩
      · have hge128:128≤(s[i]'hi).toNat:=by rw [hx]; omega
        obtain ⟨d1,d2,d3⟩:=zHl s i hi hge128
        have dh:=decode_high s i hi hge128
        have dl:=decode_le s i
        obtain ⟨r,n,hrn⟩:∃ r n,Utf8.decode s i=(r,n):=⟨_,_,rfl⟩
        rw [hrn] at d1 d2 d3 dh dl
        simp only at d1 d2 d3 dh dl
        have hnx:=fun ty=>Lib.run_next_any_at (P:=P) wr w.heap.size s i ty hit hi
        rw [hrn] at hnx
        simp only at hnx
        have HI:Aside ((wr.iterAt w.heap.size s (i+n)).heap[w.heap.size]?=some (.stringIter s (i+n))):=Lib.iterAt_heap wr w.heap.size s i (i+n) hit
        have HB2:Aside (Below w.heap.size w (wr.iterAt w.heap.size s (i+n))):=Lib.below_iterAt HB.out (Nat.le_refl _) s (i+n)
        have HR:=zEj (P:=P) (ρ:=ρ) { L with } chars (r:Int) (wr.iterAt w.heap.size s (i+n)) (by omega) (by omega) HA.out
        have HD:Aside (∀ j,i≤j→j<i+n→∀ (h:j<s.size),128≤(s[j]'h).toNat):=d3
        have hsz2:(wr.iterAt w.heap.size s (i+n)).heap.size=wr.heap.size:=Lib.iterAt_size _ _ _ _
        have HZ:Aside ((wr.iterAt w.heap.size s (i+n)).heap.size=wr.heap.size):=hsz2
        clear hxl hx hit d3 dh dl hge128 hsz2
        have hlt:¬ ((0:Int)≤(-1)):=by omega
        go_wp2_with (go_at_fn (ρ.f 152); refine HR.mono ?_; rintro e w' ⟨rfl,hw⟩)
        go_roundg (s.size - (i+n))
        case measure=>omega
        case rel =>
          refine ⟨i+n,by omega,by omega,?_,HB2.out.trans (hw.mono HB2.out.size),?_⟩
          · rw [hw.block _ (by rw [HZ.out]; exact hws)]; exact HI.out
          · intro j b hj hb
            by_cases hji:j<i
            · exact HN.out j b hji hb
            · obtain ⟨hjl,hjb⟩:=List.getElem?_eq_some_iff.1 hb
              have hjs:j<s.size:=by rw [Lib.size_eq]; exact hjl
              have h1:=HD.out j (by omega) hj hjs
              have e:s[j]'hjs=b:=by
                have:=Lib.data_getElem? s j hjs
                rw [hb] at this
                exact (Option.some.inj this).symm
              rw [e] at h1
              cases hc:chars.data.toList.contains b with
              | false=>rfl
              | true =>
                have hm:b ∈ chars.data.toList:=by simpa using hc
                obtain ⟨q,hq⟩:=List.mem_iff_getElem?.1 hm
                have:=HA.out q b hq
                omega
    · obtain rfl:i=s.size:=by omega
      have hnx:=Lib.run_next_end_at (P:=P) wr w.heap.size s s.size
      have hnx2:=fun ty=>hnx ty hit hi
      clear hnx
      go_wp2
      go_ret
      exact ⟨by rw [Lib.indexAny_none (by rw [← Lib.size_eq]; exact HN.out)]; rfl,HB.out⟩
theorem zFp (L : Lays.n153 P ρ) (h116 : (P.info? (ρ.t 116)).map (fun i => (i.zero, i.size)) = some (some (.agg (Array.replicate 256 (.bool false))), 256)) (s chars : ByteArray) (w : World) (h2 : 2 ≤ chars.size) (hs : s.size < 4294967281) (hcs : chars.size < 4294967281)
    (hac:∀ (j:Nat) b,chars.data.toList[j]?=some b→b.toNat<128) :
    Calls P (ρ.f 153) #[.string s,.string chars] w fun e w'=>e=.returned (.int .i64 (Lib.indexAny s.data.toList chars.data.toList))∧Below w.heap.size w w':=by
  by_cases h8:s.size≤8
  · exact zEN L s chars w h2 h8 hac
  · refine (Any.strings_IndexAny_long L (zero_of_info h116).1 (zero_of_info h116).2 s chars w h2 (by omega) hs hcs hac).mono fun e w' ⟨h1,h2⟩=>⟨h1,?_⟩
    rw [h2]
    exact ((Below.refl _ _).alloc (Nat.le_refl _) _).alloc (by simp) _
end Go.Proofs
