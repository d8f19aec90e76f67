/- A part of the proof of DeltaLines: Fld3 Fld4. -/
import Derived.Test.YtdhehcobnbcmdaaGreatDoorPTe
import Derived.Test.YtdhehcobnbcmdaaGreatDoorPF2
set_option linter.all false
namespace Go.Proofs.YtdhehcobnbcmdaaGreatDoor
open Go.RowKit
set_option maxHeartbeats 4000000 in
set_option maxRecDepth 100000 in
theorem f_binary (v:Int)(b n:Nat)(hn:n≤b)(hb:b≤32)(w:World)(hv:0≤v∧v≤9223372036854775807):Calls Tryz.prog 162 #[.int .i64 v, .int .i64 b, .int .i64 n] w (LenPost n w):=by
  have hmk:=makeB w n (by omega)
  obtain ⟨W1,hW1⟩:∃ W1,w.alloc (.cells (madeCells #[.int .u8 0] n) 5 (0,0))=W1:=⟨_,rfl⟩
  have hR:Hid (BytesR W1 w.heap.size (.slice (some ⟨w.heap.size,0,none⟩) n n) (List.replicate n 0)):=Lib.hid (by rw [← hW1];exact BytesR.made w n (by unfold maxLen;omega))
  have hbT:Hid (Below w.heap.size w W1):=Lib.hid (by rw [← hW1];exact (Below.refl w.heap.size w).alloc (Nat.le_refl _) _)
  rw [hW1] at hmk
  have hL:Hid ((List.replicate n (0:Int)).length=n):=Lib.hid (by simp)
  generalize List.replicate n (0:Int)=xs0 at *
  obtain ⟨hv0,hv1⟩:=hv
  go_enter Tryz.func162,Tryz.ntmps162
  go_wp2_with fail
  clear hW1 hmk
  go_loopw [8,13] (fun _ i wr=>∃ (j:Nat) (xs:List Int),j≤n∧i=.int .i64 j∧Hid (xs.length=n)∧Hid (BytesR wr w.heap.size (.slice (some ⟨w.heap.size,0,none⟩) n n) xs)∧Hid (Below w.heap.size w wr)) (fun _ i _=>n-(intOf i).toNat)
  case atStart=>exact ⟨0,xs0,by omega,rfl,hL,hR,hbT⟩
  case round=>
    obtain ⟨j,xs,hj,rfl,hxl,hX,hB⟩:=hrel
    clear hL hR hbT
    by_cases hlt:j<n
    · obtain ⟨cx,q0⟩:=hX.out.cell hxl.out.symm hlt
      have q1:wr.frozen? ⟨w.heap.size,j,none⟩=false:=World.ownsRow.frozenAt (by have:=hX.out;unfold BytesR at this;rw [hxl.out] at this;exact this) j
      have hne:Hid (∀ c,BytesR (wr.setCell ⟨w.heap.size,j,none⟩ (.int .u8 c)) w.heap.size (.slice (some ⟨w.heap.size,0,none⟩) n n) (xs.set j c)):=Lib.hid fun c=>hX.out.set hxl.out.symm j c
      have hn2:Hid (∀ c:Int,(xs.set j c).length=n):=Lib.hid fun c=>by rw [List.length_set];exact hxl.out
      have hn4:Hid (∀ c,Below w.heap.size w (wr.setCell ⟨w.heap.size,j,none⟩ (.int .u8 c))):=Lib.hid fun c=>hB.out.setCell (p:=⟨w.heap.size,j,none⟩) (Nat.le_refl _) _
      have b1:(0:Int)≤(b:Int)-1-(j:Int):=by omega
      have b2:(b:Int)-1-(j:Int)<64:=by omega
      clear hX hB hxl
      go_wp2_with fail
      go_roundw
      case rel=>exact ⟨j+1,_,by omega,by go_num,Lib.hid (hn2.out _),Lib.hid (hne.out _),Lib.hid (hn4.out _)⟩
      case measure=>simp [intOf];omega
    · have cv:=conv_own hX.out rfl
      go_wp2_with fail
      go_ret
      exact ⟨⟨_,rfl,by rw [strOfNums_size];exact hxl.out⟩,hB.out⟩
set_option maxHeartbeats 1000000 in
theorem f_prefix (v:Int)(b n:Nat)(hn:n≤b)(hb:b≤32)(w:World)(hv:0≤v∧v≤9223372036854775807):Calls Tryz.prog 221 #[.int .i64 v, .int .i64 b, .int .i64 n] w (LenPost b w):=by
  have c1:=Lib.hid (f_binary v b n hn hb w hv)
  have c2:=Lib.hid fun w'=>rep_x (b-n) (by omega) w'
  have hd:((b:Int)-(n:Int))=((b-n:Nat):Int):=by omega
  have hbn:Hid (n+(b-n)=b):=Lib.hid (by omega)
  generalize b-n=d at *
  go_enter Tryz.func221,Tryz.ntmps221
  go_wp2_with (first
    | (go_at_call 162;refine c1.out.mono ?_;rintro e w2 ⟨⟨s,rfl,hs⟩,hb2⟩;have hs2:=Lib.hid hs;have hb3:=Lib.hid hb2;have c3:=Lib.hid (c2.out w2);clear hs hb2 c1 c2)
    | (go_at_call 159;refine c3.out.mono ?_;rintro e w3 ⟨⟨t,rfl,ht⟩,hb4⟩;have ht2:=Lib.hid ht;have hb5:=Lib.hid (hb3.out.trans (hb4.mono hb3.out.size));have hsum:¬ 9223372036854775807<s.size+t.size:=(by have:=hs2.out;omega);clear ht hb4))
  go_ret
  exact ⟨⟨_,rfl,by rw [ByteArray.size_append,hs2.out,ht2.out,hbn.out]⟩,hb5.out⟩
def CoverN (N b:Nat)(w:World)(e:Ending)(w':World):Prop:=∃ v l,e=.returned v∧TextsR w' w.heap.size v l∧(∀ s∈l,s.size=b)∧l.length≤N∧Below w.heap.size w w'
set_option maxHeartbeats 8000000 in
set_option maxRecDepth 100000 in
theorem f_cover (b : Nat) (lo hi : Int) (hb : b ≤ 32) (h0 : 0 ≤ lo ∧ lo ≤ 4294967296) (h1 : hi ≤ 4294967295) (hh : -9223372036854775808 ≤ hi) (w : World) : Calls Tryz.prog 188 #[.int .i64 b, .int .i64 lo, .int .i64 hi] w (CoverN 8589934592 b w) := by
  have hb0:=Lib.hid (Below.refl w.heap.size w)
  have hR0:Hid (TextsR w w.heap.size (.slice none 0 0) []):=Lib.hid (World.ownsRow_nil _ _ _ _)
  obtain ⟨h00,h01⟩:=h0
  go_enter Tryz.func188,Tryz.ntmps188
  go_wp2_with fail
  go_loopw [1,7,8] (fun u v _ wr=>∃ (x:Int) (l:List ByteArray),u=.int .i64 x∧lo+l.length≤x∧x≤8589934592∧Hid (TextsR wr w.heap.size v l)∧Hid (∀ s∈l,s.size=b)∧Hid (Below w.heap.size w wr)) (fun u _ _ _=>(hi+1-intOf u).toNat)
  case atStart=>exact ⟨lo,[],rfl,by simp,by omega,hR0,Lib.hid (by simp),hb0⟩
  case round=>
    obtain ⟨x,l,rfl,hx,hx2,hR,hS,hbw⟩:=hrel
    clear hR0 hb0
    by_cases hlt:x≤hi
    · obtain ⟨wo, rfl⟩ : ∃ wo, wo = wr := ⟨_, rfl⟩
      go_wp2_with fail
      go_loopw [8] (fun f wx=>wx=wo∧∃ fr:Nat,fr≤b∧f=.int .i64 fr) (fun f _=>b-(intOf f).toNat)
      case atStart=>exact ⟨rfl,0,by omega,rfl⟩
      case round=>
        obtain ⟨rfl,fr,hfr,rfl⟩:=hrel
        go_upto_region 4 with fail
        go_cut [31] (fun v wx=>wx=wr∧∃ y:Bool,v=.bool y∧(y=true→fr<b))
        case first=>
          by_cases hfb:fr<b
          · have ct:=Lib.hid (f_top ((fr:Int)+1) (by omega) (by omega) wr)
            have ht:=topS_lt (b:=(fr:Int)+1) (by omega) (by omega)
            have hfb':(fr:Int)<(b:Int):=by omega
            generalize topS ((fr:Int)+1)=tp at *
            go_wp2_with (go_at_call 161;refine ct.out.mono ?_;rintro e w' ⟨rfl,rfl⟩)
            all_goals
              go_meet
              exact ⟨rfl,_,rfl,fun _=>hfb⟩
          · have hfb':¬ (fr:Int)<(b:Int):=by omega
            go_wp2_with fail
            go_meet
            exact ⟨rfl,_,rfl,fun h=>by cases h⟩
        case rest=>
        obtain ⟨rfl,y,rfl,hy⟩:=hcut
        cases y
        case true=>
          have hfb:=hy rfl
          clear hy
          go_wp2_with fail
          go_roundw
          case rel=>exact ⟨by trivial,fr+1,by omega,by go_num⟩
          case measure=>simp [intOf];omega
        clear hy
        have hd:(b:Int)-(fr:Int)=((b-fr:Nat):Int):=by omega
        have cp:=Lib.hid (f_prefix x b (b-fr) (by omega) hb wc ⟨by omega,by omega⟩)
        generalize b-fr=d at *
        have hp:(1:Int)≤2 ^ fr∧(2:Int) ^ fr≤4294967296:=by
          have h1:(0:Int)<2 ^ fr:=Int.pow_pos (by omega)
          have h2:(2:Nat) ^ fr≤2 ^ 32:=Nat.pow_le_pow_right (by omega) (by omega)
          have h3:((2:Nat) ^ fr:Int)≤2 ^ 32:=by exact_mod_cast h2
          have h4:(2:Int) ^ fr≤4294967296:=by simpa using h3
          omega
        obtain ⟨hp1,hp2⟩:=hp
        have hll:l.length≤8589934592:=by omega
        have hzw:=hbw.out.size
        have hx0:(fr:Int)<64:=by omega
        go_wp2_with (first
          | (go_at_call 221;refine cp.out.mono ?_;rintro e w2 ⟨⟨s,rfl,hs⟩,hb2⟩;have hs2:=Lib.hid hs;have hb3:=Lib.hid (hbw.out.trans (hb2.mono hzw));have hR3:=Lib.hid (row_below hR.out hb2 (Nat.le_refl _));have hz3:=hb3.out.size;clear hs hb2 cp)
          | (at_builtin;refine push_one elText rfl (.tmp 34) (.tmp 41) rfl w.heap.size l.length u7 _ rfl hR3.out w2.heap.size rfl (.string s) rfl rfl (by omega) (by unfold maxLen;omega) hz3 ?_;intro g' cap' w4 ho4 hb4 _;have ho5:=Lib.hid ho4;have hb5:=Lib.hid (hb3.out.trans hb4);clear ho4 hb4))
        go_roundw
        case rel=>exact ⟨_,l++[s],rfl,by simp;omega,by omega,Lib.hid (by unfold TextsR;simpa using ho5.out),Lib.hid (fun t ht=>by rcases List.mem_append.1 ht with h|h;exact hS.out t h;simp only [List.mem_cons,List.not_mem_nil,or_false] at h;rw [h];exact hs2.out),hb5⟩
        case measure=>simp only [intOf];omega
    · go_wp2_with fail
      go_ret
      exact ⟨_,l,rfl,hR.out,hS.out,by omega,hbw.out⟩
structure FitH (t:TestS)(b:Nat):Prop where
  b1:1≤b∧b≤32
  op:1≤t.op∧t.op≤6
  form:1≤t.form∧t.form≤4
  lo:0≤t.lo∧t.lo≤4294967295
  hi:0≤t.hi∧t.hi≤4294967295
  len:0≤t.len∧t.len≤b
  pat:t.form=4→t.pat.size=b
theorem fitH {t:TestS}{b:Nat}(hb:1≤b∧b≤32)(h:fitS t b=true):FitH t b:=by
  have ht:=topS_lt (b:=(b:Int)) (by omega) (by omega)
  unfold fitS at h
  simp only [Bool.and_eq_true,Bool.not_eq_true',Bool.and_eq_false_iff,decide_eq_true_eq,decide_eq_false_iff_not,Bool.not_eq_false'] at h
  obtain ⟨⟨⟨⟨⟨⟨a1,a2⟩,_⟩,a7⟩,a8⟩,a9⟩,a10⟩:=h
  refine ⟨hb,by omega,by omega,by omega,by omega,by omega,fun hf=>?_⟩
  rcases a10 with a10|a10
  · exact absurd hf a10
  · have:=a10.1;omega
set_option maxHeartbeats 2000000 in
theorem f_one (t:TestS)(b:Nat)(F:FitH t b)(w:World):Calls Tryz.prog 216 #[.agg (testV t).toArray, .int .i64 b] w (LenPost b w):=by
  obtain ⟨W,hW⟩:∃ W,w.alloc (.cells (testV t).toArray 45 (0,0))=W:=⟨_,rfl⟩
  have hbW:=Lib.hid (show Below w.heap.size w W by rw [← hW];exact (Below.refl _ _).alloc (Nat.le_refl _) _)
  have hI:=Lib.hid (show TestIn W w.heap.size t by rw [← hW];exact TestIn.new w t)
  have q2:=hI.out.c2
  have q3:=hI.out.c3
  have q5:=hI.out.c5
  have q6:=hI.out.c6
  have hzW:=hbW.out.size
  by_cases h4:t.form=4
  · have h4':(t.form == 4)=true:=by simp [h4]
    have hp:=Lib.hid (F.pat h4)
    clear h4
    go_enter Tryz.func216,Tryz.ntmps216
    go_wp2_with fail
    go_ret
    exact ⟨⟨_,rfl,hp.out⟩,hbW.out⟩
  have h4':(t.form == 4)=false:=by simp [h4]
  by_cases h2:t.form=2
  · have h2':(t.form == 2)=true:=by simp [h2]
    obtain ⟨n,hn⟩:∃ n:Nat,t.len=n:=⟨t.len.toNat,by have:=F.len;omega⟩
    have cp:=Lib.hid (f_prefix t.lo b n (by have:=F.len;omega) F.b1.2 W ⟨F.lo.1,by have:=F.lo;omega⟩)
    rw [hn] at q5
    clear h4 h2 hn F
    go_enter Tryz.func216,Tryz.ntmps216
    go_wp2_with (go_at_call 221;refine cp.out.mono ?_;rintro e w2 ⟨⟨s,rfl,hs⟩,hb2⟩;have hs2:=Lib.hid hs;have hb3:=Lib.hid (hbW.out.trans (hb2.mono hzW));clear hs hb2)
    go_ret
    exact ⟨⟨_,rfl,hs2.out⟩,hb3.out⟩
  have h2':(t.form == 2)=false:=by simp [h2]
  have cp:=Lib.hid (f_prefix t.lo b b (Nat.le_refl _) F.b1.2 W ⟨F.lo.1,by have:=F.lo;omega⟩)
  clear h4 h2 F
  go_enter Tryz.func216,Tryz.ntmps216
  go_wp2_with (go_at_call 221;refine cp.out.mono ?_;rintro e w2 ⟨⟨s,rfl,hs⟩,hb2⟩;have hs2:=Lib.hid hs;have hb3:=Lib.hid (hbW.out.trans (hb2.mono hzW));clear hs hb2)
  go_ret
  exact ⟨⟨_,rfl,hs2.out⟩,hb3.out⟩
theorem own_form {w:World}{base size n:Nat}{e:TypeId}{v:Value}{xs:List Value}(h:w.ownsRow base e size v n xs):∃ A c,v=.slice A n c∧(0<n→∃ g,A=some ⟨g,0,none⟩):=by
  rcases h.2 with ⟨rfl,rfl⟩|⟨g,cap,cur,rfl,_⟩
  · exact ⟨none,0,rfl,fun h=>absurd h (by omega)⟩
  · exact ⟨_,cap,rfl,fun _=>⟨g,rfl⟩⟩
theorem cubes_el {w:World}{base g cap:Nat}{k:Int}{fs:List (Nat→Int)}(h:CubesR w base (.slice (some ⟨g,0,none⟩) fs.length cap) k fs){j:Nat}(hj:j<fs.length):∃ f,∀ i,i<9→w.cell? ⟨g,j*9+i,none⟩=(cubeCells k f)[i]?:=by
  refine ⟨fs[j],fun i hi=>?_⟩
  have hu:(cubeCells k fs[j]).toList[i]?=(cubeCells k fs[j])[i]?:=by simp
  obtain ⟨u,hc⟩:∃ u,(cubeCells k fs[j])[i]?=some u:=by
    have:i<(cubeCells k fs[j]).size:=by simp [cubeCells];omega
    exact ⟨_,Array.getElem?_eq_getElem this⟩
  rw [hc]
  have hadd:(⟨g,0,none⟩:Addr).add (j*9+i)=⟨g,j*9+i,none⟩:=by unfold Addr.add;split<;>simp_all
  rw [← hadd]
  refine World.ownsRow.cells h (g:=g) rfl _ u ?_
  exact flatten_at 9 _ (fun c hc=>by obtain ⟨f,_,rfl⟩:=List.mem_map.1 hc;rfl) j i (cubeCells k fs[j]).toList u (by simp [List.getElem?_eq_getElem hj]) (by rw [hu,hc])
set_option maxHeartbeats 8000000 in
set_option maxRecDepth 100000 in
theorem f_either (t : TestS) (b : Nat) (F : FitH t b) (hp : Sm t.pat) (w : World) : Calls Tryz.prog 187 #[.agg (testV t).toArray, .int .i64 b] w (CoverN 17179869184 b w) := by
  obtain ⟨W,hW⟩:∃ W,w.alloc (.cells (testV t).toArray 45 (0,0))=W:=⟨_,rfl⟩
  have hbW:=Lib.hid (show Below w.heap.size w W by rw [← hW];exact (Below.refl _ _).alloc (Nat.le_refl _) _)
  have hI:=Lib.hid (show TestIn W w.heap.size t by rw [← hW];exact TestIn.new w t)
  have q0:=hI.out.c0
  have q1:=hI.out.c1
  have q2:=hI.out.c2
  have q3:=hI.out.c3
  have q4:=hI.out.c4
  have q5:=hI.out.c5
  have q6:=hI.out.c6
  have hzW:=hbW.out.size
  obtain ⟨hb1,hb2⟩:=F.b1
  have hlo:=F.lo
  have hhi:=F.hi
  by_cases h3:t.form=3
  · have h3':(t.form == 3)=true:=by simp [h3]
    by_cases h1:t.op=1
    · have h1':(t.op == 1)=true:=by simp [h1]
      have cc:=Lib.hid (f_cover b t.lo t.hi hb2 ⟨hlo.1,by omega⟩ hhi.2 (by omega) W)
      clear h3 h1 F
      go_enter Tryz.func187,Tryz.ntmps187
      go_wp2_with (go_at_call 188;refine cc.out.mono ?_;rintro e w2 ⟨v,l,rfl,hR,hS,hl,hb2⟩;have hF:=Lib.hid (show CoverN 17179869184 b w (.returned v) w2 from ⟨v,l,rfl,Go.Joins.ownsRow_le hR hzW,hS,Nat.le_trans hl (by decide),hbW.out.trans (hb2.mono hzW)⟩);clear hR hS hl hb2)
      go_ret
      exact hF.out
    · have h1':(t.op == 1)=false:=by simp [h1]
      have ht:=topS_lt (b:=(b:Int)) (by omega) (by omega)
      have ct:Hid (∀ w',Calls Tryz.prog 161 #[.int .i64 b] w' fun e w''=>e=.returned (.int .i64 (topS b))∧w''=w'):=Lib.hid fun w'=>(f_top b (by omega) (by omega) w').mono fun _ _ h=>⟨h.1,h.2.symm⟩
      have cA:=Lib.hid fun W=>f_cover b 0 (t.lo-1) hb2 ⟨by omega,by omega⟩ (by omega) (by omega) W
      have cB:=Lib.hid fun W=>f_cover b (t.hi+1) (topS b) hb2 ⟨by omega,by omega⟩ (by omega) (by omega) W
      generalize topS (b:Int)=tp at *
      have w1:IntKind.i64.wrap (t.lo-1)=t.lo-1:=IntWalk.i64_in _ (by omega)
      have w2:IntKind.i64.wrap (t.hi+1)=t.hi+1:=IntWalk.i64_in _ (by omega)
      have hlt:=hI.out.lt
      have hd:=Lib.hid fun n=>below_drewN (Below.refl W.heap.size W) n
      clear h3 h1 F hlo hhi ht
      go_enter Tryz.func187,Tryz.ntmps187
      go_wp2_with fail
      go_region_held3 (fun W'=>W'.cell? ⟨w.heap.size,3,none⟩=some (.int .i64 t.lo)∧W'.cell? ⟨w.heap.size,4,none⟩=some (.int .i64 t.hi))
        (first|exact hHeld|go_keep|exact ⟨(hbk9.cell (p:=⟨w.heap.size,3,none⟩) hlt).trans q3,(hbk9.cell (p:=⟨w.heap.size,4,none⟩) hlt).trans q4⟩|exact ⟨(hbk.cell (p:=⟨w.heap.size,3,none⟩) hlt).trans q3,(hbk.cell (p:=⟨w.heap.size,4,none⟩) hlt).trans q4⟩)
        ((first
          | (refine step_cat elText rfl (.tmp 27) (.tmp 34) rfl W.heap.size lA.length vA (lA.map .string) rfl hRA.out W.heap.size lB.length vB (lB.map .string) rfl hRB.out (by intro u hu;obtain ⟨y,_,rfl⟩:=List.mem_map.1 hu;rfl) (by omega) (by unfold maxLen;omega) hbk.size ?_;intro v9 w9 ho9 hb9;have hbk9:=hbk.trans hb9)
          | (go_at_call 161;refine (ct.out _).mono ?_;rintro e wt ⟨rfl,rfl⟩)
          | (have hRA':=hRA;clear hRA;go_at_call 188;(with_reducible refine (cB.out _).mono ?_);rintro e wy ⟨vB,lB,rfl,hRB',hSB,hlB,hbB⟩;have hRA:=Lib.hid (row_below hRA'.out hbB (Nat.le_refl _));have hRB:=Lib.hid (Go.Joins.ownsRow_le hRB' hbk.size);replace hbk:=hbk.trans (hbB.mono hbk.size))
          | (have hRB':=hRB;clear hRB;go_at_call 188;(with_reducible refine (cA.out _).mono ?_);rintro e wy ⟨vA,lA,rfl,hRA',hSA,hlA,hbA⟩;have hRB:=Lib.hid (row_below hRB'.out hbA (Nat.le_refl _));have hRA:=Lib.hid (Go.Joins.ownsRow_le hRA' hbk.size);replace hbk:=hbk.trans (hbA.mono hbk.size))
          | (go_at_call 188;(with_reducible refine (cA.out _).mono ?_);rintro e wz ⟨vA,lA,rfl,hRA',hSA,hlA,hbA⟩;have hRA:=Lib.hid (Go.Joins.ownsRow_le hRA' (hd.out 1).size);have hbk:=(hd.out 1).trans (hbA.mono (hd.out 1).size))
          | (go_at_call 188;(with_reducible refine (cB.out _).mono ?_);rintro e wz ⟨vB,lB,rfl,hRB',hSB,hlB,hbB⟩;have hRB:=Lib.hid (Go.Joins.ownsRow_le hRB' (hd.out 1).size);have hbk:=(hd.out 1).trans (hbB.mono (hd.out 1).size))))
      all_goals
        have hF:=Lib.hid (show CoverN 17179869184 b w (.returned v9) w9 from ⟨v9,lA++lB,rfl,Go.Joins.ownsRow_le (by simpa using ho9) hzW,fun s hs=>(List.mem_append.1 hs).elim (hSA s) (hSB s),by rw [List.length_append];omega,hbW.out.trans (hbk9.mono hzW)⟩)
        go_wp2_with fail
        go_ret
        exact hF.out
  have h3':(t.form == 3)=false:=by simp [h3]
  have co:=Lib.hid (f_one t b F W)
  by_cases h1:t.op=1
  · have h1':(t.op == 1)=true:=by simp [h1]
    clear h3 h1 F
    go_enter Tryz.func187,Tryz.ntmps187
    go_wp2_with (go_at_call 216;refine co.out.mono ?_;rintro e w2 ⟨⟨s,rfl,hs⟩,hb2⟩;have hs2:=Lib.hid hs;have hb3:=Lib.hid (hbW.out.trans (hb2.mono hzW));have q1:=(hI.out.below hb2 hI.out.lt).c1;clear hs hb2 co)
    go_ret
    exact ⟨_,[s],rfl,⟨rfl, .inr ⟨w2.heap.size,1,#[.string s],rfl,hb3.out.size,heap_alloc_new w2 _,Nat.le_refl _,by decide,rfl,rfl⟩⟩,by simp [hs2.out],by simp,hb3.out.alloc hb3.out.size _⟩
  have h1':(t.op == 1)=false:=by simp [h1]
  clear h3 h1 F
  go_enter Tryz.func187,Tryz.ntmps187
  go_upto_region 10 with (first
    | (go_at_call 216;refine co.out.mono ?_;rintro e w2 ⟨⟨s,rfl,hs⟩,hb2⟩;have hs2:=Lib.hid hs;have hb3:=Lib.hid (hbW.out.trans (hb2.mono hzW));have q1:=(hI.out.below hb2 hI.out.lt).c1;have cp:=Lib.hid (Parse_any s w2 (by have:=hs2.out;omega));clear hs hb2 co)
    | (go_at_call 217;refine cp.out.mono ?_;rintro e w3 ⟨k3,f3,rfl,hb4⟩;simp only [cubeCells];have hb5:=Lib.hid (hb3.out.trans (hb4.mono hb3.out.size));have hbA:=Lib.hid fun o=>hb5.out.alloc hb5.out.size o;clear hb4 cp))
  obtain ⟨wd,hwd⟩:∃ wd,w3.alloc (.cells #[.int .i64 k3, .int .u64 (f3 0), .int .u64 (f3 1), .int .u64 (f3 2), .int .u64 (f3 3), .int .u64 (f3 4), .int .u64 (f3 5), .int .u64 (f3 6), .int .u64 (f3 7)] 291 (0,0))=wd:=⟨_,rfl⟩
  rw [hwd]
  have hC:Hid (CubeAt wd w3.heap.size k3 f3):=Lib.hid (by rw [← hwd];exact heap_alloc_new w3 _)
  have hb6:Hid (Below w.heap.size w wd):=Lib.hid (by rw [← hwd];exact hbA.out _)
  clear hW hbW hI q0 q1 q2 q3 q4 q5 q6 hbA hwd hlo hhi hzW
  obtain ⟨x0,x1,x2,x3,x4,x5,x6,x7,x8⟩:=cells9 hC.out
  have hlt:w3.heap.size<wd.heap.size:=(Array.getElem?_eq_some_iff.1 hC.out).1
  go_cut [52,53,54] (fun u n z wx=>z=.int .i64 0∧∃ g cap,∃ fs:List (Nat→Int),u=.slice g fs.length cap∧n=.int .i64 fs.length∧fs.length≤256∧Hid (CubesR wx 0 u b fs)∧Hid (Below w.heap.size w wx))
  case first=>
    have ca:=Lib.hid fun W=>All_any b hb1 (by omega) W
    have csp:=Lib.hid fun W f=>Split_any b (by omega) k3 f f3 W
    simp only [cubeCells] at csp
    go_region_held3 (fun W=>W.cell? ⟨w3.heap.size,0,none⟩=some (.int .i64 k3)∧W.cell? ⟨w3.heap.size,1,none⟩=some (.int .u64 (f3 0))∧W.cell? ⟨w3.heap.size,2,none⟩=some (.int .u64 (f3 1))∧W.cell? ⟨w3.heap.size,3,none⟩=some (.int .u64 (f3 2))∧W.cell? ⟨w3.heap.size,4,none⟩=some (.int .u64 (f3 3))∧W.cell? ⟨w3.heap.size,5,none⟩=some (.int .u64 (f3 4))∧W.cell? ⟨w3.heap.size,6,none⟩=some (.int .u64 (f3 5))∧W.cell? ⟨w3.heap.size,7,none⟩=some (.int .u64 (f3 6))∧W.cell? ⟨w3.heap.size,8,none⟩=some (.int .u64 (f3 7)))
      (first|exact hHeld|go_keep|exact cells9 ((hby.block _ (Nat.lt_of_lt_of_le hlt hbz.size)).trans ((hbz.block _ hlt).trans hC.out))|exact cells9 ((hbz.block _ hlt).trans hC.out))
      ((first
        | (go_at_call 219;refine (csp.out _ fa).mono ?_;rintro e wy ⟨v,fs,rfl,hfl,hfr,hby⟩;obtain ⟨A9,c9,rfl,_⟩:=own_form hfr)
        | (go_at_call 218;refine (ca.out _).mono ?_;rintro e wz ⟨⟨fa,rfl⟩,hbz⟩;simp only [cubeCells])))
    go_wp2_with fail
    go_meet
    exact ⟨rfl,A9,c9,fs,rfl,rfl,hfl,Lib.hid (Go.Joins.ownsRow_le hfr (Nat.zero_le _)),Lib.hid (hb6.out.trans (((((Below.refl wd.heap.size wd).drew).trans hbz).trans (hby.mono hbz.size)).mono hb6.out.size))⟩
  case rest=>
  obtain ⟨rfl,g9,c9,fs,rfl,rfl,hfl,hfr,hbw⟩:=hcut
  clear hC x0 x1 x2 x3 x4 x5 x6 x7 x8 hlt hb6 hb5 hb3
  obtain ⟨we,rfl⟩:∃ we,we=wc:=⟨_,rfl⟩
  have hR0:Hid (TextsR we we.heap.size (.slice none 0 0) []):=Lib.hid (World.ownsRow_nil _ _ _ _)
  have hb0:=Lib.hid (Below.refl we.heap.size we)
  go_wp2_with fail
  go_loopw [8,10,54] (fun v _ i wr=>∃ (j:Nat) (l:List ByteArray),j≤fs.length∧i=.int .i64 j∧l.length=j∧Hid (TextsR wr we.heap.size v l)∧Hid (∀ s∈l,s.size=b)∧Hid (Below we.heap.size we wr)) (fun _ _ i _=>fs.length-(intOf i).toNat)
  case atStart=>exact ⟨0,[],by omega,rfl,rfl,hR0,Lib.hid (by simp),hb0⟩
  case round=>
    obtain ⟨j,l,hj,rfl,hlj,hR,hS,hb⟩:=hrel
    clear hR0 hb0
    replace hlj:=Lib.hid hlj
    by_cases hlt:j<fs.length
    · obtain ⟨A,c,hv,hA⟩:=own_form hfr.out
      injection hv with hv1 _ hv2
      subst hv1 hv2
      obtain ⟨g,rfl⟩:=hA (by omega)
      have hgl:g<we.heap.size:=(hfr.out.lt g rfl).2
      obtain ⟨f,hf⟩:=cubes_el hfr.out hlt
      have e:∀ i,i<9→wr.cell? ⟨g,j*9+i,none⟩=(cubeCells b f)[i]?:=fun i hi=>(hb.out.cell (p:=⟨g,j*9+i,none⟩) hgl).trans (hf i hi)
      have x0:wr.cell? ⟨g,j*9,none⟩=some (.int .i64 b):=e 0 (by omega)
      have x1:wr.cell? ⟨g,j*9+1,none⟩=some (.int .u64 (f 0)):=e 1 (by omega)
      have x2:wr.cell? ⟨g,j*9+2,none⟩=some (.int .u64 (f 1)):=e 2 (by omega)
      have x3:wr.cell? ⟨g,j*9+3,none⟩=some (.int .u64 (f 2)):=e 3 (by omega)
      have x4:wr.cell? ⟨g,j*9+4,none⟩=some (.int .u64 (f 3)):=e 4 (by omega)
      have x5:wr.cell? ⟨g,j*9+5,none⟩=some (.int .u64 (f 4)):=e 5 (by omega)
      have x6:wr.cell? ⟨g,j*9+6,none⟩=some (.int .u64 (f 5)):=e 6 (by omega)
      have x7:wr.cell? ⟨g,j*9+7,none⟩=some (.int .u64 (f 6)):=e 7 (by omega)
      have x8:wr.cell? ⟨g,j*9+8,none⟩=some (.int .u64 (f 7)):=e 8 (by omega)
      have ct:=Lib.hid fun W=>Text_any b (by omega) f W
      simp only [cubeCells] at ct
      have hbA:=Lib.hid fun o=>hb.out.alloc hb.out.size o
      have hRA:=Lib.hid fun o=>World.ownsRow.alloc hR.out o
      have hzr:=hb.out.size
      have hll:l.length≤256:=by have:=hlj.out;omega
      clear e hf hR hb hA
      go_wp2_with (first
        | (go_at_call 220;refine (ct.out _).mono ?_;rintro e w4 ⟨⟨s4,rfl,hs4⟩,hb4⟩;have hs5:=Lib.hid hs4;have hb5:=Lib.hid ((hbA.out _).trans (hb4.mono (by simp;omega)));have hR5:=Lib.hid (row_below (hRA.out _) hb4 (Nat.le_refl _));have hz5:=hb5.out.size;clear hs4 hb4 ct)
        | (at_builtin;refine push_one elText rfl (.tmp 58) (.tmp 61) rfl we.heap.size l.length u8 _ rfl hR5.out w4.heap.size rfl (.string s4) rfl rfl (by omega) (by unfold maxLen;omega) hz5 ?_;intro g' cap' w6 ho6 hb6 _;have ho7:=Lib.hid ho6;have hb7:=Lib.hid (hb5.out.trans hb6);clear ho6 hb6))
      go_roundw
      case rel=>exact ⟨j+1,l++[s4],by omega,by go_num,by have:=hlj.out;simp;omega,Lib.hid (by unfold TextsR;simpa using ho7.out),Lib.hid (fun t ht=>by rcases List.mem_append.1 ht with h|h;exact hS.out t h;simp only [List.mem_cons,List.not_mem_nil,or_false] at h;rw [h];exact hs5.out),hb7⟩
      case measure=>simp [intOf];omega
    · have hF:=Lib.hid (show CoverN 17179869184 b w (.returned u8) wr from ⟨_,l,rfl,Go.Joins.ownsRow_le hR.out hbw.out.size,hS.out,by have:=hlj.out;omega,hbw.out.trans (hb.out.mono hbw.out.size)⟩)
      clear hR hb
      go_wp2_with fail
      go_ret
      exact hF.out
end Go.Proofs.YtdhehcobnbcmdaaGreatDoor
