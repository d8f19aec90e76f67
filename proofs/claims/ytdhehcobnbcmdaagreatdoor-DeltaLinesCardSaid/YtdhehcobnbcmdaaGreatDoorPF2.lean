/- A part of the proof of DeltaLines: Fld2. -/
import Derived.Test.YtdhehcobnbcmdaaGreatDoorPN
set_option linter.all false
namespace Go.Proofs.YtdhehcobnbcmdaaGreatDoor
open Go.RowKit
def TestIn (w:World)(M:Nat)(t:TestS):Prop:=w.heap[M]?=some (.cells (testV t).toArray 45 (0,0))
section
variable {w w':World} {M:Nat} {t:TestS}
theorem TestIn.new (w:World)(t:TestS):TestIn (w.alloc (.cells (testV t).toArray 45 (0,0))) w.heap.size t:=heap_alloc_new w _
theorem TestIn.below (h:TestIn w M t){B:Nat}(hb:Below B w w')(hM:M<B):TestIn w' M t:=(hb.block _ hM).trans h
theorem TestIn.lt (h:TestIn w M t):M<w.heap.size:=(Array.getElem?_eq_some_iff.1 h).1
theorem TestIn.c0 (h:TestIn w M t):w.cell? ⟨M,0,none⟩=some (.string t.field):=by simpa [testV] using cell_of_row w M 0 _ _ (0,0) h
theorem TestIn.c1 (h:TestIn w M t):w.cell? ⟨M,1,none⟩=some (.int .i64 t.op):=by simpa [testV] using cell_of_row w M 1 _ _ (0,0) h
theorem TestIn.c2 (h:TestIn w M t):w.cell? ⟨M,2,none⟩=some (.int .i64 t.form):=by simpa [testV] using cell_of_row w M 2 _ _ (0,0) h
theorem TestIn.c3 (h:TestIn w M t):w.cell? ⟨M,3,none⟩=some (.int .i64 t.lo):=by simpa [testV] using cell_of_row w M 3 _ _ (0,0) h
theorem TestIn.c4 (h:TestIn w M t):w.cell? ⟨M,4,none⟩=some (.int .i64 t.hi):=by simpa [testV] using cell_of_row w M 4 _ _ (0,0) h
theorem TestIn.c5 (h:TestIn w M t):w.cell? ⟨M,5,none⟩=some (.int .i64 t.len):=by simpa [testV] using cell_of_row w M 5 _ _ (0,0) h
theorem TestIn.c6 (h:TestIn w M t):w.cell? ⟨M,6,none⟩=some (.string t.pat):=by simpa [testV] using cell_of_row w M 6 _ _ (0,0) h
end
def fit1 (t:TestS):Bool:=decide (1≤t.op∧t.op≤6∧1≤t.form∧t.form≤4)
def fit2 (t:TestS):Bool:=!(decide (2<t.op) && !decide (t.form=1))
def fit3 (t:TestS):Bool:=!(decide (t.form=4) && !decide (t.lo=0)) && !(!decide (t.form=3) && !decide (t.hi=0)) && !(!decide (t.form=2) && !decide (t.len=0)) && !(!decide (t.form=4) && !t.pat.toList.isEmpty)
def fit4 (t:TestS)(bits:Int):Bool:=decide (0≤t.lo∧t.lo≤topS bits∧0≤t.hi∧t.hi≤topS bits∧0≤t.len∧t.len≤bits)
def fit5 (t:TestS)(bits:Int):Bool:=!(decide (t.form=2) && (Go.bits .and .i64 t.lo (topS (bits-t.len)) != 0))
def fit6 (t:TestS):Bool:=!(decide (t.form=3) && decide (t.hi<t.lo))
def fit7 (t:TestS)(bits:Int):Bool:=!(decide (t.form=4) && !(decide ((t.pat.size:Int)=bits) && pat01x t.pat))
theorem trim_pat (s:ByteArray):(Lib.trimS s.data.toList [48,49,120]=[])↔pat01x s=true:=by
  rw [trimS_nil]
  unfold allOf pat01x
  rw [show (fun c:UInt8=>[48,49,120].contains c)=cubeU from funext fun c=>u8_all (p:=fun c=>[48,49,120].contains c) (q:=cubeU) (by decide +kernel) c]
  rfl
theorem fit_is (t:TestS)(bits:Int):fitS t bits=(fit1 t && fit2 t && fit3 t && fit4 t bits && fit5 t bits && fit6 t && fit7 t bits):=rfl
set_option maxHeartbeats 4000000 in
set_option maxRecDepth 100000 in
theorem f_fit (t : TestS) (bits : Int) (hb0 : 1 ≤ bits) (hb1 : bits ≤ 32) (w : World) (E : Env w) (hs : Sm t.pat) :
    Calls Tryz.prog 163 #[.agg (testV t).toArray, .int .i64 bits] w (CodePost (fitS t bits) w):=by
  have HR:=Lib.hid (fit_is t bits)
  generalize fitS t bits=R at *
  obtain ⟨W,hW⟩:∃ W,w.alloc (.cells (testV t).toArray 45 (0,0))=W:=⟨_,rfl⟩
  have hbW:=Lib.hid (show Below w.heap.size w W by rw [← hW];exact (Below.refl _ _).alloc (Nat.le_refl _) _)
  have hI:=Lib.hid (show TestIn W w.heap.size t by rw [← hW];exact TestIn.new w t)
  have q1:=hI.out.c1
  have q2:=hI.out.c2
  have hE:=Lib.hid E
  go_enter Tryz.func163,Tryz.ntmps163
  go_upto_region 1 with fail
  clear hW
  go_cut [23] (fun v wx=>wx=W∧v=.bool (!fit1 t))
  case first=>
    as_aux_lemma=>
      go_wp2
      all_goals (go_meet)
      all_goals (refine ⟨rfl,val_bool ?_⟩;unfold fit1;rw [Bool.eq_iff_iff];simp;omega)
  case rest=>
  obtain ⟨rfl,rfl⟩:=hcut
  cases h1:fit1 t
  · have H:=Lib.hid (code_bad (w:=w) (w':=wc) (k:=47) (show R=false by rw [HR.out,h1];rfl) (by decide) hbW.out)
    go_wp2_with fail
    go_ret
    exact H.out
  rw [h1] at HR
  have g1:1≤t.op∧t.op≤6∧1≤t.form∧t.form≤4:=by simpa [fit1] using h1
  clear h1
  go_upto_region 3 with fail
  go_cut [31] (fun v wx=>wx=wc∧v=.bool (!fit2 t))
  case first=>
    as_aux_lemma=>
      go_wp2
      all_goals (go_meet)
      all_goals (refine ⟨rfl,val_bool ?_⟩;unfold fit2;rw [Bool.eq_iff_iff];simp;omega)
  case rest=>
  obtain ⟨rfl,rfl⟩:=hcut
  cases h2:fit2 t
  · have H:=Lib.hid (code_bad (w:=w) (k:=47) (show R=false by rw [HR.out,h2];rfl) (by decide) hbW.out)
    go_wp2_with fail
    go_ret
    exact H.out
  rw [h2] at HR
  clear h2
  obtain ⟨g1,g2,g3,g4⟩:=g1
  have hzW:=hbW.out.size
  have hlt:w.heap.size<wc.heap.size:=hI.out.lt
  obtain ⟨wd,rfl⟩:∃ wd,wd=wc:=⟨_,rfl⟩
  have q3:=hI.out.c3
  have q4:=hI.out.c4
  have q5:=hI.out.c5
  have q6:=hI.out.c6
  have hEd:=Lib.hid (hE.out.below hbW.out)
  go_upto_region 5 with fail
  go_cut [5] (fun v wx=>v=.pointer (some ⟨wd.heap.size,0,none⟩)∧Hid (wx.heap[wd.heap.size]?=some (.cells #[.bool (!decide (t.form=4)), .bool (decide (t.form=3)), .bool (decide (t.form=2)), .bool (decide (t.form=4))] 256 (0,0)))∧Hid (Below wd.heap.size wd wx))
  case first=>
    as_aux_lemma=>
      have hbA:=Lib.hid fun o=>(Below.refl wd.heap.size wd).alloc (Nat.le_refl _) o
      obtain h|h|h|h:t.form=1∨t.form=2∨t.form=3∨t.form=4:=by omega
      all_goals
        rw [h] at q2
        replace h:=Lib.hid h
      · obtain ⟨u0,u1,u2,u3⟩:=hEd.out.uses 4 5 6 7 rfl rfl rfl rfl
        go_wp2
        go_meet
        exact ⟨rfl,Lib.hid (by rw [h.out];exact heap_alloc_new wd _),hbA.out _⟩
      · obtain ⟨u0,u1,u2,u3⟩:=hEd.out.uses 8 9 10 11 rfl rfl rfl rfl
        go_wp2
        go_meet
        exact ⟨rfl,Lib.hid (by rw [h.out];exact heap_alloc_new wd _),hbA.out _⟩
      · obtain ⟨u0,u1,u2,u3⟩:=hEd.out.uses 12 13 14 15 rfl rfl rfl rfl
        go_wp2
        go_meet
        exact ⟨rfl,Lib.hid (by rw [h.out];exact heap_alloc_new wd _),hbA.out _⟩
      · obtain ⟨u0,u1,u2,u3⟩:=hEd.out.uses 16 17 18 19 rfl rfl rfl rfl
        go_wp2
        go_meet
        exact ⟨rfl,Lib.hid (by rw [h.out];exact heap_alloc_new wd _),hbA.out _⟩
  case rest=>
  obtain ⟨rfl,hU,hb2⟩:=hcut
  replace hbW:=Lib.hid (hbW.out.trans (hb2.out.mono hzW))
  replace hI:=Lib.hid (hI.out.below hb2.out hlt)
  clear hb2 q1 q2 q3 q4 q5 q6 hEd hzW
  have q2:=hI.out.c2
  have q3:=hI.out.c3
  have q4:=hI.out.c4
  have q5:=hI.out.c5
  have q6:=hI.out.c6
  go_upto_region 6 with fail
  go_cut [73] (fun v wx=>wx=wc∧v=.bool (!fit3 t))
  case first=>
    as_aux_lemma=>
      have u0:wc.cell? ⟨wd.heap.size,0,none⟩=some (.bool (!decide (t.form=4))):=by rw [cell_of_row wc _ _ _ _ _ hU.out];rfl
      have u1:wc.cell? ⟨wd.heap.size,1,none⟩=some (.bool (decide (t.form=3))):=by rw [cell_of_row wc _ _ _ _ _ hU.out];rfl
      have u2:wc.cell? ⟨wd.heap.size,2,none⟩=some (.bool (decide (t.form=2))):=by rw [cell_of_row wc _ _ _ _ _ hU.out];rfl
      have u3:wc.cell? ⟨wd.heap.size,3,none⟩=some (.bool (decide (t.form=4))):=by rw [cell_of_row wc _ _ _ _ _ hU.out];rfl
      have h3:Hid (fit3 t=(!(decide (t.form=4) && !decide (t.lo=0)) && !(!decide (t.form=3) && !decide (t.hi=0)) && !(!decide (t.form=2) && !decide (t.len=0)) && !(!decide (t.form=4) && !t.pat.toList.isEmpty))):=Lib.hid rfl
      clear hU
      obtain h|h|h|h:t.form=1∨t.form=2∨t.form=3∨t.form=4:=by omega
      all_goals
        rw [h] at q2 h3 u0 u1 u2 u3
        simp only [Int.reduceEq,decide_true,decide_false,Bool.not_true,Bool.not_false] at u0 u1 u2 u3
        clear h g3 g4
        go_wp2
        all_goals (go_meet)
        all_goals (refine ⟨rfl,val_bool ?_⟩;rw [h3.out];simp_all)
  case rest=>
  obtain ⟨rfl,rfl⟩:=hcut
  clear hU
  cases h3:fit3 t
  · have H:=Lib.hid (code_bad (w:=w) (w':=wc) (k:=47) (show R=false by rw [HR.out,h3];rfl) (by decide) hbW.out)
    go_wp2_with fail
    go_ret
    exact H.out
  rw [h3] at HR
  clear h3
  obtain ⟨we,rfl⟩:∃ we,we=wc:=⟨_,rfl⟩
  have ct:Hid (∀ w',Calls Tryz.prog 161 #[.int .i64 bits] w' fun e w''=>e=.returned (.int .i64 (topS bits))∧w''=w'):=Lib.hid fun w'=>(f_top bits (by omega) hb1 w').mono fun _ _ h=>⟨h.1,h.2.symm⟩
  go_upto_region 8 with fail
  go_cut [106] (fun v wx=>v=.bool (!fit4 t bits)∧Hid (Below we.heap.size we wx))
  case first=>
    as_aux_lemma=>
      have h4:=Lib.hid (show fit4 t bits=decide (0≤t.lo∧t.lo≤topS bits∧0≤t.hi∧t.hi≤topS bits∧0≤t.len∧t.len≤bits) from rfl)
      have hbe:=Lib.hid fun n=>below_drewN (Below.refl we.heap.size we) n
      generalize topS bits=tp at *
      by_cases b1:t.lo<0
      · go_quiet (exact Calls.quiet_of_same (ct.out _))
        go_wp2_with fail
        go_meet
        exact ⟨val_bool (by rw [h4.out];simp;omega),hbe.out _⟩
      have b1':decide (t.lo<0)=false:=decide_eq_false b1
      by_cases b2:t.lo>tp
      · go_quiet (exact Calls.quiet_of_same (ct.out _))
        go_wp2_with fail
        go_meet
        exact ⟨val_bool (by rw [h4.out];simp;omega),hbe.out _⟩
      have b2':decide (t.lo>tp)=false:=decide_eq_false b2
      by_cases b3:t.hi<0
      · go_quiet (exact Calls.quiet_of_same (ct.out _))
        go_wp2_with fail
        go_meet
        exact ⟨val_bool (by rw [h4.out];simp;omega),hbe.out _⟩
      have b3':decide (t.hi<0)=false:=decide_eq_false b3
      by_cases b4:t.hi>tp
      · go_quiet (exact Calls.quiet_of_same (ct.out _))
        go_wp2_with fail
        go_meet
        exact ⟨val_bool (by rw [h4.out];simp;omega),hbe.out _⟩
      have b4':decide (t.hi>tp)=false:=decide_eq_false b4
      by_cases b5:t.len<0
      · go_quiet (exact Calls.quiet_of_same (ct.out _))
        go_wp2_with fail
        go_meet
        exact ⟨val_bool (by rw [h4.out];simp;omega),hbe.out _⟩
      have b5':decide (t.len<0)=false:=decide_eq_false b5
      go_quiet (exact Calls.quiet_of_same (ct.out _))
      go_wp2_with fail
      go_meet
      exact ⟨val_bool (by rw [h4.out,Bool.eq_iff_iff];simp;omega),hbe.out _⟩
  case rest=>
  obtain ⟨rfl,hb2⟩:=hcut
  replace hbW:=Lib.hid (hbW.out.trans (hb2.out.mono hbW.out.size))
  replace hI:=Lib.hid (hI.out.below hb2.out hI.out.lt)
  clear hb2 q2 q3 q4 q5 q6
  cases h4:fit4 t bits
  · have H:=Lib.hid (code_bad (w:=w) (w':=wc) (k:=42) (show R=false by rw [HR.out,h4];rfl) (by decide) hbW.out)
    go_wp2_with fail
    go_ret
    exact H.out
  rw [h4] at HR
  obtain ⟨j1,j2,j3,j4,j5,j6⟩:0≤t.lo∧t.lo≤topS bits∧0≤t.hi∧t.hi≤topS bits∧0≤t.len∧t.len≤bits:=of_decide_eq_true h4
  have jt:=topS_lt (b:=bits) (by omega) hb1
  clear h4 ct
  have q2:=hI.out.c2
  have q3:=hI.out.c3
  have q4:=hI.out.c4
  have q5:=hI.out.c5
  have q6:=hI.out.c6
  obtain ⟨wf,rfl⟩:∃ wf,wf=wc:=⟨_,rfl⟩
  have cu:Hid (∀ w',Calls Tryz.prog 161 #[.int .i64 (bits-t.len)] w' fun e w''=>e=.returned (.int .i64 (topS (bits-t.len)))∧w''=w'):=Lib.hid fun w'=>(f_top (bits-t.len) (by omega) (by omega) w').mono fun _ _ h=>⟨h.1,h.2.symm⟩
  go_upto_region 10 with fail
  go_cut [120] (fun v wx=>v=.bool (!fit5 t bits)∧Hid (Below wf.heap.size wf wx))
  case first=>
    as_aux_lemma=>
      have h5:=Lib.hid (show fit5 t bits = !(decide (t.form=2) && (Go.bits .and .i64 t.lo (topS (bits-t.len)) != 0)) from rfl)
      have hbe:=Lib.hid fun n=>below_drewN (Below.refl wf.heap.size wf) n
      have hw1:IntKind.i64.wrap (bits-t.len)=bits-t.len:=IntWalk.i64_in _ (by omega)
      generalize topS (bits-t.len)=tp at *
      by_cases b1:t.form=2
      · go_quiet (exact Calls.quiet_of_same (cu.out _))
        go_wp2_with fail
        go_meet
        exact ⟨val_bool (by rw [h5.out];simp [b1]),hbe.out _⟩
      · have b1':(t.form == 2)=false:=by simp [b1]
        go_quiet (exact Calls.quiet_of_same (cu.out _))
        go_wp2_with fail
        go_meet
        exact ⟨val_bool (by rw [h5.out];simp [b1]),hbe.out _⟩
  case rest=>
  obtain ⟨rfl,hb2⟩:=hcut
  replace hbW:=Lib.hid (hbW.out.trans (hb2.out.mono hbW.out.size))
  replace hI:=Lib.hid (hI.out.below hb2.out hI.out.lt)
  clear hb2 q2 q3 q4 q5 q6 cu
  cases h5:fit5 t bits
  · have H:=Lib.hid (code_bad (w:=w) (w':=wc) (k:=42) (show R=false by rw [HR.out,h5];rfl) (by decide) hbW.out)
    go_wp2_with fail
    go_ret
    exact H.out
  rw [h5] at HR
  clear h5
  have q2:=hI.out.c2
  have q3:=hI.out.c3
  have q4:=hI.out.c4
  go_upto_region 12 with fail
  go_cut [130] (fun v wx=>wx=wc∧v=.bool (!fit6 t))
  case first=>
    as_aux_lemma=>
      go_wp2_with fail
      all_goals (go_meet)
      all_goals (refine ⟨rfl,val_bool ?_⟩;unfold fit6;rw [Bool.eq_iff_iff];simp;omega)
  case rest=>
  obtain ⟨rfl,rfl⟩:=hcut
  cases h6:fit6 t
  · have H:=Lib.hid (code_bad (w:=w) (w':=wc) (k:=43) (show R=false by rw [HR.out,h6];simp) (by decide) hbW.out)
    go_wp2_with fail
    go_ret
    exact H.out
  rw [h6] at HR
  clear h6 q3 q4
  have q6:=hI.out.c6
  have h7:=Lib.hid (show R = !(decide (t.form=4) && !(decide ((t.pat.size:Int)=bits) && pat01x t.pat)) by rw [HR.out];simp [fit7])
  have hp:=Lib.hid (trim_pat t.pat)
  have c1:=Lib.hid fun w'=>Any.strings_Trim_laid Tryz.lays160 (by kernel_rfl) t.pat ⟨#[48,49,120]⟩ w' (by unfold Sm at hs;omega) (by decide) (ascii_of_all (by decide))
  generalize Lib.trimS t.pat.data.toList [48,49,120]=q at *
  by_cases b1:t.form=4
  · by_cases b2:(t.pat.size:Int)=bits
    · have b1':(t.form == 4)=true:=by simp [b1]
      have b2':((t.pat.size:Int) != bits)=false:=by simp [b2]
      cases q with
      | nil =>
        have HF:=Lib.hid (show R=true by rw [h7.out,hp.out.1 rfl];simp [b2])
        clear b1 b2
        go_wp2_with (go_at_call 186;refine (c1.out _).mono ?_;rintro e w2 ⟨rfl,hb2⟩)
        go_ret
        exact code_ok HF.out (hbW.out.trans (hb2.mono hbW.out.size))
      | cons x q =>
        have HF:=Lib.hid (show R=false by
          rw [h7.out]
          cases hq:pat01x t.pat
          · simp [b1]
          · exact absurd (hp.out.2 hq) (by simp))
        clear b1 b2
        go_wp2_with (go_at_call 186;refine (c1.out _).mono ?_;rintro e w2 ⟨rfl,hb2⟩)
        go_ret
        exact code_bad HF.out (by decide) (hbW.out.trans (hb2.mono hbW.out.size))
    · have HF:=Lib.hid (code_bad (w:=w) (w':=wc) (k:=44) (show R=false by rw [h7.out];simp [b1,b2]) (by decide) hbW.out)
      have b1':(t.form == 4)=true:=by simp [b1]
      have b2':((t.pat.size:Int) != bits)=true:=by simp [b2]
      clear b1 b2
      go_wp2_with fail
      go_ret
      exact HF.out
  · have HF:=Lib.hid (code_ok (w:=w) (w':=wc) (show R=true by rw [h7.out];simp [b1]) hbW.out)
    have b1':(t.form == 4)=false:=by simp [b1]
    clear b1
    go_wp2_with fail
    go_ret
    exact HF.out
end Go.Proofs.YtdhehcobnbcmdaaGreatDoor
