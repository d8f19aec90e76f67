/- A part of the proof of DeltaLines: LwC. -/
import Derived.Test.YtdhehcobnbcmdaaGreatDoorPLA
import Derived.Test.YtdhehcobnbcmdaaGreatDoorPCh
set_option linter.all false
namespace Go.Proofs.YtdhehcobnbcmdaaGreatDoor
open Go.RowKit
def smT:TestS:=⟨⟨#[]⟩,0,0,0,0,0,⟨#[]⟩⟩
def smR:RuleS:=⟨1,[],[⟨1,smT⟩],[],[]⟩
def smA:ConfS:=⟨⟨#[]⟩,[⟨⟨#[102]⟩,1⟩],⟨#[]⟩,false,[⟨⟨#[65]⟩,[⟨#[105]⟩],[⟨#[111]⟩],[],[],[],[]⟩],[],[]⟩
def smB:ConfS:=⟨⟨#[]⟩,[⟨⟨#[102]⟩,1⟩],⟨#[]⟩,false,[⟨⟨#[65]⟩,[⟨#[105]⟩],[⟨#[111]⟩],[],[smR],[],[]⟩],[],[]⟩
theorem sm_ok:okCh smA smB=true:=by kernel_rfl
theorem sm_len:(changesS smA smB).length=1:=by
  unfold changesS
  rw [if_pos sm_ok]
  kernel_rfl
theorem below_chain {B:Nat}{w0 w:World}(h:Below B w0 w)(hB:B≤w.heap.size)(o:Obj):Below B w0 (w.alloc o)∧B≤(w.alloc o).heap.size:=⟨h.alloc hB o,by simp;omega⟩
theorem chain11 (w W:World)(o0 o1 o2 o3 o4 o5 o6 o7 o8 o9 o10:Obj)(hW:(((((((((((w.alloc o0).alloc o1).alloc o2).alloc o3).alloc o4).alloc o5).alloc o6).alloc o7).alloc o8).alloc o9).alloc o10)=W):W.heap.size=w.heap.size+11∧Below w.heap.size w W∧W.heap[w.heap.size]?=some o0∧W.heap[w.heap.size+1]?=some o1∧W.heap[w.heap.size+1+1]?=some o2∧W.heap[w.heap.size+1+1+1]?=some o3∧W.heap[w.heap.size+1+1+1+1]?=some o4∧W.heap[w.heap.size+1+1+1+1+1]?=some o5∧W.heap[w.heap.size+1+1+1+1+1+1]?=some o6∧W.heap[w.heap.size+1+1+1+1+1+1+1]?=some o7∧W.heap[w.heap.size+1+1+1+1+1+1+1+1]?=some o8∧W.heap[w.heap.size+1+1+1+1+1+1+1+1+1]?=some o9∧W.heap[w.heap.size+1+1+1+1+1+1+1+1+1+1]?=some o10:=by
  subst hW
  refine ⟨by simp,?_,?_⟩
  · have h0:=below_chain (Below.refl w.heap.size w) (Nat.le_refl _) o0
    have h1:=below_chain h0.1 h0.2 o1
    have h2:=below_chain h1.1 h1.2 o2
    have h3:=below_chain h2.1 h2.2 o3
    have h4:=below_chain h3.1 h3.2 o4
    have h5:=below_chain h4.1 h4.2 o5
    have h6:=below_chain h5.1 h5.2 o6
    have h7:=below_chain h6.1 h6.2 o7
    have h8:=below_chain h7.1 h7.2 o8
    have h9:=below_chain h8.1 h8.2 o9
    have h10:=below_chain h9.1 h9.2 o10
    exact h10.1
  · have e:(((((((((((w.alloc o0).alloc o1).alloc o2).alloc o3).alloc o4).alloc o5).alloc o6).alloc o7).alloc o8).alloc o9).alloc o10).heap=(((((((((((w.heap.push o0).push o1).push o2).push o3).push o4).push o5).push o6).push o7).push o8).push o9).push o10):=rfl
    rw [e]
    refine ⟨?_,?_,?_,?_,?_,?_,?_,?_,?_,?_,?_⟩<;>simp only [Array.getElem?_push,Array.size_push]<;>(repeat (first|rw [if_pos trivial]|rw [if_neg (by omega)]))
set_option maxRecDepth 100000 in
theorem sm_world (w W:World)(hW:(((((((((((w.alloc (.cells #[.string ⟨#[102]⟩, .int .i64 1] 38 (0,0))).alloc (.cells #[.string ⟨#[105]⟩] 9 (0,0))).alloc (.cells #[.string ⟨#[111]⟩] 9 (0,0))).alloc (.cells #[.string ⟨#[65]⟩, .slice (some ⟨w.heap.size+1,0,none⟩) 1 1, .slice (some ⟨w.heap.size+1+1,0,none⟩) 1 1, .slice none 0 0, .slice none 0 0, .slice none 0 0, .slice none 0 0] 43 (0,0))).alloc (.cells #[.string ⟨#[]⟩, .slice (some ⟨w.heap.size,0,none⟩) 1 1, .string ⟨#[]⟩, .bool false, .slice (some ⟨w.heap.size+1+1+1,0,none⟩) 1 1, .slice none 0 0, .slice none 0 0] 27 (0,0))).alloc (.cells #[.string ⟨#[]⟩, .slice (some ⟨w.heap.size,0,none⟩) 1 1, .string ⟨#[]⟩, .bool false, .slice (some ⟨w.heap.size+1+1+1+1+1+1+1+1+1+1,0,none⟩) 1 1, .slice none 0 0, .slice none 0 0] 27 (0,0))).alloc (.cells #[.string ⟨#[105]⟩] 9 (0,0))).alloc (.cells #[.string ⟨#[111]⟩] 9 (0,0))).alloc (.cells #[.int .i64 1, .string ⟨#[]⟩, .int .i64 0, .int .i64 0, .int .i64 0, .int .i64 0, .int .i64 0, .string ⟨#[]⟩] 47 (0,0))).alloc (.cells #[.int .i64 1, .slice none 0 0, .slice (some ⟨w.heap.size+1+1+1+1+1+1+1+1,0,none⟩) 1 1, .slice none 0 0, .slice none 0 0] 51 (0,0))).alloc (.cells #[.string ⟨#[65]⟩, .slice (some ⟨w.heap.size+1+1+1+1+1+1,0,none⟩) 1 1, .slice (some ⟨w.heap.size+1+1+1+1+1+1+1,0,none⟩) 1 1, .slice none 0 0, .slice (some ⟨w.heap.size+1+1+1+1+1+1+1+1+1,0,none⟩) 1 1, .slice none 0 0, .slice none 0 0] 43 (0,0)))=W):W.heap.size=w.heap.size+11∧Below w.heap.size w W∧W.heap[w.heap.size]?=some (.cells #[.string ⟨#[102]⟩, .int .i64 1] 38 (0,0))∧W.heap[w.heap.size+1]?=some (.cells #[.string ⟨#[105]⟩] 9 (0,0))∧W.heap[w.heap.size+1+1]?=some (.cells #[.string ⟨#[111]⟩] 9 (0,0))∧W.heap[w.heap.size+1+1+1]?=some (.cells #[.string ⟨#[65]⟩, .slice (some ⟨w.heap.size+1,0,none⟩) 1 1, .slice (some ⟨w.heap.size+1+1,0,none⟩) 1 1, .slice none 0 0, .slice none 0 0, .slice none 0 0, .slice none 0 0] 43 (0,0))∧W.heap[w.heap.size+1+1+1+1]?=some (.cells #[.string ⟨#[]⟩, .slice (some ⟨w.heap.size,0,none⟩) 1 1, .string ⟨#[]⟩, .bool false, .slice (some ⟨w.heap.size+1+1+1,0,none⟩) 1 1, .slice none 0 0, .slice none 0 0] 27 (0,0))∧W.heap[w.heap.size+1+1+1+1+1]?=some (.cells #[.string ⟨#[]⟩, .slice (some ⟨w.heap.size,0,none⟩) 1 1, .string ⟨#[]⟩, .bool false, .slice (some ⟨w.heap.size+1+1+1+1+1+1+1+1+1+1,0,none⟩) 1 1, .slice none 0 0, .slice none 0 0] 27 (0,0))∧W.heap[w.heap.size+1+1+1+1+1+1]?=some (.cells #[.string ⟨#[105]⟩] 9 (0,0))∧W.heap[w.heap.size+1+1+1+1+1+1+1]?=some (.cells #[.string ⟨#[111]⟩] 9 (0,0))∧W.heap[w.heap.size+1+1+1+1+1+1+1+1]?=some (.cells #[.int .i64 1, .string ⟨#[]⟩, .int .i64 0, .int .i64 0, .int .i64 0, .int .i64 0, .int .i64 0, .string ⟨#[]⟩] 47 (0,0))∧W.heap[w.heap.size+1+1+1+1+1+1+1+1+1]?=some (.cells #[.int .i64 1, .slice none 0 0, .slice (some ⟨w.heap.size+1+1+1+1+1+1+1+1,0,none⟩) 1 1, .slice none 0 0, .slice none 0 0] 51 (0,0))∧W.heap[w.heap.size+1+1+1+1+1+1+1+1+1+1]?=some (.cells #[.string ⟨#[65]⟩, .slice (some ⟨w.heap.size+1+1+1+1+1+1,0,none⟩) 1 1, .slice (some ⟨w.heap.size+1+1+1+1+1+1+1,0,none⟩) 1 1, .slice none 0 0, .slice (some ⟨w.heap.size+1+1+1+1+1+1+1+1+1,0,none⟩) 1 1, .slice none 0 0, .slice none 0 0] 43 (0,0)):=chain11 w W _ _ _ _ _ _ _ _ _ _ _ hW
set_option maxHeartbeats 8000000 in
set_option maxRecDepth 100000 in
theorem k_small (w:World)(E:Env w):Calls Tryz.prog 4 #[] w (BoolW true w):=by
  obtain ⟨W,hW⟩:∃ W,(((((((((((w.alloc (.cells #[.string ⟨#[102]⟩, .int .i64 1] 38 (0,0))).alloc (.cells #[.string ⟨#[105]⟩] 9 (0,0))).alloc (.cells #[.string ⟨#[111]⟩] 9 (0,0))).alloc (.cells #[.string ⟨#[65]⟩, .slice (some ⟨w.heap.size+1,0,none⟩) 1 1, .slice (some ⟨w.heap.size+1+1,0,none⟩) 1 1, .slice none 0 0, .slice none 0 0, .slice none 0 0, .slice none 0 0] 43 (0,0))).alloc (.cells #[.string ⟨#[]⟩, .slice (some ⟨w.heap.size,0,none⟩) 1 1, .string ⟨#[]⟩, .bool false, .slice (some ⟨w.heap.size+1+1+1,0,none⟩) 1 1, .slice none 0 0, .slice none 0 0] 27 (0,0))).alloc (.cells #[.string ⟨#[]⟩, .slice (some ⟨w.heap.size,0,none⟩) 1 1, .string ⟨#[]⟩, .bool false, .slice (some ⟨w.heap.size+1+1+1+1+1+1+1+1+1+1,0,none⟩) 1 1, .slice none 0 0, .slice none 0 0] 27 (0,0))).alloc (.cells #[.string ⟨#[105]⟩] 9 (0,0))).alloc (.cells #[.string ⟨#[111]⟩] 9 (0,0))).alloc (.cells #[.int .i64 1, .string ⟨#[]⟩, .int .i64 0, .int .i64 0, .int .i64 0, .int .i64 0, .int .i64 0, .string ⟨#[]⟩] 47 (0,0))).alloc (.cells #[.int .i64 1, .slice none 0 0, .slice (some ⟨w.heap.size+1+1+1+1+1+1+1+1,0,none⟩) 1 1, .slice none 0 0, .slice none 0 0] 51 (0,0))).alloc (.cells #[.string ⟨#[65]⟩, .slice (some ⟨w.heap.size+1+1+1+1+1+1,0,none⟩) 1 1, .slice (some ⟨w.heap.size+1+1+1+1+1+1+1,0,none⟩) 1 1, .slice none 0 0, .slice (some ⟨w.heap.size+1+1+1+1+1+1+1+1+1,0,none⟩) 1 1, .slice none 0 0, .slice none 0 0] 43 (0,0)))=W:=⟨_,rfl⟩
  obtain ⟨hz,hb,h0,h1,h2,h3,h4,h5,h6,h7,h8,h9,h10⟩:=sm_world w W hW
  have hA:ConfC W W.heap.size smA (.slice (some ⟨w.heap.size,0,none⟩) 1 1) (.slice (some ⟨w.heap.size+1+1+1,0,none⟩) 1 1) (.slice none 0 0) (.slice none 0 0):=
    ⟨slOf_one h0 rfl (by omega) ⟨rfl,Nat.le_of_ble_eq_true rfl⟩,slOf_one h3 rfl (by omega) ⟨_,_,_,_,_,_,rfl,Nat.le_of_ble_eq_true rfl,slOf_one h1 rfl (by omega) ⟨rfl,Nat.le_of_ble_eq_true rfl⟩,slOf_one h2 rfl (by omega) ⟨rfl,Nat.le_of_ble_eq_true rfl⟩,slOf_nil,slOf_nil,slOf_nil,slOf_nil⟩,slOf_nil,slOf_nil,Nat.le_of_ble_eq_true rfl,Nat.le_of_ble_eq_true rfl⟩
  have hB:ConfC W W.heap.size smB (.slice (some ⟨w.heap.size,0,none⟩) 1 1) (.slice (some ⟨w.heap.size+1+1+1+1+1+1+1+1+1+1,0,none⟩) 1 1) (.slice none 0 0) (.slice none 0 0):=
    ⟨slOf_one h0 rfl (by omega) ⟨rfl,Nat.le_of_ble_eq_true rfl⟩,slOf_one h10 rfl (by omega) ⟨_,_,_,_,_,_,rfl,Nat.le_of_ble_eq_true rfl,slOf_one h6 rfl (by omega) ⟨rfl,Nat.le_of_ble_eq_true rfl⟩,slOf_one h7 rfl (by omega) ⟨rfl,Nat.le_of_ble_eq_true rfl⟩,slOf_nil,slOf_one h9 rfl (by omega) ⟨_,_,_,_,rfl,slOf_nil,slOf_one h8 rfl (by omega) ⟨rfl,Nat.le_of_ble_eq_true rfl,Nat.le_of_ble_eq_true rfl⟩,slOf_nil,slOf_nil⟩,slOf_nil,slOf_nil⟩,slOf_nil,slOf_nil,Nat.le_of_ble_eq_true rfl,Nat.le_of_ble_eq_true rfl⟩
  have wfA:WfC smA:=fun b hb=>by
    rw [show smA.boxes=[⟨⟨#[65]⟩,[⟨#[105]⟩],[⟨#[111]⟩],[],[],[],[]⟩] from rfl,List.mem_singleton] at hb
    subst hb
    exact fun r hr=>(List.not_mem_nil hr).elim
  have wfB:WfC smB:=fun b hb=>by
    rw [show smB.boxes=[⟨⟨#[65]⟩,[⟨#[105]⟩],[⟨#[111]⟩],[],[smR],[],[]⟩] from rfl,List.mem_singleton] at hb
    subst hb
    intro r hr
    rw [List.mem_singleton] at hr
    subst hr
    exact ⟨by decide,by decide⟩
  have c:Hid (Calls Tryz.prog 5 #[.agg #[.string ⟨#[]⟩, .slice (some ⟨w.heap.size,0,none⟩) 1 1, .string ⟨#[]⟩, .bool false, .slice (some ⟨w.heap.size+1+1+1,0,none⟩) 1 1, .slice none 0 0, .slice none 0 0], .agg #[.string ⟨#[]⟩, .slice (some ⟨w.heap.size,0,none⟩) 1 1, .string ⟨#[]⟩, .bool false, .slice (some ⟨w.heap.size+1+1+1+1+1+1+1+1+1+1,0,none⟩) 1 1, .slice none 0 0, .slice none 0 0]] W (ChPost smA smB W)):=Lib.hid (d_Changes smA smB _ _ _ _ _ _ _ _ W hA hB (E.below hb) wfA wfB)
  have hb:=Lib.hid hb
  obtain ⟨x0,x1,x2,x3,x4,x5,x6⟩:=cells7 h4
  obtain ⟨y0,y1,y2,y3,y4,y5,y6⟩:=cells7 h5
  clear h0 h1 h2 h3 h4 h5 h6 h7 h8 h9 h10 hA hB wfA wfB hz
  go_enter Tryz.func4,Tryz.ntmps4
  go_upto_region 4 with fail
  clear hW
  go_wp2_with (go_at_call 5;refine (c.out).mono ?_;rintro e w4 ⟨⟨v,k,rfl,hk,hr⟩,hb4⟩;obtain rfl:=hk.2 sm_ok;obtain ⟨A,cp,rfl,_⟩:=row_form hr;rw [sm_len];have hB4:=Lib.hid hb4;clear hk hr hb4)
  go_ret
  exact ⟨rfl,hb.out.trans (hB4.out.mono hb.out.size)⟩
end Go.Proofs.YtdhehcobnbcmdaaGreatDoor
