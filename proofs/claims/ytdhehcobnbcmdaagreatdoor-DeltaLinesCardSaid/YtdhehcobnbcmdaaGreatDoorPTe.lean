/- A part of the proof of DeltaLines: Bld Tern Ter2 Ter3 Rep. -/
import Derived.Test.YtdhehcobnbcmdaaGreatDoorPF1
import Derived.Shelf.Strings.BuilderK
import Derived.Test.YtdhehcobnbcmdaaGreatDoorPA
import Derived.Test.YtdhehcobnbcmdaaGreatDoorPN2
import Derived.Test.YtdhehcobnbcmdaaGreatDoorPN
import Derived.Deep.LoopGhost
set_option linter.all false
namespace Go.Proofs.YtdhehcobnbcmdaaGreatDoor
open Go.RowKit
structure BTy (T:TypeId):Prop where
  lies:liesAt Tryz.prog Tryz.prog.depth T (2 / Tryz.prog.cellsOf T) 0 134 1=true
  ne:T≠5
theorem btyB:BTy 134:=⟨by kernel_rfl,by decide⟩
theorem btyP:BTy 136:=⟨by kernel_rfl,by decide⟩
abbrev BAt (T:TypeId)(B b:Nat)(l:Bytes)(w:World):Prop:=Lib.IsBuilderF T 5 B b (Lib.byteCells l) w
abbrev KeepB (b:Nat)(w w':World):Prop:=Lib.OthersKept 5 (some b) w w'
set_option maxHeartbeats 1000000 in
set_option maxRecDepth 100000 in
theorem bl_fresh {T:TypeId}(X:BTy T)(b:Nat)(w:World)(h0:w.cell? ⟨b,0,none⟩=some (.pointer none))(hsh:w.shape? b=some (T,2))(hfz:w.frozen? ⟨b,0,none⟩=false) :
    Calls Tryz.prog 133 #[.pointer (some ⟨b,0,none⟩)] w fun e w'=>e=.returned (.tuple #[])∧w'=w.setCell ⟨b,0,none⟩ (.pointer (some ⟨b,0,none⟩)):=by
  obtain ⟨j,hj,hjs⟩:=Option.map_eq_some_iff.1 (show (Tryz.prog.info? 134).map (·.size)=some 2 by kernel_rfl)
  have hl:=Lib.hid X.lies
  replace hjs:=Lib.hid hjs
  replace hj:=Lib.hid hj
  replace hsh:=Lib.hid hsh
  go_enter Tryz.func133,Tryz.ntmps133
  go_wp2
  rw [Lib.run_to_unsafe w ⟨b,0,none⟩ Tryz.underlying131 Tryz.underlying238 hj.out (by rw [hjs.out];decide) hsh.out (Nat.zero_lt_succ 1)]
  simp only [Result.andThen]
  rw [Oper.upon_value]
  go_wp2
  rw [run_callFunc_extern Tryz.func165 (by kernel_rfl) (by kernel_rfl) (by kernel_rfl) (e:=Extern.AbiNoEscape.same) (by kernel_rfl)]
  rw [Lib.run_noEscape]
  simp only [Result.andThen]
  rw [Oper.upon_value]
  go_wp2
  rw [Lib.run_from_unsafe w ⟨b,0,none⟩ Tryz.underlying238 Tryz.underlying131 hj.out hsh.out hl.out]
  simp only [Result.andThen]
  rw [Oper.upon_value]
  go_wp2
  go_end0
  exact ⟨rfl,rfl⟩
set_option maxHeartbeats 1000000 in
set_option maxRecDepth 100000 in
theorem bl_used (b:Nat)(w:World)(h0:w.cell? ⟨b,0,none⟩=some (.pointer (some ⟨b,0,none⟩))) :
    Calls Tryz.prog 133 #[.pointer (some ⟨b,0,none⟩)] w fun e w'=>e=.returned (.tuple #[])∧w'=w:=by
  obtain ⟨j,hj,_⟩:=Option.map_eq_some_iff.1 (show (Tryz.prog.info? 134).map (·.size)=some 2 by kernel_rfl)
  replace hj:=Lib.hid hj
  go_enter Tryz.func133,Tryz.ntmps133
  go_wp2
  rw [Lib.run_neq_ptr_same w _ Tryz.underlying131 hj.out]
  go_wp2
  go_end0
  exact ⟨rfl,rfl⟩
theorem bl_check {T:TypeId}(X:BTy T)(B b:Nat)(bs:List Value)(w:World)(h:Lib.IsBuilderF T 5 B b bs w) :
    Calls Tryz.prog 133 #[.pointer (some ⟨b,0,none⟩)] w fun e w'=>e=.returned (.tuple #[])∧(Lib.BuilderAtF T 5 B b (.pointer (some ⟨b,0,none⟩)) bs w'∧Below B w w'∧KeepB b w w'):=by
  rcases h with h|h
  · refine (bl_fresh X b w h.cell0 h.shape h.frozen0).mono ?_
    rintro e w' ⟨rfl,rfl⟩
    exact ⟨rfl,h.used _,(Below.refl B w).setCell (p:=⟨b,0,none⟩) h.1 _,(Lib.OthersKept.refl _ _ w).setCell ⟨b,0,none⟩ rfl _⟩
  · refine (bl_used b w h.cell0).mono ?_
    rintro e w' ⟨rfl,rfl⟩
    exact ⟨rfl,h,Below.refl B _,Lib.OthersKept.refl _ _ _⟩
theorem byte_info:(Tryz.prog.info? 5).map (fun i=>(i.zero,i.size,i.bytes))=some (some (.int .u8 0),1,1):=by kernel_rfl
set_option maxHeartbeats 2000000 in
set_option maxRecDepth 100000 in
theorem bl_str {T:TypeId}(X:BTy T)(B b:Nat)(l:Bytes)(s:ByteArray)(w:World)(h:BAt T B b l w)(hlen:l.length+s.size≤140737488355328)(hBw:B≤w.heap.size) :
    Calls Tryz.prog 101 #[.pointer (some ⟨b,0,none⟩), .string s] w fun e w'=>(∃ v,e=.returned v)∧BAt T B b (l++s.data.toList) w'∧Below B w w'∧KeepB b w w':=by
  obtain ⟨i0,hi,hz0,hz1,hz2⟩:=info_parts byte_info
  have cc:=Lib.hid (bl_check X B b _ w h)
  have hi:=Lib.hid hi;have hz0:=Lib.hid hz0;have hz1:=Lib.hid hz1;have hz2:=Lib.hid hz2
  have hX:=Lib.hid X.ne
  go_enter Tryz.func101,Tryz.ntmps101
  go_wp2_with (go_at_call 133;refine cc.out.mono ?_)
  rintro e w1 ⟨rfl,⟨hB,v,hbk,hown,hne⟩,hb1,hk1⟩
  have c1:w1.cell? ⟨b,1,none⟩=some v:=by rw [Lib.cell_of_heap hbk];rfl
  rw [Lib.byteCells_length] at hown
  have hsz:=hb1.size
  go_wp2_with (at_builtin;refine Lib.wpList_append_own_stringF _ rfl _ _ 132 9 rfl B 5 i0 Tryz.underlying132 Tryz.underlying9 hi.out hz0.out hz1.out hz2.out _ _ _ rfl hown s rfl (by unfold maxLen;omega) hlen (by omega) ?_)
  intro v' w2 hown' hgrow _
  have hlt:b<w1.heap.size:=(Array.getElem?_eq_some_iff.1 hbk).1
  have hb2:w2.heap[b]?=some (.cells #[.pointer (some ⟨b,0,none⟩),v] T (0,0)):=(hgrow.block b hlt fun e=>hne e.symm).trans hbk
  have d1:w2.cell? ⟨b,1,none⟩=some v:=by rw [Lib.cell_of_heap hb2];rfl
  have f1:w2.frozen? ⟨b,1,none⟩=false:=Lib.frozen_of_heap hb2 1
  obtain ⟨ao,n',cap,rfl⟩:∃ ao n' cap,v'=.slice ao n' cap:=by
    rcases hown'.2 with ⟨hv,_⟩|⟨g,cap,cur,fz,hv,_⟩
    · exact ⟨_,_,_,hv⟩
    · exact ⟨_,_,_,hv⟩
  have H1:=Lib.hid (Lib.BuilderAtF.put (T:=T) (e:=5) hB hb2 (bs':=Lib.byteCells (l++s.data.toList)) (by rw [Lib.byteCells_length,List.length_append];simpa [Lib.byteCells,Lib.strCells] using hown') hX.out)
  have H2:=Lib.hid ((hb1.grown hgrow (by omega) (fun k hk=>(hown.lt k hk).1)).setCell (p:=⟨b,1,none⟩) hB (.slice ao n' cap))
  have H3:=Lib.hid ((hk1.grown hgrow (Lib.ownsRowF_kind hown)).setCell ⟨b,1,none⟩ rfl (.slice ao n' cap))
  clear hown' hgrow hown hne hbk hk1 hb1 h
  go_wp2_with fail
  go_ret2
  exact ⟨⟨_,rfl⟩, .inr H1.out,H2.out,H3.out⟩
set_option maxHeartbeats 2000000 in
set_option maxRecDepth 100000 in
theorem bl_byte {T:TypeId}(X:BTy T)(B b:Nat)(l:Bytes)(c:UInt8)(w:World)(h:BAt T B b l w)(hlen:l.length+1≤140737488355328)(hBw:B≤w.heap.size) :
    Calls Tryz.prog 114 #[.pointer (some ⟨b,0,none⟩), .int .u8 c.toNat] w fun e w'=>(∃ v,e=.returned v)∧BAt T B b (l++[c]) w'∧Below B w w'∧KeepB b w w':=by
  obtain ⟨i0,hi,hz0,hz1,hz2⟩:=info_parts byte_info
  have cc:=Lib.hid (bl_check X B b _ w h)
  have hi:=Lib.hid hi;have hz0:=Lib.hid hz0;have hz1:=Lib.hid hz1;have hz2:=Lib.hid hz2
  have hX:=Lib.hid X.ne
  go_enter Tryz.func114,Tryz.ntmps114
  go_wp2_with (go_at_call 133;refine cc.out.mono ?_)
  rintro e w1 ⟨rfl,⟨hB,v,hbk,hown,hne⟩,hb1,hk1⟩
  have c1:w1.cell? ⟨b,1,none⟩=some v:=by rw [Lib.cell_of_heap hbk];rfl
  rw [Lib.byteCells_length] at hown
  have hsz:=hb1.size
  go_wp2_with (at_builtin;(refine wpList_append_ownF _ rfl _ _ 132 rfl B 5 i0 (.int .u8 0) 1 1 Tryz.underlying132 hi.out hz0.out hz1.out hz2.out rfl (by decide) _ _ _ rfl (hown.alloc _) ⟨w1.heap.size,0,none⟩ 1 1 [.int .u8 c.toNat] rfl rfl (World.news_of_block (heap_alloc_new w1 _)) (by intro u hu;simp only [List.mem_cons,List.not_mem_nil,or_false] at hu;subst hu;rfl) (by unfold maxLen;omega) (by omega) (by simp;omega) ?_))
  intro v' w2 hown' hgrow _
  have hlt:b<w1.heap.size:=(Array.getElem?_eq_some_iff.1 hbk).1
  have hb2:w2.heap[b]?=some (.cells #[.pointer (some ⟨b,0,none⟩),v] T (0,0)):=by
    rw [hgrow.block b (by simp;omega) fun e=>hne e.symm,Lib.alloc_old w1 _ b hlt]
    exact hbk
  have d1:w2.cell? ⟨b,1,none⟩=some v:=by rw [Lib.cell_of_heap hb2];rfl
  have f1:w2.frozen? ⟨b,1,none⟩=false:=Lib.frozen_of_heap hb2 1
  obtain ⟨ao,n',cap,rfl⟩:∃ ao n' cap,v'=.slice ao n' cap:=by
    rcases hown'.2 with ⟨hv,_⟩|⟨g,cap,cur,fz,hv,_⟩
    · exact ⟨_,_,_,hv⟩
    · exact ⟨_,_,_,hv⟩
  have H1:=Lib.hid (Lib.BuilderAtF.put (T:=T) (e:=5) hB hb2 (bs':=Lib.byteCells (l++[c])) (by rw [Lib.byteCells_length,List.length_append];simpa [Lib.byteCells] using hown') hX.out)
  have H2:=Lib.hid (((hb1.alloc (by omega) _).grown hgrow (by simp;omega) (fun k hk=>(hown.lt k hk).1)).setCell (p:=⟨b,1,none⟩) hB (.slice ao n' cap))
  have H3:=Lib.hid (((hk1.alloc _).grown hgrow (Lib.ownsRowF_kind (hown.alloc _))).setCell ⟨b,1,none⟩ rfl (.slice ao n' cap))
  clear hown' hgrow hown hne hbk hk1 hb1 h
  go_wp2_with fail
  go_ret
  exact ⟨⟨_,rfl⟩, .inr H1.out,H2.out,H3.out⟩
set_option maxHeartbeats 1000000 in
theorem bl_len {T:TypeId}(B b:Nat)(l:Bytes)(w:World)(h:BAt T B b l w) :
    Calls Tryz.prog 85 #[.pointer (some ⟨b,0,none⟩)] w fun e w'=>e=.returned (.int .i64 l.length)∧w=w':=by
  obtain ⟨p,hB,v,hbk,hown,hne⟩:∃ p,Lib.BuilderAtF T 5 B b p (Lib.byteCells l) w:=by
    rcases h with h|h
    · exact ⟨_,h⟩
    · exact ⟨_,h⟩
  rw [Lib.byteCells_length] at hown
  obtain ⟨ao,cap,rfl⟩:∃ ao cap,v=.slice ao l.length cap:=by
    rcases hown.2 with ⟨hv,h0⟩|⟨g,cap,cur,fz,hv,_⟩
    · exact ⟨none,0,by rw [hv,h0]⟩
    · exact ⟨_,_,hv⟩
  have c1:w.cell? ⟨b,1,none⟩=some (.slice ao l.length cap):=by rw [Lib.cell_of_heap hbk];rfl
  clear hbk hown hne
  go_enter Tryz.func85,Tryz.ntmps85
  go_wp2_with fail
  go_ret
  exact ⟨rfl,rfl⟩
set_option maxHeartbeats 1000000 in
set_option maxRecDepth 100000 in
theorem bl_string {T:TypeId}(B b:Nat)(l:Bytes)(w:World)(h:BAt T B b l w)(h0:l≠[]) :
    Calls Tryz.prog 86 #[.pointer (some ⟨b,0,none⟩)] w fun e w'=>e=.returned (.string ⟨l.toArray⟩)∧BAt T B b l w'∧Below B w w'∧KeepB b w w':=by
  obtain ⟨p,hp,hAt⟩:∃ p,(p=.pointer none∨p=.pointer (some ⟨b,0,none⟩))∧Lib.BuilderAtF T 5 B b p (Lib.byteCells l) w:=by
    rcases h with h|h
    · exact ⟨_, .inl rfl,h⟩
    · exact ⟨_, .inr rfl,h⟩
  obtain ⟨hB,v,hbk,hown,hne⟩:=hAt
  have hl0:l.length≠0:=by simpa using h0
  rw [Lib.byteCells_length] at hown
  obtain ⟨g,cap,cur,fz,rfl,hbg,hg,hfz,hnc,hcm,hcs,htake⟩:∃ g cap cur fz,v=.slice (some ⟨g,0,none⟩) l.length cap∧B≤g∧w.heap[g]?=some (.cells cur 5 fz)∧fz.2≤l.length*1∧l.length≤cap∧cap≤maxLen∧cur.size=cap*1∧cur.toList.take (l.length*1)=Lib.byteCells l:=by
    rcases hown.2 with ⟨_,hz⟩|⟨g,cap,cur,fz,hv,r⟩
    · exact absurd hz hl0
    · exact ⟨g,cap,cur,fz,hv,r⟩
  have c1:w.drew.cell? ⟨b,1,none⟩=some (.slice (some ⟨g,0,none⟩) l.length cap):=by
    have:w.drew.heap[b]?=some (.cells #[p, .slice (some ⟨g,0,none⟩) l.length cap] T (0,0)):=hbk
    rw [Lib.cell_of_heap this];rfl
  have hSD:(Builtin.unsafeSliceData_ #[132] 174 #[.slice (some ⟨g,0,none⟩) l.length cap]).run Tryz.prog w.drew=.ok (.pointer (some ⟨g,0,none⟩)) w.drew:=
    Lib.run_unsafeSliceData_row _ _ _ _ _ _ (by omega)
  have hUS:(Builtin.unsafeString_ #[174,3] 9 #[.pointer (some ⟨g,0,none⟩), .int .i64 l.length]).run Tryz.prog w.drew=.ok (.string ⟨l.toArray⟩) (w.drew.freeze ⟨g,0,none⟩ l.length):=by
    refine Lib.run_unsafeString_row w.drew 174 3 9 5 Tryz.underlying174 (by kernel_rfl) g cur.size (by have hg':w.drew.heap[g]?=some (.cells cur 5 fz):=hg;simp [World.shape?,hg']) l h0 (by omega) (by unfold maxLen at hcm;omega) ?_
    intro j x hx
    have:=hown.cells (g:=g) rfl j (.int .u8 x.toNat) (by simp [Lib.byteCells,hx])
    exact this
  have hkeep:Hid (BAt T B b l (w.drew.freeze ⟨g,0,none⟩ l.length)):=Lib.hid (by
    have hA:Lib.BuilderAtF T 5 B b p (Lib.byteCells l) w.drew:=⟨hB,_,hbk,by rw [Lib.byteCells_length];exact hown,hne⟩
    have hF:=hA.froze (g:=g) (cap:=cap) (by rw [Lib.byteCells_length];exact c1)
    rw [Lib.byteCells_length] at hF
    rcases hp with rfl|rfl
    · exact .inl hF
    · exact .inr hF)
  have H2:=Lib.hid (Lib.below_freeze (Below.drew (Below.refl B w)) (p:=⟨g,0,none⟩) hbg l.length)
  have H3:=Lib.hid (((Lib.OthersKept.refl _ (some b) w).drew).freeze ⟨g,0,none⟩ l.length ⟨cur,fz,hg⟩)
  clear hp hbk hown hne hg hfz hnc hcm hcs htake hbg
  go_enter Tryz.func86,Tryz.ntmps86
  go_wp2
  go_region
  all_goals (go_wp2;go_ret;exact ⟨rfl,hkeep.out,H2.out,H3.out⟩)
set_option maxHeartbeats 2000000 in
set_option maxRecDepth 100000 in
theorem rowput_any (b off:Nat)(i:Nat)(x:Int)(w:World)(hi:i<256)(hx:w.cell? ⟨b,off+i / 64,none⟩=some (.int .u64 x))(hf:w.frozen? ⟨b,off+i / 64,none⟩=false) :
    Calls Tryz.prog 231 #[.pointer (some ⟨b,off,none⟩), .int .i64 i] w fun e w'=>e=.returned (.tuple #[])∧∃ y:Int,w'=(w.setCell ⟨b,off+i / 64,none⟩ (.int .u64 y)).drew:=by
  have h1:(i:Int) / 64<4:=by omega
  have h2:(0:Int)≤(i:Int) / 64:=by omega
  have h3:((i:Int) / 64).toNat=i / 64:=by omega
  have h4:(0:Int)≤(i:Int) % 64:=by omega
  have h5:(i:Int) % 64<64:=by omega
  go_enter Tryz.func231,Tryz.ntmps231
  go_wp2_with fail
  go_region
  go_wp2_with fail
  go_end0
  exact ⟨rfl,_,rfl⟩
def cubeCells (k:Int)(f:Nat→Int):Array Value:=#[.int .i64 k, .int .u64 (f 0), .int .u64 (f 1), .int .u64 (f 2), .int .u64 (f 3), .int .u64 (f 4), .int .u64 (f 5), .int .u64 (f 6), .int .u64 (f 7)]
def CubeAt (w:World)(M:Nat)(k:Int)(f:Nat→Int):Prop:=w.heap[M]?=some (.cells (cubeCells k f) 291 (0,0))
theorem CubeAt.cell {w:World}{M:Nat}{k:Int}{f:Nat→Int}(h:CubeAt w M k f)(j:Nat)(hj:j<8):w.cell? ⟨M,1+j,none⟩=some (.int .u64 (f j)):=by
  have:=cell_of_row w M (1+j) _ _ (0,0) h
  rw [this]
  match j,hj with
  | 0,_=>rfl
  | 1,_=>rfl
  | 2,_=>rfl
  | 3,_=>rfl
  | 4,_=>rfl
  | 5,_=>rfl
  | 6,_=>rfl
  | 7,_=>rfl
  | j+8,h=>omega
theorem CubeAt.free {w:World}{M:Nat}{k:Int}{f:Nat→Int}(h:CubeAt w M k f)(i:Nat):w.frozen? ⟨M,i,none⟩=false:=by
  unfold CubeAt at h;unfold World.frozen?;simp [h]
theorem CubeAt.set {w:World}{M:Nat}{k:Int}{f:Nat→Int}(h:CubeAt w M k f)(j:Nat)(hj:j<8)(y:Int):CubeAt (w.setCell ⟨M,1+j,none⟩ (.int .u64 y)).drew M k (fun i=>if i=j then y else f i):=by
  have hs:(w.setCell ⟨M,1+j,none⟩ (.int .u64 y)).heap[M]?=some (.cells ((cubeCells k f).setIfInBounds (1+j) (.int .u64 y)) 291 (0,0)):=by
    unfold CubeAt at h
    unfold World.setCell
    simp only [Array.getElem?_modify,h]
    simp
  show (w.setCell ⟨M,1+j,none⟩ (.int .u64 y)).heap[M]?=_
  rw [hs]
  match j,hj with
  | 0,_=>rfl
  | 1,_=>rfl
  | 2,_=>rfl
  | 3,_=>rfl
  | 4,_=>rfl
  | 5,_=>rfl
  | 6,_=>rfl
  | 7,_=>rfl
  | j+8,h=>omega
theorem cubePut_any (M r i:Nat)(k:Int)(f:Nat→Int)(w:World)(hi:i<256)(hr:r≤4)(h:CubeAt w M k f) :
    Calls Tryz.prog 231 #[.pointer (some ⟨M,1+r,none⟩), .int .i64 i] w fun e w'=>e=.returned (.tuple #[])∧(∃ f',CubeAt w' M k f')∧Below M w w':=by
  have hc:=h.cell (r+i / 64) (by omega)
  have hf:=h.free (1+r+i / 64)
  rw [← Nat.add_assoc] at hc
  refine (rowput_any M (1+r) i _ w hi hc hf).mono ?_
  rintro e w' ⟨rfl,y,rfl⟩
  have hset:=h.set (r+i / 64) (by omega) y
  rw [← Nat.add_assoc] at hset
  exact ⟨rfl,⟨_,hset⟩,below_drewN ((Below.refl M w).setCell (Nat.le_refl _) _) 1⟩
def parseE (s:ByteArray):Int:=if isCube (bs s) then 0 else if 256<s.size then 2 else 10
def ParsePost (s:ByteArray)(w:World)(e:Ending)(w':World):Prop:=
  ∃ (k:Int) (f:Nat→Int),e=.returned (.tuple #[.agg (cubeCells k f), .int .i64 (parseE s)])∧Below w.heap.size w w'
set_option maxHeartbeats 2000000 in
set_option maxRecDepth 100000 in
theorem Parse_any (s : ByteArray) (w : World) (hs : s.size ≤ 9223372036854775807) :
    Calls Tryz.prog 217 #[.string s] w (ParsePost s w):=by
  have hb0:=Lib.hid ((Below.refl w.heap.size w).alloc (Nat.le_refl _) (.cells #[.int .i64 0, .int .u64 0, .int .u64 0, .int .u64 0, .int .u64 0, .int .u64 0, .int .u64 0, .int .u64 0, .int .u64 0] 291 (0,0)))
  by_cases h1:256<s.size
  · have H:=Lib.hid (show parseE s=2 by unfold parseE;rw [isCube_out s (.inr h1),if_pos h1];rfl)
    have h1':(s.size:Int)>256:=by omega
    clear h1
    go_enter Tryz.func217,Tryz.ntmps217
    go_wp2_with fail
    refine bodyPost_ret (v:=.tuple #[.agg (cubeCells 0 fun _=>0), .int .i64 2]) (by simp [results,Tryz.results217,go_sem,cubeCells]) rfl ?_
    exact ⟨_,_,by rw [H.out],hb0.out⟩
  by_cases h0:s.size=0
  · have H:=Lib.hid (show parseE s=10 by unfold parseE;rw [isCube_out s (.inl (by omega)),if_neg h1];rfl)
    have he:s.toList.isEmpty=true:=by
      rw [ByteArray.toList_eq];have:s.data.toList.length=0:=h0
      rw [List.length_eq_zero_iff.1 this];rfl
    have h1':¬ (s.size:Int)>256:=by omega
    clear h1 h0
    go_enter Tryz.func217,Tryz.ntmps217
    go_wp2_with fail
    refine bodyPost_ret (v:=.tuple #[.agg (cubeCells 0 fun _=>0), .int .i64 10]) (by simp [results,Tryz.results217,go_sem,cubeCells]) rfl ?_
    exact ⟨_,_,by rw [H.out],hb0.out⟩
  have H:Hid (parseE s=if ((bs s).drop 0).all cubeU then 0 else 10):=Lib.hid (by unfold parseE;rw [isCube_in s (by omega) h1,if_neg h1];rfl)
  have he:=emp_false s h0
  have h1':¬ (s.size:Int)>256:=by omega
  have hl:s.size≤256:=by omega
  have hb1:=Lib.hid (Below.refl (w.heap.size+1) (w.alloc (.cells #[.int .i64 0, .int .u64 0, .int .u64 0, .int .u64 0, .int .u64 0, .int .u64 0, .int .u64 0, .int .u64 0, .int .u64 0] 291 (0,0))))
  obtain ⟨W0,hW0⟩:∃ W0,W0=w.alloc (.cells #[.int .i64 0, .int .u64 0, .int .u64 0, .int .u64 0, .int .u64 0, .int .u64 0, .int .u64 0, .int .u64 0, .int .u64 0] 291 (0,0)):=⟨_,rfl⟩
  rw [← hW0] at hb0 hb1
  have hz:Hid (W0.heap.size=w.heap.size+1):=Lib.hid (by rw [hW0];simp)
  have hC0:Hid (CubeAt (W0.alloc (.cells #[.int .i64 s.size, .int .u64 0, .int .u64 0, .int .u64 0, .int .u64 0, .int .u64 0, .int .u64 0, .int .u64 0, .int .u64 0] 291 (0,0))) (w.heap.size+1) s.size fun _=>0):=Lib.hid (by
    have:=heap_alloc_new W0 (.cells #[.int .i64 s.size, .int .u64 0, .int .u64 0, .int .u64 0, .int .u64 0, .int .u64 0, .int .u64 0, .int .u64 0, .int .u64 0] 291 (0,0))
    rw [hz.out] at this;exact this)
  have hb2:=Lib.hid (hb1.out.alloc (by have:=hz.out;omega) (.cells #[.int .i64 s.size, .int .u64 0, .int .u64 0, .int .u64 0, .int .u64 0, .int .u64 0, .int .u64 0, .int .u64 0, .int .u64 0] 291 (0,0)))
  have hR0:Hid (W0.heap[w.heap.size]?=some (.cells #[.int .i64 0, .int .u64 0, .int .u64 0, .int .u64 0, .int .u64 0, .int .u64 0, .int .u64 0, .int .u64 0, .int .u64 0] 291 (0,0))):=Lib.hid (by rw [hW0];exact heap_alloc_new w _)
  clear h1 h0 hb1
  rw [hW0] at hC0 hb2
  go_enter Tryz.func217,Tryz.ntmps217
  go_wp2_with fail
  go_loopw [5,18] (fun _ c wr=>∃ (i:Nat) (f:Nat→Int),i≤s.size∧c=.int .i64 i∧Hid (parseE s=if ((bs s).drop i).all cubeU then 0 else 10)∧Hid (CubeAt wr (w.heap.size+1) s.size f)∧Hid (Below (w.heap.size+1) W0 wr)) (fun _ c _=>s.size-(intOf c).toNat)
  case atStart=>exact ⟨0,_,Nat.zero_le _,rfl,H,hC0,by rw [hW0];exact hb2⟩
  case round=>
    obtain ⟨i,f,hi,rfl,HR,hC,hbw⟩:=hrel
    clear H hC0 hb2 hW0
    have hR:=(hbw.out.block w.heap.size (by omega)).trans hR0.out
    have hR:=Lib.hid hR
    by_cases hlt:i<s.size
    · have HS:Hid (parseE s=if (cubeU s[i] && ((bs s).drop (i+1)).all cubeU) then 0 else 10):=Lib.hid (by rw [HR.out,bs_drop s i hlt,List.all_cons])
      clear HR
      by_cases c1:s[i].toNat=49
      · have HU:Hid (parseE s=if ((bs s).drop (i+1)).all cubeU then 0 else 10):=Lib.hid (by rw [HS.out,show cubeU s[i]=true by simp [cubeU,c1],Bool.true_and])
        have k1:((s[i].toNat:Int) == 49)=true:=by simp [c1]
        have p1:=Lib.hid (cubePut_any (w.heap.size+1) 4 i s.size f wr (by omega) (by omega) hC.out)
        clear HS c1
        go_wp2_with fail
        refine p1.out.mono ?_
        rintro e w1 ⟨rfl,⟨f1,hC1⟩,hb1⟩
        have p2:=Lib.hid (cubePut_any (w.heap.size+1) 0 i s.size f1 w1 (by omega) (by omega) hC1)
        have hb1:=Lib.hid (hbw.out.trans hb1)
        clear p1 hC hR hbw hC1
        go_wp2_with fail
        refine p2.out.mono ?_
        rintro e w2 ⟨rfl,⟨f2,hC2⟩,hb2⟩
        have hb2:=Lib.hid (hb1.out.trans hb2)
        have hC2:=Lib.hid hC2
        clear p2 hb1
        go_wp2_with fail
        go_roundw
        case rel=>exact ⟨i+1,f2,by omega,by go_num,HU,hC2,hb2⟩
        case measure=>simp [intOf];omega
      by_cases c2:s[i].toNat=48
      · have HU:Hid (parseE s=if ((bs s).drop (i+1)).all cubeU then 0 else 10):=Lib.hid (by rw [HS.out,show cubeU s[i]=true by simp [cubeU,c2],Bool.true_and])
        have k1:((s[i].toNat:Int) == 49)=false:=by simp [c2]
        have k2:((s[i].toNat:Int) == 48)=true:=by simp [c2]
        have p1:=Lib.hid (cubePut_any (w.heap.size+1) 0 i s.size f wr (by omega) (by omega) hC.out)
        clear HS c1 c2
        go_wp2_with fail
        refine p1.out.mono ?_
        rintro e w1 ⟨rfl,⟨f1,hC1⟩,hb1⟩
        have hb1:=Lib.hid (hbw.out.trans hb1)
        have hC1:=Lib.hid hC1
        clear p1 hC hR hbw
        go_wp2_with fail
        go_roundw
        case rel=>exact ⟨i+1,f1,by omega,by go_num,HU,hC1,hb1⟩
        case measure=>simp [intOf];omega
      by_cases c3:s[i].toNat=120
      · have HU:Hid (parseE s=if ((bs s).drop (i+1)).all cubeU then 0 else 10):=Lib.hid (by rw [HS.out,show cubeU s[i]=true by simp [cubeU,c3],Bool.true_and])
        have k1:((s[i].toNat:Int) == 49)=false:=by simp [c3]
        have k2:((s[i].toNat:Int) == 48)=false:=by simp [c3]
        have k3:((s[i].toNat:Int) == 120)=true:=by simp [c3]
        clear HS c1 c2 c3
        go_wp2_with fail
        go_roundw
        case rel=>exact ⟨i+1,f,by omega,by go_num,HU,hC,hbw⟩
        case measure=>simp [intOf];omega
      · have HF:Hid (parseE s=10):=Lib.hid (by rw [HS.out,show cubeU s[i]=false by simp [cubeU];omega];rfl)
        have k1:((s[i].toNat:Int) == 49)=false:=by simp;omega
        have k2:((s[i].toNat:Int) == 48)=false:=by simp;omega
        have k3:((s[i].toNat:Int) == 120)=false:=by simp;omega
        have r0:wr.cell? ⟨w.heap.size,0,none⟩=some (.int .i64 0):=by simpa using cell_of_row wr w.heap.size 0 _ _ (0,0) hR.out
        have fz0:wr.frozen? ⟨w.heap.size,0,none⟩=false:=by simp [World.frozen?,hR.out]
        have r1:wr.cell? ⟨w.heap.size,1,none⟩=some (.int .u64 0):=by simpa using cell_of_row wr w.heap.size 1 _ _ (0,0) hR.out
        have fz1:wr.frozen? ⟨w.heap.size,1,none⟩=false:=by simp [World.frozen?,hR.out]
        have r2:wr.cell? ⟨w.heap.size,2,none⟩=some (.int .u64 0):=by simpa using cell_of_row wr w.heap.size 2 _ _ (0,0) hR.out
        have fz2:wr.frozen? ⟨w.heap.size,2,none⟩=false:=by simp [World.frozen?,hR.out]
        have r3:wr.cell? ⟨w.heap.size,3,none⟩=some (.int .u64 0):=by simpa using cell_of_row wr w.heap.size 3 _ _ (0,0) hR.out
        have fz3:wr.frozen? ⟨w.heap.size,3,none⟩=false:=by simp [World.frozen?,hR.out]
        have r4:wr.cell? ⟨w.heap.size,4,none⟩=some (.int .u64 0):=by simpa using cell_of_row wr w.heap.size 4 _ _ (0,0) hR.out
        have fz4:wr.frozen? ⟨w.heap.size,4,none⟩=false:=by simp [World.frozen?,hR.out]
        have r5:wr.cell? ⟨w.heap.size,5,none⟩=some (.int .u64 0):=by simpa using cell_of_row wr w.heap.size 5 _ _ (0,0) hR.out
        have fz5:wr.frozen? ⟨w.heap.size,5,none⟩=false:=by simp [World.frozen?,hR.out]
        have r6:wr.cell? ⟨w.heap.size,6,none⟩=some (.int .u64 0):=by simpa using cell_of_row wr w.heap.size 6 _ _ (0,0) hR.out
        have fz6:wr.frozen? ⟨w.heap.size,6,none⟩=false:=by simp [World.frozen?,hR.out]
        have r7:wr.cell? ⟨w.heap.size,7,none⟩=some (.int .u64 0):=by simpa using cell_of_row wr w.heap.size 7 _ _ (0,0) hR.out
        have fz7:wr.frozen? ⟨w.heap.size,7,none⟩=false:=by simp [World.frozen?,hR.out]
        have r8:wr.cell? ⟨w.heap.size,8,none⟩=some (.int .u64 0):=by simpa using cell_of_row wr w.heap.size 8 _ _ (0,0) hR.out
        have fz8:wr.frozen? ⟨w.heap.size,8,none⟩=false:=by simp [World.frozen?,hR.out]
        clear HS c1 c2 c3
        go_wp2_with fail
        have hO:=hb0.out.trans (hbw.out.mono (by omega))
        refine bodyPost_ret (v:=.tuple #[.agg (cubeCells 0 fun _=>0), .int .i64 10]) (by simp [results,Tryz.results217,go_sem,cubeCells,r0,r1,r2,r3,r4,r5,r6,r7,r8]) rfl ?_
        exact ⟨_,_,by rw [HF.out],(((((((((hO.setCell (Nat.le_refl _) _).setCell (Nat.le_refl _) _).setCell (Nat.le_refl _) _).setCell (Nat.le_refl _) _).setCell (Nat.le_refl _) _).setCell (Nat.le_refl _) _).setCell (Nat.le_refl _) _).setCell (Nat.le_refl _) _).setCell (Nat.le_refl _) _)⟩
    · have HF:Hid (parseE s=0):=Lib.hid (by rw [HR.out,bs_drop_end s i hlt];rfl)
      have r0:wr.cell? ⟨w.heap.size,0,none⟩=some (.int .i64 0):=by simpa using cell_of_row wr w.heap.size 0 _ _ (0,0) hR.out
      have fz0:wr.frozen? ⟨w.heap.size,0,none⟩=false:=by simp [World.frozen?,hR.out]
      have r1:wr.cell? ⟨w.heap.size,1,none⟩=some (.int .u64 0):=by simpa using cell_of_row wr w.heap.size 1 _ _ (0,0) hR.out
      have fz1:wr.frozen? ⟨w.heap.size,1,none⟩=false:=by simp [World.frozen?,hR.out]
      have r2:wr.cell? ⟨w.heap.size,2,none⟩=some (.int .u64 0):=by simpa using cell_of_row wr w.heap.size 2 _ _ (0,0) hR.out
      have fz2:wr.frozen? ⟨w.heap.size,2,none⟩=false:=by simp [World.frozen?,hR.out]
      have r3:wr.cell? ⟨w.heap.size,3,none⟩=some (.int .u64 0):=by simpa using cell_of_row wr w.heap.size 3 _ _ (0,0) hR.out
      have fz3:wr.frozen? ⟨w.heap.size,3,none⟩=false:=by simp [World.frozen?,hR.out]
      have r4:wr.cell? ⟨w.heap.size,4,none⟩=some (.int .u64 0):=by simpa using cell_of_row wr w.heap.size 4 _ _ (0,0) hR.out
      have fz4:wr.frozen? ⟨w.heap.size,4,none⟩=false:=by simp [World.frozen?,hR.out]
      have r5:wr.cell? ⟨w.heap.size,5,none⟩=some (.int .u64 0):=by simpa using cell_of_row wr w.heap.size 5 _ _ (0,0) hR.out
      have fz5:wr.frozen? ⟨w.heap.size,5,none⟩=false:=by simp [World.frozen?,hR.out]
      have r6:wr.cell? ⟨w.heap.size,6,none⟩=some (.int .u64 0):=by simpa using cell_of_row wr w.heap.size 6 _ _ (0,0) hR.out
      have fz6:wr.frozen? ⟨w.heap.size,6,none⟩=false:=by simp [World.frozen?,hR.out]
      have r7:wr.cell? ⟨w.heap.size,7,none⟩=some (.int .u64 0):=by simpa using cell_of_row wr w.heap.size 7 _ _ (0,0) hR.out
      have fz7:wr.frozen? ⟨w.heap.size,7,none⟩=false:=by simp [World.frozen?,hR.out]
      have r8:wr.cell? ⟨w.heap.size,8,none⟩=some (.int .u64 0):=by simpa using cell_of_row wr w.heap.size 8 _ _ (0,0) hR.out
      have fz8:wr.frozen? ⟨w.heap.size,8,none⟩=false:=by simp [World.frozen?,hR.out]
      have v0:wr.cell? ⟨w.heap.size+1,0,none⟩=some (.int .i64 s.size):=by simpa [cubeCells] using cell_of_row wr (w.heap.size+1) 0 _ _ (0,0) hC.out
      have v1:wr.cell? ⟨w.heap.size+1,1,none⟩=some (.int .u64 (f 0)):=hC.out.cell 0 (by omega)
      have v2:wr.cell? ⟨w.heap.size+1,2,none⟩=some (.int .u64 (f 1)):=hC.out.cell 1 (by omega)
      have v3:wr.cell? ⟨w.heap.size+1,3,none⟩=some (.int .u64 (f 2)):=hC.out.cell 2 (by omega)
      have v4:wr.cell? ⟨w.heap.size+1,4,none⟩=some (.int .u64 (f 3)):=hC.out.cell 3 (by omega)
      have v5:wr.cell? ⟨w.heap.size+1,5,none⟩=some (.int .u64 (f 4)):=hC.out.cell 4 (by omega)
      have v6:wr.cell? ⟨w.heap.size+1,6,none⟩=some (.int .u64 (f 5)):=hC.out.cell 5 (by omega)
      have v7:wr.cell? ⟨w.heap.size+1,7,none⟩=some (.int .u64 (f 6)):=hC.out.cell 6 (by omega)
      have v8:wr.cell? ⟨w.heap.size+1,8,none⟩=some (.int .u64 (f 7)):=hC.out.cell 7 (by omega)
      clear HR
      go_wp2_with fail
      have hO:=hb0.out.trans (hbw.out.mono (by omega))
      refine bodyPost_ret (v:=.tuple #[.agg (cubeCells s.size f), .int .i64 0]) (by simp [results,Tryz.results217,go_sem,cubeCells,r0,r1,r2,r3,r4,r5,r6,r7,r8]) rfl ?_
      exact ⟨_,_,by rw [HF.out],(((((((((hO.setCell (Nat.le_refl _) _).setCell (Nat.le_refl _) _).setCell (Nat.le_refl _) _).setCell (Nat.le_refl _) _).setCell (Nat.le_refl _) _).setCell (Nat.le_refl _) _).setCell (Nat.le_refl _) _).setCell (Nat.le_refl _) _).setCell (Nat.le_refl _) _)⟩
set_option maxHeartbeats 2000000 in
set_option maxRecDepth 100000 in
theorem rowat_any (b off:Nat)(i:Nat)(x:Int)(w:World)(hi:i<256)(hx:w.cell? ⟨b,off+i / 64,none⟩=some (.int .u64 x)) :
    Calls Tryz.prog 233 #[.pointer (some ⟨b,off,none⟩), .int .i64 i] w fun e w'=>(∃ y:Bool,e=.returned (.bool y))∧w=w':=by
  have h1:(i:Int) / 64<4:=by omega
  have h2:(0:Int)≤(i:Int) / 64:=by omega
  have h3:((i:Int) / 64).toNat=i / 64:=by omega
  have h4:(0:Int)≤(i:Int) % 64:=by omega
  have h5:(i:Int) % 64<64:=by omega
  go_enter Tryz.func233,Tryz.ntmps233
  go_wp2_with fail
  go_ret
  exact ⟨⟨_,rfl⟩,rfl⟩
theorem cubeAt_any (M r i:Nat)(k:Int)(f:Nat→Int)(w:World)(hi:i<256)(hr:r≤4)(h:CubeAt w M k f) :
    Calls Tryz.prog 233 #[.pointer (some ⟨M,1+r,none⟩), .int .i64 i] w fun e w'=>(∃ y:Bool,e=.returned (.bool y))∧w=w':=by
  have hc:=h.cell (r+i / 64) (by omega)
  rw [← Nat.add_assoc] at hc
  exact rowat_any M (1+r) i _ w hi hc
theorem fits_any (k k':Int)(f f':Nat→Int)(w:World):Calls Tryz.prog 240 #[.agg (cubeCells k f), .agg (cubeCells k' f')] w fun e w'=>(∃ y:Bool,e=.returned (.bool y))∧Below w.heap.size w w':=by
  have hb:=Lib.hid fun o o'=>((Below.refl w.heap.size w).alloc (Nat.le_refl _) o).alloc (by simp) o'
  simp only [cubeCells]
  go_enter Tryz.func240,Tryz.ntmps240
  go_wp2_with fail
  all_goals (go_ret;exact ⟨⟨_,rfl⟩,hb.out _ _⟩)
def CubePost (k:Int)(w:World)(e:Ending)(w':World):Prop:=(∃ f:Nat→Int,e=.returned (.agg (cubeCells k f)))∧Below w.heap.size w w'
theorem All_any (k:Nat)(h1:1≤k)(h2:k≤256)(w:World):Calls Tryz.prog 218 #[.int .i64 k] w (CubePost k w):=by
  have hb:=Lib.hid fun o=>(Below.refl w.heap.size w).alloc (Nat.le_refl _) o
  have a1:¬ (k:Int)<1:=by omega
  have a2:¬ (k:Int)>256:=by omega
  clear h1 h2
  go_enter Tryz.func218,Tryz.ntmps218
  go_wp2_with fail
  refine bodyPost_ret (v:=.agg (cubeCells k fun _=>0)) (by simp [results,Tryz.results218,go_sem,cubeCells]) rfl ?_
  exact ⟨⟨_,rfl⟩,hb.out _⟩
def cubeSet (w:World)(M:Nat)(k:Int)(f:Nat→Int):World:=((((((((w.setCell ⟨M,0,none⟩ (.int .i64 k)).setCell ⟨M,1,none⟩ (.int .u64 (f 0))).setCell ⟨M,2,none⟩ (.int .u64 (f 1))).setCell ⟨M,3,none⟩ (.int .u64 (f 2))).setCell ⟨M,4,none⟩ (.int .u64 (f 3))).setCell ⟨M,5,none⟩ (.int .u64 (f 4))).setCell ⟨M,6,none⟩ (.int .u64 (f 5))).setCell ⟨M,7,none⟩ (.int .u64 (f 6))).setCell ⟨M,8,none⟩ (.int .u64 (f 7))
theorem cube_store {w:World}{M:Nat}{k:Int}{f:Nat→Int}(h:CubeAt w M k f)(k2:Int)(f2:Nat→Int):CubeAt (cubeSet w M k2 f2) M k2 f2:=by
  have h0:=heap_setCell_same w M 0 _ _ (.int .i64 k2) (show w.heap[M]?=some (.cells (cubeCells k f) _ (0,0)) from h)
  have h1:=heap_setCell_same _ M 1 _ _ (.int .u64 (f2 0)) h0
  have h2:=heap_setCell_same _ M 2 _ _ (.int .u64 (f2 1)) h1
  have h3:=heap_setCell_same _ M 3 _ _ (.int .u64 (f2 2)) h2
  have h4:=heap_setCell_same _ M 4 _ _ (.int .u64 (f2 3)) h3
  have h5:=heap_setCell_same _ M 5 _ _ (.int .u64 (f2 4)) h4
  have h6:=heap_setCell_same _ M 6 _ _ (.int .u64 (f2 5)) h5
  have h7:=heap_setCell_same _ M 7 _ _ (.int .u64 (f2 6)) h6
  have h8:=heap_setCell_same _ M 8 _ _ (.int .u64 (f2 7)) h7
  unfold CubeAt cubeSet
  rw [h8]
  simp [cubeCells]
theorem cube_below {N M:Nat}(w:World)(k:Int)(f:Nat→Int)(h:N≤M):Below N w (cubeSet w M k f):=by
  unfold cubeSet
  have h0:=(Below.refl N w).setCell (p:=⟨M,0,none⟩) h (.int .i64 k)
  have h1:=h0.setCell (p:=⟨M,1,none⟩) h (.int .u64 (f 0))
  have h2:=h1.setCell (p:=⟨M,2,none⟩) h (.int .u64 (f 1))
  have h3:=h2.setCell (p:=⟨M,3,none⟩) h (.int .u64 (f 2))
  have h4:=h3.setCell (p:=⟨M,4,none⟩) h (.int .u64 (f 3))
  have h5:=h4.setCell (p:=⟨M,5,none⟩) h (.int .u64 (f 4))
  have h6:=h5.setCell (p:=⟨M,6,none⟩) h (.int .u64 (f 5))
  have h7:=h6.setCell (p:=⟨M,7,none⟩) h (.int .u64 (f 6))
  exact h7.setCell (p:=⟨M,8,none⟩) h (.int .u64 (f 7))
structure Three (N:Nat)(k k':Int)(f':Nat→Int)(w:World):Prop where
  a:∃ g,CubeAt w N k g
  b:CubeAt w (N+1) k' f'
  c:CubeAt w (N+1+1) 0 (fun _=>0)
theorem Three.drewN {N:Nat}{k k':Int}{f':Nat→Int}{w:World}(n:Nat)(h:Three N k k' f' w):Three N k k' f' (w.drewN n):=⟨h.a,h.b,h.c⟩
theorem Three.set {N:Nat}{k k':Int}{f':Nat→Int}{w:World}(h:Three N k k' f' w)(j:Nat)(hj:j<8)(y:Int):Three N k k' f' (w.setCell ⟨N,1+j,none⟩ (.int .u64 y)).drew:=by
  obtain ⟨⟨g,h1⟩,h2,h3⟩:=h
  exact ⟨⟨_,h1.set j hj y⟩,(heap_setCell_other w ⟨N,1+j,none⟩ (N+1) _ (by simp)).trans h2,(heap_setCell_other w ⟨N,1+j,none⟩ (N+1+1) _ (by simp;omega)).trans h3⟩
def MeetPost (k:Int)(w:World)(e:Ending)(w':World):Prop:=(∃ (k':Int) (f:Nat→Int) (b:Bool),e=.returned (.tuple #[.agg (cubeCells k' f), .bool b]))∧Below w.heap.size w w'
set_option maxHeartbeats 8000000 in
set_option maxRecDepth 100000 in
theorem Meet_any (k k' : Int) (f f' : Nat → Int) (w : World) : Calls Tryz.prog 232 #[.agg (cubeCells k f), .agg (cubeCells k' f')] w (MeetPost k w) := by
  obtain ⟨W,hW⟩:∃ W,((w.alloc (.cells (cubeCells k f) 291)).alloc (.cells (cubeCells k' f') 291)).alloc (.cells (cubeCells 0 fun _=>0) 291)=W:=⟨_,rfl⟩
  have hz:W.heap.size=w.heap.size+3:=by rw [← hW];simp
  have hb:Below w.heap.size w W:=by rw [← hW];exact (((Below.refl w.heap.size w).alloc (Nat.le_refl _) _).alloc (by simp) _).alloc (by simp;omega) _
  have c0:CubeAt W w.heap.size k f:=by
    rw [← hW];unfold CubeAt
    rw [heap_alloc_old _ _ (by simp;omega),heap_alloc_old _ _ (by simp)];exact heap_alloc_new w _
  have c1:CubeAt W (w.heap.size+1) k' f':=by
    rw [← hW];unfold CubeAt
    rw [heap_alloc_old _ _ (by simp)]
    have:=heap_alloc_new (w.alloc (.cells (cubeCells k f) 291)) (.cells (cubeCells k' f') 291)
    simpa using this
  have c2:CubeAt W (w.heap.size+1+1) 0 (fun _=>0):=by
    rw [← hW];unfold CubeAt
    have:=heap_alloc_new ((w.alloc (.cells (cubeCells k f) 291)).alloc (.cells (cubeCells k' f') 291)) (.cells (cubeCells 0 fun _=>0) 291)
    simpa using this
  simp only [cubeCells] at hW ⊢
  go_enter Tryz.func232,Tryz.ntmps232
  go_upto_region 1 with fail
  clear hW
  have hz':=Lib.hid hz
  have l0:w.heap.size<W.heap.size:=by omega
  have l1:w.heap.size+1<W.heap.size:=by omega
  have l2:w.heap.size+1+1<W.heap.size:=by omega
  clear hz
  replace hb:=Lib.hid hb
  obtain ⟨x0,x1,x2,x3,x4,x5,x6,x7,x8⟩:=cells9 c0
  obtain ⟨y0,y1,y2,y3,y4,y5,y6,y7,y8⟩:=cells9 c1
  have cf:=Lib.hid (fits_any k k' f f' W)
  simp only [cubeCells] at cf
  replace c0:=Lib.hid c0
  replace c1:=Lib.hid c1
  replace c2:=Lib.hid c2
  go_upto_region 2 with (go_at_call 240;refine cf.out.mono ?_;rintro e w2 ⟨⟨y,rfl⟩,hb2⟩;have d0:=Lib.hid (show CubeAt w2 w.heap.size k f from (hb2.block _ l0).trans c0.out);have d1:=Lib.hid (show CubeAt w2 (w.heap.size+1) k' f' from (hb2.block _ l1).trans c1.out);have d2:=Lib.hid (show CubeAt w2 (w.heap.size+1+1) 0 (fun _=>0) from (hb2.block _ l2).trans c2.out);have hbw:=Lib.hid (hb.out.trans (hb2.mono hb.out.size));clear hb2 x0 x1 x2 x3 x4 x5 x6 x7 x8 y0 y1 y2 y3 y4 y5 y6 y7 y8 cf;cases y)
  · go_cut [5] (fun b wx=>b=.bool false∧Hid (CubeAt wx (w.heap.size+1+1) 0 (fun _=>0))∧Hid (Below w.heap.size w wx))
    case first=>
      obtain ⟨z0,z1,z2,z3,z4,z5,z6,z7,z8⟩:=cells9 d2.out
      have zf:=d2.out.free
      go_wp2_with fail
      go_meet
      exact ⟨rfl,Lib.hid (cube_store d2.out 0 (fun _=>0)),Lib.hid (hbw.out.trans (cube_below w2 0 (fun _=>0) (by omega)))⟩
    case rest=>
    obtain ⟨rfl,hC,hB⟩:=hcut
    obtain ⟨z0,z1,z2,z3,z4,z5,z6,z7,z8⟩:=cells9 hC.out
    go_wp2_with fail
    refine bodyPost_ret (v:=.tuple #[.agg (cubeCells 0 fun _=>0), .bool false]) (by simp [results,Tryz.results232,go_sem,cubeCells,z0,z1,z2,z3,z4,z5,z6,z7,z8]) rfl ?_
    exact ⟨⟨_,_,_,rfl⟩,hB.out⟩
  clear c0 c1 c2 hb l0 l1 l2 hz'
  go_loopw [5,6,12] (fun b _ i wr=>∃ j:Nat,j≤4∧i=.int .i64 j∧b=.bool false∧Hid (Three w.heap.size k k' f' wr)∧Hid (Below w.heap.size w wr)) (fun _ _ i _=>4-(intOf i).toNat)
  case atStart=>exact ⟨0,by omega,rfl,rfl,Lib.hid ⟨⟨f,d0.out⟩,d1.out,d2.out⟩,hbw⟩
  case round=>
    obtain ⟨j,hj,rfl,rfl,T,hbr⟩:=hrel
    clear d0 d1 d2 hbw
    by_cases hlt:j<4
    · obtain ⟨g,e0⟩:=T.out.a
      have o0:=e0.cell (4+j) (by omega)
      have o1:=T.out.b.cell (4+j) (by omega)
      have k0:=e0.cell j (by omega)
      have k1:=T.out.b.cell j (by omega)
      rw [← Nat.add_assoc,show 1+4=5 from rfl] at o0 o1
      have b0:(0:Int)≤(j:Int):=by omega
      have b1:(j:Int)<4:=by omega
      clear e0
      go_upto_region 6 with fail
      go_cut [34] (fun v wx=>(∃ y:Bool,v=.bool y)∧Hid (∃ n,wx=wr.drewN n))
      case first=>
        go_quiet (fail)
        go_wp2_with fail
        go_meet
        exact ⟨⟨_,rfl⟩,Lib.hid ⟨_,rfl⟩⟩
      case rest=>
      obtain ⟨⟨y,rfl⟩,hn⟩:=hcut
      replace T:Hid (Three w.heap.size k k' f' wc):=Lib.hid (by obtain ⟨n,rfl⟩:=hn.out;exact T.out.drewN n)
      replace hbr:Hid (Below w.heap.size w wc):=Lib.hid (by obtain ⟨n,rfl⟩:=hn.out;exact below_drewN hbr.out n)
      clear hn o0 o1 k0 k1
      cases y
      case true=>
        go_upto_region 7 with fail
        go_cut [5] (fun b wx=>b=.bool false∧Hid (CubeAt wx (w.heap.size+1+1) 0 (fun _=>0))∧Hid (Below w.heap.size w wx))
        case first=>
          obtain ⟨z0,z1,z2,z3,z4,z5,z6,z7,z8⟩:=cells9 T.out.c
          have zf:=T.out.c.free
          go_wp2_with fail
          go_meet
          exact ⟨rfl,Lib.hid (cube_store T.out.c 0 (fun _=>0)),Lib.hid (hbr.out.trans (cube_below _ 0 (fun _=>0) (by omega)))⟩
        case rest=>
        obtain ⟨rfl,hC,hB⟩:=hcut
        obtain ⟨z0,z1,z2,z3,z4,z5,z6,z7,z8⟩:=cells9 hC.out
        go_wp2_with fail
        refine bodyPost_ret (v:=.tuple #[.agg (cubeCells 0 fun _=>0), .bool false]) (by simp [results,Tryz.results232,go_sem,cubeCells,z0,z1,z2,z3,z4,z5,z6,z7,z8]) rfl ?_
        exact ⟨⟨_,_,_,rfl⟩,hB.out⟩
      obtain ⟨wd,rfl⟩:∃ wd,wd=wc:=⟨_,rfl⟩
      obtain ⟨g2,e0⟩:=T.out.a
      have k0:=e0.cell j (by omega)
      have k1:=T.out.b.cell j (by omega)
      have kf:=e0.free (1+j)
      clear e0
      go_upto_region 8 with fail
      go_cut [36] (fun _ wx=>Hid (∃ y,wx=(wd.setCell ⟨w.heap.size,1+j,none⟩ (.int .u64 y)).drew))
      case first=>
        go_region
        go_wp2_with fail
        go_meet
        exact Lib.hid ⟨_,rfl⟩
      case rest=>
      replace T:Hid (Three w.heap.size k k' f' wc):=Lib.hid (by obtain ⟨n,rfl⟩:=hcut.out;exact T.out.set j (by omega) n)
      replace hbr:Hid (Below w.heap.size w wc):=Lib.hid (by obtain ⟨n,rfl⟩:=hcut.out;exact below_drewN (hbr.out.setCell (p:=⟨w.heap.size,1+j,none⟩) (Nat.le_refl _) _) 1)
      clear hcut k0 k1 kf
      obtain ⟨we,rfl⟩:∃ we,we=wc:=⟨_,rfl⟩
      obtain ⟨g3,e0⟩:=T.out.a
      have k0:=e0.cell (4+j) (by omega)
      have k1:=T.out.b.cell (4+j) (by omega)
      have kf:=e0.free (1+(4+j))
      rw [← Nat.add_assoc,show 1+4=5 from rfl] at k0 k1 kf
      clear e0
      have T2:=Lib.hid fun y=>(by have:=T.out.set (4+j) (by omega) y;rwa [← Nat.add_assoc,show 1+4=5 from rfl] at this:Three w.heap.size k k' f' (we.setCell ⟨w.heap.size,5+j,none⟩ (.int .u64 y)).drew)
      have hbr2:=Lib.hid fun y=>below_drewN (hbr.out.setCell (p:=⟨w.heap.size,5+j,none⟩) (Nat.le_refl _) (.int .u64 y)) 1
      clear T hbr
      go_wp2_with fail
      go_region
      go_wp2_with fail
      go_roundw
      case rel=>exact ⟨j+1,by omega,by go_num,rfl,Lib.hid (T2.out _),Lib.hid (hbr2.out _)⟩
      case measure=>simp [intOf];omega
    · obtain ⟨g,e0⟩:=T.out.a
      obtain ⟨x0,x1,x2,x3,x4,x5,x6,x7,x8⟩:=cells9 e0
      obtain ⟨z0,z1,z2,z3,z4,z5,z6,z7,z8⟩:=cells9 T.out.c
      have zf:=T.out.c.free
      clear e0
      go_wp2_with fail
      obtain ⟨y0,y1,y2,y3,y4,y5,y6,y7,y8⟩:=cells9 (cube_store T.out.c k g)
      unfold cubeSet at y0 y1 y2 y3 y4 y5 y6 y7 y8
      refine bodyPost_ret (v:=.tuple #[.agg (cubeCells k g), .bool true]) (by simp [results,Tryz.results232,go_sem,cubeCells,y0,y1,y2,y3,y4,y5,y6,y7,y8]) rfl ?_
      exact ⟨⟨_,_,_,rfl⟩,hbr.out.trans (cube_below _ k g (by omega))⟩
def LenPost (k:Nat)(w:World)(e:Ending)(w':World):Prop:=(∃ s:ByteArray,e=.returned (.string s)∧s.size=k)∧Below w.heap.size w w'
set_option maxHeartbeats 4000000 in
set_option maxRecDepth 100000 in
theorem Text_any (k : Nat) (hk : k ≤ 256) (f : Nat → Int) (w : World) : Calls Tryz.prog 220 #[.agg (cubeCells k f)] w (LenPost k w) := by
  obtain ⟨W,hW⟩:∃ W,w.alloc (.cells (cubeCells k f) 291)=W:=⟨_,rfl⟩
  have c0:Hid (CubeAt W w.heap.size k f):=Lib.hid (by rw [← hW];exact heap_alloc_new w _)
  have hb:Hid (Below w.heap.size w W):=Lib.hid (by rw [← hW];exact (Below.refl w.heap.size w).alloc (Nat.le_refl _) _)
  have hz:Hid (W.heap.size=w.heap.size+1):=Lib.hid (by rw [← hW];simp)
  have hmk:=makeB W k (by omega)
  have x0:W.cell? ⟨w.heap.size,0,none⟩=some (.int .i64 k):=by rw [cell_of_row W _ _ _ _ _ c0.out];rfl
  obtain ⟨W1,hW1⟩:∃ W1,W.alloc (.cells (madeCells #[.int .u8 0] k) 5 (0,0))=W1:=⟨_,rfl⟩
  have hR:Hid (BytesR W1 W.heap.size (.slice (some ⟨W.heap.size,0,none⟩) k k) (List.replicate k 0)):=Lib.hid (by rw [← hW1];exact BytesR.made W k (by unfold maxLen;omega))
  have hb1:Hid (Below W.heap.size W W1):=Lib.hid (by rw [← hW1];exact (Below.refl W.heap.size W).alloc (Nat.le_refl _) _)
  have hbT:=Lib.hid (hb.out.trans (hb1.out.mono hb.out.size))
  have c1:=Lib.hid (show CubeAt W1 w.heap.size k f from (hb1.out.block _ (by rw [hz.out];omega)).trans c0.out)
  rw [hW1] at hmk
  have hL:Hid ((List.replicate k (0:Int)).length=k):=Lib.hid (by simp)
  generalize List.replicate k (0:Int)=xs0 at *
  have hg1:w.heap.size≤W.heap.size:=hb.out.size
  clear c0 hb hb1
  simp only [cubeCells] at hW ⊢
  go_enter Tryz.func220,Tryz.ntmps220
  go_wp2_with fail
  clear hW hW1 hmk x0
  go_loopw [4,10] (fun _ i wr=>∃ (j:Nat) (xs:List Int),j≤k∧i=.int .i64 j∧Hid (xs.length=k)∧Hid (BytesR wr W.heap.size (.slice (some ⟨W.heap.size,0,none⟩) k k) xs)∧Hid (CubeAt wr w.heap.size k f)∧Hid (Below w.heap.size w wr)) (fun _ i _=>k-(intOf i).toNat)
  case atStart=>exact ⟨0,xs0,by omega,rfl,hL,hR,c1,hbT⟩
  case round=>
    obtain ⟨j,xs,hj,rfl,hxl,hX,hC,hB⟩:=hrel
    clear hL hR c1 hbT
    by_cases hlt:j<k
    · obtain ⟨cx,q0⟩:=hX.out.cell hxl.out.symm hlt
      have q1:wr.frozen? ⟨W.heap.size,j,none⟩=false:=World.ownsRow.frozenAt (by have:=hX.out;unfold BytesR at this;rw [hxl.out] at this;exact this) j
      have ca:=Lib.hid (cubeAt_any w.heap.size 0 j k f wr (by omega) (by omega) hC.out)
      have cb:=Lib.hid (cubeAt_any w.heap.size 4 j k f wr (by omega) (by omega) hC.out)
      have hne:Hid (∀ c,BytesR (wr.setCell ⟨W.heap.size,j,none⟩ (.int .u8 c)) W.heap.size (.slice (some ⟨W.heap.size,0,none⟩) k k) (xs.set j c)):=Lib.hid fun c=>hX.out.set hxl.out.symm j c
      have hn2:Hid (∀ c:Int,(xs.set j c).length=k):=Lib.hid fun c=>by rw [List.length_set];exact hxl.out
      have hn3:Hid (∀ c,CubeAt (wr.setCell ⟨W.heap.size,j,none⟩ (.int .u8 c)) w.heap.size k f):=Lib.hid fun c=>(heap_setCell_other wr ⟨W.heap.size,j,none⟩ w.heap.size _ (by have:=hz.out;simp;omega)).trans hC.out
      have hn4:Hid (∀ c,Below w.heap.size w (wr.setCell ⟨W.heap.size,j,none⟩ (.int .u8 c))):=Lib.hid fun c=>hB.out.setCell (p:=⟨W.heap.size,j,none⟩) hg1 _
      clear hX hC hB hxl
      simp only [Nat.add_zero] at ca
      go_wp2_with (first
        | (go_at_call 233;refine ca.out.mono ?_;rintro e w' ⟨⟨y,rfl⟩,rfl⟩;clear ca;cases y)
        | (go_at_call 233;refine cb.out.mono ?_;rintro e w' ⟨⟨y,rfl⟩,rfl⟩;clear cb;cases y))
      all_goals
        go_roundw
        case rel=>exact ⟨j+1,_,by omega,by go_num,Lib.hid (hn2.out _),Lib.hid (hne.out _),Lib.hid (hn3.out _),Lib.hid (hn4.out _)⟩
        case measure=>simp [intOf];omega
    · have cv:=conv_own hX.out rfl
      go_wp2_with fail
      go_ret
      exact ⟨⟨_,rfl,by rw [strOfNums_size];exact hxl.out⟩,hB.out⟩
def CubesR (w:World)(base:Nat)(v:Value)(k:Int)(fs:List (Nat→Int)):Prop:=w.ownsRow base 291 9 v fs.length (fs.map fun f=>(cubeCells k f).toList).flatten
theorem cubePut2 (M r i:Nat)(k:Int)(f:Nat→Int)(w:World)(hi:i<256)(hr:r≤4)(h:CubeAt w M k f) :
    Calls Tryz.prog 231 #[.pointer (some ⟨M,1+r,none⟩), .int .i64 i] w fun e w'=>e=.returned (.tuple #[])∧∃ j y f',w'=(w.setCell ⟨M,j,none⟩ (.int .u64 y)).drew∧CubeAt w' M k f':=by
  have hc:=h.cell (r+i / 64) (by omega)
  have hf:=h.free (1+r+i / 64)
  rw [← Nat.add_assoc] at hc
  refine (rowput_any M (1+r) i _ w hi hc hf).mono ?_
  rintro e w' ⟨rfl,y,rfl⟩
  have hset:=h.set (r+i / 64) (by omega) y
  rw [← Nat.add_assoc] at hset
  exact ⟨rfl,_,y,_,rfl,hset⟩
structure Sp (N:Nat)(k k':Int)(f':Nat→Int)(w0:World)(v:Value)(fs:List (Nat→Int))(w:World):Prop where
  a:∃ g,CubeAt w N k g
  b:CubeAt w (N+1) k' f'
  r:CubesR w (N+2) v k fs
  o:Below N w0 w
section
variable {N H:Nat} {k k':Int} {f' g:Nat→Int} {w0 w w':World} {v:Value} {fs:List (Nat→Int)}
theorem Sp.putA {j:Nat}{y:Int}{g:Nat→Int}(h:Sp N k k' f' w0 v fs w)(hc:CubeAt ((w.setCell ⟨N,j,none⟩ (.int .u64 y)).drew) N k g):Sp N k k' f' w0 v fs ((w.setCell ⟨N,j,none⟩ (.int .u64 y)).drew):=
  ⟨⟨g,hc⟩,(heap_setCell_other w ⟨N,j,none⟩ (N+1) _ (by simp)).trans h.b,ownsRow_setCell_below h.r (a:=⟨N,j,none⟩) (show N<N+2 by omega) _,below_drewN (h.o.setCell (p:=⟨N,j,none⟩) (Nat.le_refl _) _) 1⟩
theorem Sp.putO {j:Nat}{y:Int}(h:Sp N k k' f' w0 v fs w)(hH:N+2≤H)(hv:v.ownBlock≠some H):Sp N k k' f' w0 v fs ((w.setCell ⟨H,j,none⟩ (.int .u64 y)).drew):=by
  obtain ⟨⟨g,ha⟩,hb,hr,ho⟩:=h
  exact ⟨⟨g,(heap_setCell_other w ⟨H,j,none⟩ N _ (by simp;omega)).trans ha⟩,(heap_setCell_other w ⟨H,j,none⟩ (N+1) _ (by simp;omega)).trans hb,ownsRow_setCell_other hr (a:=⟨H,j,none⟩) hv _,below_drewN (ho.setCell (p:=⟨H,j,none⟩) (show N≤H by omega) _) 1⟩
theorem Sp.put1 {j:Nat}{y:Int}{g:Nat→Int}(h:Sp N k k' f' w0 v fs w)(hc:CubeAt w' N k g)(hw:w'=(w.setCell ⟨N,j,none⟩ (.int .u64 y)).drew):Sp N k k' f' w0 v fs w':=by
  subst hw;exact h.putA hc
theorem Sp.put2 {j:Nat}{y:Int}(h:Sp N k k' f' w0 v fs w)(hH:N+2≤H)(hv:v.ownBlock≠some H)(hw:w'=(w.setCell ⟨H,j,none⟩ (.int .u64 y)).drew):Sp N k k' f' w0 v fs w':=by
  subst hw;exact h.putO hH hv
theorem cube_one (k:Int)(g:Nat→Int):∀ u∈(cubeCells k g).toList,u.oneCell'=true:=by
  intro u hu
  simp only [cubeCells,List.mem_cons,List.not_mem_nil,or_false] at hu
  rcases hu with rfl|rfl|rfl|rfl|rfl|rfl|rfl|rfl|rfl<;>rfl
theorem Sp.lt (h:Sp N k k' f' w0 v fs w):N+2≤w.heap.size:=by
  have:N+1<w.heap.size:=(Array.getElem?_eq_some_iff.1 h.b).1
  omega
theorem Sp.up (h:Sp N k k' f' w0 v fs w)(hb:Below w.heap.size w w'):Sp N k k' f' w0 v fs w':=by
  have hl:=h.lt
  obtain ⟨⟨g,ha⟩,hbb,hr,ho⟩:=h
  refine ⟨⟨g,(hb.block _ (by omega)).trans ha⟩,(hb.block _ (by omega)).trans hbb,?_,ho.trans (hb.mono (by omega))⟩
  obtain ⟨h1,h2|⟨g',cap,cur,hv,hbg,hg,h3⟩⟩:=hr
  · exact ⟨h1, .inl h2⟩
  · exact ⟨h1, .inr ⟨g',cap,cur,hv,hbg,(hb.block _ (Array.getElem?_eq_some_iff.1 hg).1).trans hg,h3⟩⟩
theorem Sp.app {o:Obj}{w4:World}{v4:Value}(h:Sp N k k' f' w0 v fs w)(hown:w4.ownsRow (N+2) 291 9 v4 (fs.length+1) ((fs.map fun f=>(cubeCells k f).toList).flatten++(cubeCells k g).toList))(hg:(w.alloc o).grownBy w4 v.ownBlock):Sp N k k' f' w0 v4 (fs++[g]) w4:=by
  have hl:=h.lt
  have h2:=h.up ((Below.refl _ _).alloc (Nat.le_refl _) o)
  have hk:∀ b,b<N+2→w4.heap[b]?=(w.alloc o).heap[b]?:=fun b hb=>hg.block b (by simp;omega) fun e=>by have:=(World.ownsRow.lt h.r b e.symm).1;omega
  obtain ⟨g0,ha⟩:=h2.a
  refine ⟨⟨g0,(hk N (by omega)).trans ha⟩,(hk (N+1) (by omega)).trans h2.b,?_,h2.o.grown hg (by simp;omega) fun i hi=>by have:=(World.ownsRow.lt h.r i hi).1;omega⟩
  unfold CubesR
  simpa using hown
end
theorem cube_info:(Tryz.prog.info? 291).map (fun i=>(i.zero,i.size,i.bytes))=some (some (.agg (cubeCells 0 fun _=>0)),9,72):=by kernel_rfl
def SplitPost (k:Nat)(w:World)(e:Ending)(w':World):Prop:=∃ v fs,e=.returned v∧fs.length≤256∧CubesR w' w.heap.size v k fs∧Below w.heap.size w w'
set_option maxHeartbeats 8000000 in
set_option maxRecDepth 100000 in
theorem Split_any (k : Nat) (hk : k ≤ 256) (k' : Int) (f f' : Nat → Int) (w : World) : Calls Tryz.prog 219 #[.agg (cubeCells k f), .agg (cubeCells k' f')] w (SplitPost k w) := by
  obtain ⟨W,hW⟩:∃ W,(w.alloc (.cells (cubeCells k f) 291)).alloc (.cells (cubeCells k' f') 291)=W:=⟨_,rfl⟩
  have hz:W.heap.size=w.heap.size+2:=by rw [← hW];simp
  have hb:Hid (Below w.heap.size w W):=Lib.hid (by rw [← hW];exact ((Below.refl w.heap.size w).alloc (Nat.le_refl _) _).alloc (by simp) _)
  have c0:CubeAt W w.heap.size k f:=by
    rw [← hW];unfold CubeAt
    rw [heap_alloc_old _ _ (by simp)];exact heap_alloc_new w _
  have c1:CubeAt W (w.heap.size+1) k' f':=by
    rw [← hW];unfold CubeAt
    have:=heap_alloc_new (w.alloc (.cells (cubeCells k f) 291)) (.cells (cubeCells k' f') 291)
    simpa using this
  have cm:=Lib.hid (Meet_any k k' f f' W)
  obtain ⟨x0,x1,x2,x3,x4,x5,x6,x7,x8⟩:=cells9 c0
  obtain ⟨y0,y1,y2,y3,y4,y5,y6,y7,y8⟩:=cells9 c1
  simp only [MeetPost,cubeCells] at hW cm ⊢
  go_enter Tryz.func219,Tryz.ntmps219
  go_upto_region 2 with (go_at_call 232;refine cm.out.mono ?_;rintro e w2 ⟨⟨k2,f2,bb,rfl⟩,hb2⟩;simp only [cubeCells];have d0:=Lib.hid (show CubeAt w2 w.heap.size k f from (hb2.block _ (by omega)).trans c0);have d1:=Lib.hid (show CubeAt w2 (w.heap.size+1) k' f' from (hb2.block _ (by omega)).trans c1);have hbw:=Lib.hid (hb.out.trans (hb2.mono hb.out.size));clear hb2 x0 x1 x2 x3 x4 x5 x6 x7 x8 y0 y1 y2 y3 y4 y5 y6 y7 y8 cm c0 c1)
  clear hW hb hz
  have hS:Hid (∀ o,Sp w.heap.size k k' f' w (.slice none 0 0) [] (w2.alloc o)):=Lib.hid fun o=>Sp.up ⟨⟨f,d0.out⟩,d1.out,⟨rfl, .inl ⟨rfl,rfl⟩⟩,hbw.out⟩ ((Below.refl _ _).alloc (Nat.le_refl _) o)
  cases bb
  · obtain ⟨g,e0⟩:=(hS.out (.cells (cubeCells k2 f2) 291)).a
    obtain ⟨x0,x1,x2,x3,x4,x5,x6,x7,x8⟩:=cells9 e0
    simp only [cubeCells] at x0 x1 x2 x3 x4 x5 x6 x7 x8
    clear e0
    have hb3:Hid (∀ o1 o2,Below w.heap.size w ((w2.alloc o1).alloc o2)):=Lib.hid fun o1 o2=>(hbw.out.alloc hbw.out.size _).alloc (by have:=hbw.out.size;simp;omega) _
    clear hS
    go_wp2_with fail
    go_ret
    exact ⟨_,[g],rfl,by simp,⟨by simp [cubeCells], .inr ⟨w2.heap.size+1,1,cubeCells k g,rfl,by have:=hbw.out.size;omega,by have:=heap_alloc_new (w2.alloc (.cells (cubeCells k2 f2) 291)) (.cells (cubeCells k g) 291);simpa [cubeCells] using this,by simp,by decide,by simp [cubeCells],by simp [cubeCells]⟩⟩,hb3.out _ _⟩
  obtain ⟨W2,hW2⟩:∃ W2,w2.alloc (.cells (cubeCells k2 f2) 291)=W2:=⟨_,rfl⟩
  replace hS:Hid (Sp w.heap.size k k' f' w (.slice none 0 0) [] W2):=Lib.hid (by rw [← hW2];exact hS.out _)
  obtain ⟨g0,e0⟩:=hS.out.a
  have x0:W2.cell? ⟨w.heap.size,0,none⟩=some (.int .i64 k):=by rw [cell_of_row W2 _ _ _ _ _ e0];rfl
  clear d0 d1 hbw e0
  simp only [cubeCells] at hW2
  go_wp2_with fail
  clear x0 hW2
  obtain ⟨i0,hi,hz0,hz1,hz2⟩:=info_parts cube_info
  replace hi:=Lib.hid hi;replace hz0:=Lib.hid hz0;replace hz1:=Lib.hid hz1;replace hz2:=Lib.hid hz2
  go_loopw [7,8,9,22] (fun v _ _ i wr=>∃ (j:Nat) (fs:List (Nat→Int)),j≤k∧i=.int .i64 j∧fs.length≤j∧Hid (Sp w.heap.size k k' f' w v fs wr)) (fun _ _ _ i _=>k-(intOf i).toNat)
  case atStart=>exact ⟨0,[],by omega,rfl,by simp,hS⟩
  case round=>
    obtain ⟨j,fs,hj,rfl,hfl,hT⟩:=hrel
    clear hS
    by_cases hlt:j<k
    · obtain ⟨g,e0⟩:=hT.out.a
      have ca:=Lib.hid (cubeAt_any w.heap.size 0 j k g wr (by omega) (by omega) e0)
      have cb:=Lib.hid (cubeAt_any (w.heap.size+1) 0 j k' f' wr (by omega) (by omega) hT.out.b)
      simp only [Nat.add_zero] at ca cb
      go_upto_region 8 with fail
      go_cut [33] (fun v wx=>wx=wr∧∃ y:Bool,v=.bool y)
      case first=>
        go_wp2_with (first
          | (go_at_call 233;refine ca.out.mono ?_;rintro e w' ⟨⟨y,rfl⟩,rfl⟩;clear ca;cases y)
          | (go_at_call 233;refine cb.out.mono ?_;rintro e w' ⟨⟨y,rfl⟩,rfl⟩;clear cb;cases y))
        all_goals
          go_meet
          exact ⟨rfl,_,rfl⟩
      case rest=>
      obtain ⟨rfl,y,rfl⟩:=hcut
      clear ca cb
      cases y
      case true=>
        go_wp2_with fail
        go_roundw
        case rel=>exact ⟨j+1,fs,by omega,by go_num,by omega,hT⟩
        case measure=>simp [intOf];omega
      have cp:=Lib.hid (cubePut2 w.heap.size 0 j k g wc (by omega) (by omega) e0)
      simp only [Nat.add_zero] at cp
      clear e0
      obtain ⟨wd,rfl⟩:∃ wd,wd=wc:=⟨_,rfl⟩
      go_upto_region 9 with fail
      go_cut [36] (fun _ wx=>Hid (Sp w.heap.size k k' f' w u7 fs wx))
      case first=>
        go_wp2_with (go_at_call 231;refine cp.out.mono ?_;rintro e w' ⟨rfl,jj,y,f2,rfl,hc2⟩;have hS2:=Lib.hid (hT.out.putA hc2);clear hc2)
        go_meet
        exact hS2
      case rest=>
      clear cp hT
      have hS9:=hcut
      clear hcut
      obtain ⟨we,rfl⟩:∃ we,we=wc:=⟨_,rfl⟩
      obtain ⟨g2,e0⟩:=hS9.out.a
      obtain ⟨x0,x1,x2,x3,x4,x5,x6,x7,x8⟩:=cells9 e0
      clear e0
      go_upto_region 10 with fail
      go_cut [9] (fun v wx=>v=.pointer (some ⟨we.heap.size,0,none⟩)∧Hid (CubeAt wx we.heap.size k g2)∧Hid (Sp w.heap.size k k' f' w u7 fs wx))
      case first=>
        have hS2:=Lib.hid fun o=>hS9.out.up ((Below.refl _ _).alloc (Nat.le_refl _) o)
        go_wp2_with fail
        go_meet
        exact ⟨rfl,Lib.hid (heap_alloc_new we _),hS2.out _⟩
      case rest=>
      have hH:=hS9.out.lt
      have hv:Hid (u7.ownBlock≠some we.heap.size):=Lib.hid fun e=>by have:=(World.ownsRow.lt hS9.out.r _ e).2;omega
      obtain ⟨rfl,hO,hS⟩:=hcut
      clear hS9
      obtain ⟨wf,rfl⟩:∃ wf,wf=wc:=⟨_,rfl⟩
      have cc:=Lib.hid (cubeAt_any (w.heap.size+1) 4 j k' f' wf (by omega) (by omega) hS.out.b)
      obtain ⟨g3,e0⟩:=hS.out.a
      have cp:=Lib.hid (cubePut2 w.heap.size 4 j k g3 wf (by omega) (by omega) e0)
      have cq:=Lib.hid (cubePut2 we.heap.size 4 j k g2 wf (by omega) (by omega) hO.out)
      clear e0 x0 x1 x2 x3 x4 x5 x6 x7 x8
      have hne:we.heap.size≠w.heap.size:=by omega
      simp only [Nat.reduceAdd] at cp cq cc
      go_wp2_with (go_at_call 233;refine cc.out.mono ?_;rintro e w' ⟨⟨y,rfl⟩,rfl⟩;clear cc;cases y)
      · refine cq.out.mono ?_
        rintro e w3 ⟨rfl,jj,y,f2,hw3,hc2⟩
        have S3:=Lib.hid (hS.out.put2 hH hv.out hw3)
        obtain ⟨g4,hO3⟩:∃ g4,Hid (CubeAt w3 we.heap.size k g4):=⟨f2,Lib.hid hc2⟩
        obtain ⟨x0,x1,x2,x3,x4,x5,x6,x7,x8⟩:=cells9 hO3.out
        have hl3:=S3.out.lt
        clear hw3 hc2 cp cq hS hO
        go_wp2_with (at_builtin;refine wpList_append_lies _ rfl (.tmp 47) (.tmp 49) _ rfl (w.heap.size+2) 291 i0 _ 9 72 Tryz.underlying294 hi.out hz0.out hz1.out hz2.out rfl (by decide) u7 fs.length _ rfl (World.ownsRow.alloc S3.out.r _) ⟨w3.heap.size,0,none⟩ 1 1 (cubeCells k g4).toList rfl rfl (World.news_of_block (heap_alloc_new w3 _)) (cube_one k g4) (by decide) (by unfold maxLen;omega) (by omega) (by simp;omega) (w3.heap.size+1) (by simp) ?_;intro g' cap' w4 hown4 hg4 hat4 hlt4;have S4:=Lib.hid (S3.out.app hown4 hg4);clear hown4 hg4 hat4 hlt4 x0 x1 x2 x3 x4 x5 x6 x7 x8)
        go_roundw
        case rel=>exact ⟨j+1,_,by omega,by go_num,by simp;omega,S4⟩
        case measure=>simp [intOf];omega
      · refine cp.out.mono ?_
        rintro e w3 ⟨rfl,jj,y,f2,hw3,hc2⟩
        have S3:=Lib.hid (hS.out.put1 hc2 hw3)
        obtain ⟨g4,hO3⟩:∃ g4,Hid (CubeAt w3 we.heap.size k g4):=⟨g2,Lib.hid (by subst hw3;exact (heap_setCell_other wf ⟨w.heap.size,jj,none⟩ we.heap.size _ hne).trans hO.out)⟩
        obtain ⟨x0,x1,x2,x3,x4,x5,x6,x7,x8⟩:=cells9 hO3.out
        have hl3:=S3.out.lt
        clear hw3 hc2 cp cq hS hO
        go_wp2_with (at_builtin;refine wpList_append_lies _ rfl (.tmp 47) (.tmp 49) _ rfl (w.heap.size+2) 291 i0 _ 9 72 Tryz.underlying294 hi.out hz0.out hz1.out hz2.out rfl (by decide) u7 fs.length _ rfl (World.ownsRow.alloc S3.out.r _) ⟨w3.heap.size,0,none⟩ 1 1 (cubeCells k g4).toList rfl rfl (World.news_of_block (heap_alloc_new w3 _)) (cube_one k g4) (by decide) (by unfold maxLen;omega) (by omega) (by simp;omega) (w3.heap.size+1) (by simp) ?_;intro g' cap' w4 hown4 hg4 hat4 hlt4;have S4:=Lib.hid (S3.out.app hown4 hg4);clear hown4 hg4 hat4 hlt4 x0 x1 x2 x3 x4 x5 x6 x7 x8)
        go_roundw
        case rel=>exact ⟨j+1,_,by omega,by go_num,by simp;omega,S4⟩
        case measure=>simp [intOf];omega
    · have HF:Hid (SplitPost k w (.returned u7) wr):=Lib.hid ⟨u7,fs,rfl,by omega,Go.Joins.ownsRow_le hT.out.r (by omega),hT.out.o⟩
      clear hT
      go_wp2_with fail
      go_ret
      exact HF.out
theorem ext_len (l:Bytes)(d:Nat)(h:d≤l.length):((⟨l.toArray⟩:ByteArray).extract 0 d).data.toList.length=d:=by
  have e:((⟨l.toArray⟩:ByteArray).extract 0 d).size=d:=by
    rw [ByteArray.size_extract]
    have:(⟨l.toArray⟩:ByteArray).size=l.length:=by simp [ByteArray.size]
    omega
  exact e
set_option maxHeartbeats 4000000 in
set_option maxRecDepth 100000 in
theorem rep_x (c : Nat) (hc : c ≤ 256) (w : World) : Calls Tryz.prog 159 #[.string ⟨#[120]⟩, .int .i64 c] w (LenPost c w) := by
  by_cases h0:c=0
  · subst h0
    have hb:=Lib.hid (Below.refl w.heap.size w)
    go_enter Tryz.func159,Tryz.ntmps159
    go_wp2_with fail
    go_ret
    exact ⟨⟨_,rfl,rfl⟩,hb.out⟩
  by_cases h1:c=1
  · subst h1
    have hb:=Lib.hid (Below.refl w.heap.size w)
    go_enter Tryz.func159,Tryz.ntmps159
    go_wp2_with fail
    go_ret
    exact ⟨⟨_,rfl,rfl⟩,hb.out⟩
  have h2:2≤c:=by omega
  have e0:((c:Int) == 0)=false:=by simp [h0]
  have e1:((c:Int) == 1)=false:=by simp;omega
  have hm:=Tryz.bits_Mul 1 c (by omega) (by omega) w
  rw [Nat.one_mul,Nat.div_eq_of_lt (by omega),Nat.mod_eq_of_lt (by omega)] at hm
  replace hm:=Lib.hid (hm.mono (R':=fun e w'=>e=.returned (.tuple #[.int .u64 (0:Nat), .int .u64 c])∧w=w') fun _ _ h=>⟨h.1,h.2.symm⟩)
  have hb0:=Lib.hid (show Below w.heap.size w (w.alloc (.cells #[.pointer none, .slice none 0 0] 134 (0,0))) from (Below.refl _ _).alloc (Nat.le_refl _) _)
  have hg:=Lib.hid (Tryz.Builder_Grow_fresh w.heap.size w.heap.size c (w.alloc (.cells #[.pointer none, .slice none 0 0] 134 (0,0))) (Nat.le_refl _) (heap_alloc_new w _) (by simp) (by omega))
  clear h0 h1
  go_enter Tryz.func159,Tryz.ntmps159
  go_wp2_with (first
    | (go_at_call 184;refine hm.out.mono ?_;rintro e w' ⟨rfl,rfl⟩;clear hm)
    | (go_at_call 100;refine hg.out.mono ?_;rintro e w2 ⟨rfl,hB2,hb2⟩;have hA2:=Lib.hid (bl_str btyB w.heap.size w.heap.size [] ⟨#[120]⟩ w2 (.inr (Lib.BuilderAtF.of hB2)) (by decide) (by have:=hb2.size;simp at this;omega));have hb3:=Lib.hid (hb0.out.trans hb2);clear hB2 hb2 hg hb0)
    | (go_at_call 101;refine hA2.out.mono ?_;rintro e w3 ⟨⟨v,rfl⟩,hB3,hb4,hk4⟩;have hb5:=Lib.hid (hb3.out.trans hb4);have hB5:=Lib.hid hB3;clear hB3 hb4 hk4 hA2 hb3))
  go_loopg [10] (c-1) (fun k _ wr=>∃ l:Bytes,l≠[]∧k+l.length=c∧Hid (BAt 134 w.heap.size w.heap.size l wr)∧Hid (Below w.heap.size w wr))
  case atStart=>exact ⟨[120],by simp,by simp;omega,hB5,hb5⟩
  case round=>
    obtain ⟨l,hl0,hlc,hB,hb⟩:=hrel
    obtain ⟨m,hm⟩:∃ m,m=l.length:=⟨_,rfl⟩
    have hm1:1≤m:=by rw [hm];exact List.length_pos_iff.2 hl0
    have cl:=Lib.hid (bl_len w.heap.size w.heap.size l wr hB.out)
    have cs:=Lib.hid (bl_string w.heap.size w.heap.size l wr hB.out hl0)
    rw [← hm] at cl hlc
    replace hm:=Lib.hid hm
    replace hl0:=Lib.hid hl0
    replace hlc:=Lib.hid hlc
    have hmc:m≤c:=by have:=hlc.out;omega
    by_cases hlt:m<c
    · have hlt':(m:Int)<(c:Int):=by omega
      obtain ⟨d,hd,hd1,hd2,hd3⟩:∃ d:Nat,(if (m:Int)<(c:Int)-(m:Int) then (m:Int) else (c:Int)-(m:Int))=(d:Int)∧1≤d∧d≤m∧m+d≤c:=by
        by_cases h:(m:Int)<(c:Int)-(m:Int)
        · exact ⟨m,by rw [if_pos h],hm1,Nat.le_refl _,by omega⟩
        · exact ⟨c-m,by rw [if_neg h];omega,by omega,by omega,by omega⟩
      go_upto_region 40 with (go_at_call 85;refine cl.out.mono ?_;rintro e w' ⟨rfl,rfl⟩)
      clear hd cl
      obtain ⟨x,hx⟩:∃ x,x=(⟨l.toArray⟩:ByteArray).extract 0 d:=⟨_,rfl⟩
      have hxl:Hid (x.data.toList.length=d):=Lib.hid (by rw [hx];exact ext_len l d (by have:=hm.out;omega))
      have hss:((⟨l.toArray⟩:ByteArray).size:Int)=(m:Int):=by rw [hm.out];simp [ByteArray.size]
      go_wp2_with (first
        | (go_at_call 86;refine cs.out.mono ?_;rintro e w4 ⟨rfl,hB4,hb4,hk4⟩;have hb6:=Lib.hid (hb.out.trans hb4);have cw:=Lib.hid (bl_str btyB w.heap.size w.heap.size l x w4 hB4 (by have h1:=hxl.out;have h2:=hm.out;have:x.size=x.data.toList.length:=rfl;omega) (by have:=hb6.out.size;omega));clear hB4 hb4 hk4))
      rw [hx] at cw
      refine cw.out.mono ?_
      rintro e w5 ⟨⟨v5,rfl⟩,hB7,hb7,_⟩
      rw [← hx] at hB7
      have hB8:=Lib.hid hB7
      have hb8:=Lib.hid (hb6.out.trans hb7)
      clear hB7 hb7 cw hx hss
      go_wp2_with fail
      go_roundg (c-(m+d))
      case measure=>have:=hlc.out;omega
      case rel=>exact ⟨l++x.data.toList,by have:=hl0.out;simp [this],by rw [List.length_append];have h1:=hxl.out;have h2:=hm.out;have:(x.data.toList).length=d:=h1;omega,hB8,hb8⟩
    · have hlt':¬ (m:Int)<(c:Int):=by omega
      have hle:m=c:=by omega
      replace hle:=Lib.hid hle
      go_wp2_with (first
        | (go_at_call 85;refine cl.out.mono ?_;rintro e w' ⟨rfl,rfl⟩)
        | (go_at_call 86;refine cs.out.mono ?_;rintro e w4 ⟨rfl,hB4,hb4,hk4⟩;have hb6:=Lib.hid (hb.out.trans hb4)))
      go_ret
      exact ⟨⟨_,rfl,by rw [← hle.out,hm.out];rfl⟩,hb6.out⟩
end Go.Proofs.YtdhehcobnbcmdaaGreatDoor
