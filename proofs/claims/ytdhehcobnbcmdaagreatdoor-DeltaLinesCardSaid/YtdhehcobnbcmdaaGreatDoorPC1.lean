/- A part of the proof of DeltaLines: Cls1 Cls2. -/
import Derived.Test.YtdhehcobnbcmdaaGreatDoorPT5
set_option linter.all false
namespace Go.Proofs.YtdhehcobnbcmdaaGreatDoor
open Go.RowKit
set_option maxHeartbeats 4000000 in
set_option maxRecDepth 100000 in
theorem a_noLink (Sv Sb B:Nat)(w0:World)(TT:TypeId)(a:List LinkS):ActLink w0 Sb B (Mine Sb Sv (.cells #[.pointer (some ⟨Sb,0,none⟩)] TT (0,0))) 14 #[.pointer (some ⟨Sv,0,none⟩)] (fun x=>ba [110,111,32,108,105,110,107,32]++x.frm) a:=by
  intro W0 l x c hxm hc hs hk hll
  obtain ⟨W1,hW1⟩:∃ W1,W0.alloc (.cells c.toArray 63 (0,0))=W1:=⟨_,rfl⟩
  have hb1:Below W0.heap.size W0 W1:=by rw [← hW1];exact (Below.refl _ _).alloc (Nat.le_refl _) _
  have hn:W1.heap[W0.heap.size]?=some (.cells c.toArray 63 (0,0)):=by rw [← hW1];exact heap_alloc_new W0 _
  have hz1:W1.heap.size=W0.heap.size+1:=by rw [← hW1];simp
  have hslt:=hs.lt
  have hform:c=[.string x.frm, .string x.dst,I6 x.cost]:=hc.1
  have hn':=hn
  rw [hform] at hn'
  have hbo:∀ W,Below W1.heap.size W1 W→Below W0.heap.size W0 W:=fun W hb=>hb1.trans (hb.mono (by omega))
  have hsay:=Lib.hid fun W hb=>fun s=>d_say s (hs.below (hbo W hb)) hll
  have hfin:=Lib.hid fun W hb=>fun s e w' (h:SayPost w0 Sb (l++[s]) W e w')=>(⟨h.1,h.2.1,(KeepX.of_below hslt (hbo W hb)).trans h.2.2.1,Nat.le_trans (hbo W hb).size h.2.2.2⟩:SayPost w0 Sb (l++[s]) W0 e w')
  have hcx:=Lib.hid fun W (hb:Below W1.heap.size W1 W)=>cellsAt3 ((hb.block W0.heap.size (by omega)).trans hn')
  have hvv:=Lib.hid fun W (hb:Below W1.heap.size W1 W)=>cell_of_one ((hk.keep (KeepX.of_below hslt (hbo W hb))).1)
  have hd0:=Lib.hid (Below.refl W1.heap.size W1)
  have hsm:=hc.2.1
  subst hform
  have g1:¬ 9223372036854775807<8+(x.frm).size:=by have:(x.frm).size≤140737488355328:=hsm;omega
  obtain ⟨e0,e1,e2⟩:=hcx.out _ hd0.out
  have e3:=hvv.out _ hd0.out
  replace hsay:=Lib.hid (hsay.out _ hd0.out)
  replace hfin:=Lib.hid (hfin.out _ hd0.out)
  clear hb1 hn hn' hz1 hbo hs hk hc hsm hcx hvv
  show Calls Tryz.prog 14 #[.agg #[.string x.frm, .string x.dst,I6 x.cost], .pointer (some ⟨Sv,0,none⟩)] W0 _
  generalize hP:SayPost w0 Sb (l++[ba [110,111,32,108,105,110,107,32]++x.frm]) W0=P
  replace hP:=Lib.hid hP
  go_enter Tryz.func14,Tryz.ntmps14
  go_wp2_with (go_at_call 10;(with_reducible refine (hsay.out _).mono ?_);rintro e wz ⟨⟨vz,rfl⟩,hSc,hKx,hsz⟩;have HP:=Lib.hid (hfin.out _ _ _ ⟨⟨vz,rfl⟩,hSc,hKx,hsz⟩);clear hSc hKx hsz)
  go_end0
  rw [← hP.out]
  exact ⟨⟨_,rfl⟩,HP.out.2⟩
set_option maxHeartbeats 4000000 in
set_option maxRecDepth 100000 in
theorem a_adLink (Sv Sb B:Nat)(w0:World)(TT:TypeId)(a:List LinkS)(hE:Env w0)(hw:w0.heap.size≤Sb)(hBS:B≤Sb)(hwr:∀ x∈a,WrL x):ActLink w0 Sb B (Mine Sb Sv (.cells #[.pointer (some ⟨Sb,0,none⟩)] TT (0,0))) 15 #[.pointer (some ⟨Sv,0,none⟩)] (fun x=>lineTx (allL [] [x] []) 0) a:=by
  intro W0 l x c hxm hc hs hk hll
  obtain ⟨W1,hW1⟩:∃ W1,W0.alloc (.cells c.toArray 63 (0,0))=W1:=⟨_,rfl⟩
  have hb1:Below W0.heap.size W0 W1:=by rw [← hW1];exact (Below.refl _ _).alloc (Nat.le_refl _) _
  have hn:W1.heap[W0.heap.size]?=some (.cells c.toArray 63 (0,0)):=by rw [← hW1];exact heap_alloc_new W0 _
  have hz1:W1.heap.size=W0.heap.size+1:=by rw [← hW1];simp
  have hslt:=hs.lt
  have hform:c=[.string x.frm, .string x.dst,I6 x.cost]:=hc.1
  have hn':=hn
  rw [hform] at hn'
  have hbo:∀ W,Below W1.heap.size W1 W→Below W0.heap.size W0 W:=fun W hb=>hb1.trans (hb.mono (by omega))
  have hsay:=Lib.hid fun W hb=>fun s=>d_say s (hs.below (hbo W hb)) hll
  have hfin:=Lib.hid fun W hb=>fun s e w' (h:SayPost w0 Sb (l++[s]) W e w')=>(⟨h.1,h.2.1,(KeepX.of_below hslt (hbo W hb)).trans h.2.2.1,Nat.le_trans (hbo W hb).size h.2.2.2⟩:SayPost w0 Sb (l++[s]) W0 e w')
  have hcx:=Lib.hid fun W (hb:Below W1.heap.size W1 W)=>cellsAt3 ((hb.block W0.heap.size (by omega)).trans hn')
  have hvv:=Lib.hid fun W (hb:Below W1.heap.size W1 W)=>cell_of_one ((hk.keep (KeepX.of_below hslt (hbo W hb))).1)
  have hwx:=hwr x hxm
  have hE1:=hE.below (hs.b.mono hw)
  have hlen:(allL [] [x] []).length≤16384:=by have:=linkT_le hwx;simp only [allL,linesL,List.flatMap_nil,List.flatMap_cons,List.append_nil,List.nil_append,List.length_append,List.length_cons,List.length_nil,Array.length_toList];have h2:(linkT x).data.size≤200:=this;omega
  have hne:allL [] [x] []≠[]:=by simp [allL,linesL]
  have hpc:0<(piecesL (allL [] [x] [])).length:=by rw [pieces_len];omega
  have hcW:∀ W,Below W1.heap.size W1 W→LinkC W B c x:=fun W hb=>hc
  have cP:Hid (∀ (W2:World),Below W1.heap.size W1 W2→W2.heap[W1.heap.size]?=some (.cells #[.string x.frm, .string x.dst,I6 x.cost] 63 (0,0))→Calls Tryz.prog 16 #[.agg #[.string ⟨#[]⟩, .slice none 0 0, .string ⟨#[]⟩, .bool false, .slice none 0 0, .slice (some ⟨W1.heap.size,0,none⟩) 1 1, .slice none 0 0], .int .i64 0] W2 (StrW (lineTx (allL [] [x] []) 0) W2)):=Lib.hid fun W2 hb hn2=>by
    have hl2:=(Array.getElem?_eq_some_iff.1 hn2).1
    refine d_printed [] [x] [] none 0 _ _ _ 0 (W1.heap.size+1) _ slOf_nil (slOf_one hn2 rfl (Nat.lt_succ_self _) ?_) slOf_nil (by omega) (hE1.below (hbo W2 hb)) (by simp) (by intro b hb;rw [List.mem_singleton.1 hb];exact hwx) (by simp) hlen hne hpc
    have h9:=hcW W2 hb
    rw [hform] at h9
    exact h9
  subst hform
  have hnew:=Lib.hid (show (W1.alloc (.cells #[.string x.frm, .string x.dst,I6 x.cost] 63 (0,0))).drew.heap[W1.heap.size]?=some (.cells #[.string x.frm, .string x.dst,I6 x.cost] 63 (0,0)) from heap_alloc_new W1 _)
  have hbnew:=Lib.hid (show Below W1.heap.size W1 (W1.alloc (.cells #[.string x.frm, .string x.dst,I6 x.cost] 63 (0,0))).drew from ((Below.refl W1.heap.size W1).alloc (Nat.le_refl _) _).drew)
  have hKp:=Lib.hid fun W hb=>(⟨(hcx.out W hb).1,(hcx.out W hb).2.1,(hcx.out W hb).2.2,hvv.out W hb⟩:W.cell? ⟨W0.heap.size,0,none⟩=some (.string x.frm)∧W.cell? ⟨W0.heap.size,1,none⟩=some (.string x.dst)∧W.cell? ⟨W0.heap.size,2,none⟩=some (I6 x.cost)∧W.cell? ⟨Sv,0,none⟩=some (.pointer (some ⟨Sb,0,none⟩)))
  have hMx:Mine Sb W0.heap.size (.cells #[.string x.frm, .string x.dst,I6 x.cost] 63 (0,0)) W1:=hs.mine (by rw [hW1];exact Below.refl _ _)
  have hKz:Hid (∀ W z,Below W1.heap.size W1 W→KeepX Sb W z→(z.cell? ⟨W0.heap.size,0,none⟩=some (.string x.frm)∧z.cell? ⟨W0.heap.size,1,none⟩=some (.string x.dst)∧z.cell? ⟨W0.heap.size,2,none⟩=some (I6 x.cost)∧z.cell? ⟨Sv,0,none⟩=some (.pointer (some ⟨Sb,0,none⟩)))):=Lib.hid fun W z hb hz=>by
    have m1:=(hMx.keep (KeepX.of_below (by omega) hb)).keep hz
    have m2:=(hk.keep (KeepX.of_below hslt (hbo W hb))).keep hz
    obtain ⟨q0,q1,q2⟩:=cellsAt3 m1.1
    exact ⟨q0,q1,q2,cell_of_one m2.1⟩
  obtain ⟨e0,e1,e2,e3⟩:=hKp.out _ (Below.refl _ _)
  clear hMx hb1 hn hn' hz1 hbo hs hk hc hcx hvv hlen hne hpc hE1 hwx hcW
  show Calls Tryz.prog 15 #[.agg #[.string x.frm, .string x.dst,I6 x.cost], .pointer (some ⟨Sv,0,none⟩)] W0 (SayPost w0 Sb (l++[lineTx (allL [] [x] []) 0]) W0)
  generalize hP:SayPost w0 Sb (l++[lineTx (allL [] [x] []) 0]) W0=P
  replace hP:=Lib.hid hP
  generalize lineTx (allL [] [x] []) 0=TX at *
  have hd:=Lib.hid (Below.refl W0.heap.size W0).drew
  go_enter Tryz.func15,Tryz.ntmps15
  go_upto_region 1 with fail
  clear hW1
  go_region_held3 (fun W'=>W'.cell? ⟨W0.heap.size,0,none⟩=some (.string x.frm)∧W'.cell? ⟨W0.heap.size,1,none⟩=some (.string x.dst)∧W'.cell? ⟨W0.heap.size,2,none⟩=some (I6 x.cost)∧W'.cell? ⟨Sv,0,none⟩=some (.pointer (some ⟨Sb,0,none⟩)))
    (first|exact hHeld|go_keep|exact hS9|exact hKp.out _ hbk)
    (first
      | (go_at_call 10;(with_reducible refine (hsay.out _ hbk _).mono ?_);rintro e wz hZ;obtain ⟨⟨vz,rfl⟩,hSc⟩:=hZ;have hS9:=hKz.out _ _ hbk hSc.2.1;have HP:=Lib.hid (hfin.out _ hbk _ _ _ ⟨⟨vz,rfl⟩,hSc⟩);clear hSc)
      | (go_at_call 16;(with_reducible refine (cP.out _ hbnew.out hnew.out).mono ?_);rintro e wy ⟨rfl,hbB⟩;have hbk:=hbnew.out.trans (hbB.mono hbnew.out.size)))
  all_goals
    go_wp2_with fail
    go_end0
    rw [← hP.out]
    exact ⟨⟨_,rfl⟩,HP.out.2⟩
set_option maxHeartbeats 4000000 in
set_option maxRecDepth 100000 in
theorem a_noSlice (Sv Sb B:Nat)(w0:World)(TT:TypeId)(a:List SliceS):ActSlice w0 Sb B (Mine Sb Sv (.cells #[.pointer (some ⟨Sb,0,none⟩)] TT (0,0))) 19 #[.pointer (some ⟨Sv,0,none⟩)] (fun x=>ba [110,111,32,115,108,105,99,101,32]++x.name) a:=by
  intro W0 l x c hxm hc hs hk hll
  obtain ⟨W1,hW1⟩:∃ W1,W0.alloc (.cells c.toArray 69 (0,0))=W1:=⟨_,rfl⟩
  have hb1:Below W0.heap.size W0 W1:=by rw [← hW1];exact (Below.refl _ _).alloc (Nat.le_refl _) _
  have hn:W1.heap[W0.heap.size]?=some (.cells c.toArray 69 (0,0)):=by rw [← hW1];exact heap_alloc_new W0 _
  have hz1:W1.heap.size=W0.heap.size+1:=by rw [← hW1];simp
  have hslt:=hs.lt
  obtain ⟨Ap,cp,Aw,cw,hform,_⟩:=slice_form hc
  have hn':=hn
  rw [hform] at hn'
  have hbo:∀ W,Below W1.heap.size W1 W→Below W0.heap.size W0 W:=fun W hb=>hb1.trans (hb.mono (by omega))
  have hsay:=Lib.hid fun W hb=>fun s=>d_say s (hs.below (hbo W hb)) hll
  have hfin:=Lib.hid fun W hb=>fun s e w' (h:SayPost w0 Sb (l++[s]) W e w')=>(⟨h.1,h.2.1,(KeepX.of_below hslt (hbo W hb)).trans h.2.2.1,Nat.le_trans (hbo W hb).size h.2.2.2⟩:SayPost w0 Sb (l++[s]) W0 e w')
  have hcx:=Lib.hid fun W (hb:Below W1.heap.size W1 W)=>cellsAt3 ((hb.block W0.heap.size (by omega)).trans hn')
  have hvv:=Lib.hid fun W (hb:Below W1.heap.size W1 W)=>cell_of_one ((hk.keep (KeepX.of_below hslt (hbo W hb))).1)
  have hd0:=Lib.hid (Below.refl W1.heap.size W1)
  have hsm:=(let ⟨_,_,h⟩:=hc;h.2.1)
  subst hform
  have g1:¬ 9223372036854775807<9+(x.name).size:=by have:(x.name).size≤140737488355328:=hsm;omega
  obtain ⟨e0,e1,e2⟩:=hcx.out _ hd0.out
  have e3:=hvv.out _ hd0.out
  replace hsay:=Lib.hid (hsay.out _ hd0.out)
  replace hfin:=Lib.hid (hfin.out _ hd0.out)
  clear hb1 hn hn' hz1 hbo hs hk hc hsm hcx hvv
  show Calls Tryz.prog 19 #[.agg #[.string x.name, .slice Ap x.ports.length cp, .slice Aw x.whr.length cw], .pointer (some ⟨Sv,0,none⟩)] W0 _
  generalize hP:SayPost w0 Sb (l++[ba [110,111,32,115,108,105,99,101,32]++x.name]) W0=P
  replace hP:=Lib.hid hP
  go_enter Tryz.func19,Tryz.ntmps19
  go_wp2_with (go_at_call 10;(with_reducible refine (hsay.out _).mono ?_);rintro e wz ⟨⟨vz,rfl⟩,hSc,hKx,hsz⟩;have HP:=Lib.hid (hfin.out _ _ _ ⟨⟨vz,rfl⟩,hSc,hKx,hsz⟩);clear hSc hKx hsz)
  go_end0
  rw [← hP.out]
  exact ⟨⟨_,rfl⟩,HP.out.2⟩
set_option maxHeartbeats 4000000 in
set_option maxRecDepth 100000 in
theorem a_adSlice (Sv Sb B:Nat)(w0:World)(TT:TypeId)(a:List SliceS)(hE:Env w0)(hw:w0.heap.size≤Sb)(hBS:B≤Sb)(hwr:∀ x∈a,WrS x):ActSlice w0 Sb B (Mine Sb Sv (.cells #[.pointer (some ⟨Sb,0,none⟩)] TT (0,0))) 20 #[.pointer (some ⟨Sv,0,none⟩)] (fun x=>lineTx (allL [] [] [x]) 0) a:=by
  intro W0 l x c hxm hc hs hk hll
  obtain ⟨W1,hW1⟩:∃ W1,W0.alloc (.cells c.toArray 69 (0,0))=W1:=⟨_,rfl⟩
  have hb1:Below W0.heap.size W0 W1:=by rw [← hW1];exact (Below.refl _ _).alloc (Nat.le_refl _) _
  have hn:W1.heap[W0.heap.size]?=some (.cells c.toArray 69 (0,0)):=by rw [← hW1];exact heap_alloc_new W0 _
  have hz1:W1.heap.size=W0.heap.size+1:=by rw [← hW1];simp
  have hslt:=hs.lt
  obtain ⟨Ap,cp,Aw,cw,hform,_⟩:=slice_form hc
  have hn':=hn
  rw [hform] at hn'
  have hbo:∀ W,Below W1.heap.size W1 W→Below W0.heap.size W0 W:=fun W hb=>hb1.trans (hb.mono (by omega))
  have hsay:=Lib.hid fun W hb=>fun s=>d_say s (hs.below (hbo W hb)) hll
  have hfin:=Lib.hid fun W hb=>fun s e w' (h:SayPost w0 Sb (l++[s]) W e w')=>(⟨h.1,h.2.1,(KeepX.of_below hslt (hbo W hb)).trans h.2.2.1,Nat.le_trans (hbo W hb).size h.2.2.2⟩:SayPost w0 Sb (l++[s]) W0 e w')
  have hcx:=Lib.hid fun W (hb:Below W1.heap.size W1 W)=>cellsAt3 ((hb.block W0.heap.size (by omega)).trans hn')
  have hvv:=Lib.hid fun W (hb:Below W1.heap.size W1 W)=>cell_of_one ((hk.keep (KeepX.of_below hslt (hbo W hb))).1)
  have hwx:=hwr x hxm
  have hE1:=hE.below (hs.b.mono hw)
  have hlen:(allL [] [] [x]).length≤16384:=by have:=sliceT_le hwx;simp only [allL,linesL,List.flatMap_nil,List.flatMap_cons,List.append_nil,List.nil_append,List.length_append,List.length_cons,List.length_nil,Array.length_toList];have h2:(sliceT x).data.size≤6800:=this;omega
  have hne:allL [] [] [x]≠[]:=by simp [allL,linesL]
  have hpc:0<(piecesL (allL [] [] [x])).length:=by rw [pieces_len];omega
  have hcW:∀ W,Below W1.heap.size W1 W→SliceC W B c x:=fun W hb=>hc.keep (Nat.le_refl _) (keepB (hbo W hb) (by omega))
  have cP:Hid (∀ (W2:World),Below W1.heap.size W1 W2→W2.heap[W1.heap.size]?=some (.cells #[.string x.name, .slice Ap x.ports.length cp, .slice Aw x.whr.length cw] 69 (0,0))→Calls Tryz.prog 16 #[.agg #[.string ⟨#[]⟩, .slice none 0 0, .string ⟨#[]⟩, .bool false, .slice none 0 0, .slice none 0 0, .slice (some ⟨W1.heap.size,0,none⟩) 1 1], .int .i64 0] W2 (StrW (lineTx (allL [] [] [x]) 0) W2)):=Lib.hid fun W2 hb hn2=>by
    have hl2:=(Array.getElem?_eq_some_iff.1 hn2).1
    refine d_printed [] [] [x] none 0 _ _ _ 0 (W1.heap.size+1) _ slOf_nil slOf_nil (slOf_one hn2 rfl (Nat.lt_succ_self _) ?_) (by omega) (hE1.below (hbo W2 hb)) (by simp) (by simp) (by intro b hb;rw [List.mem_singleton.1 hb];exact hwx) hlen hne hpc
    have h9:=hcW W2 hb
    rw [hform] at h9
    exact h9.keep (by omega) fun _ _ _=>rfl
  subst hform
  have hnew:=Lib.hid (show (W1.alloc (.cells #[.string x.name, .slice Ap x.ports.length cp, .slice Aw x.whr.length cw] 69 (0,0))).drew.heap[W1.heap.size]?=some (.cells #[.string x.name, .slice Ap x.ports.length cp, .slice Aw x.whr.length cw] 69 (0,0)) from heap_alloc_new W1 _)
  have hbnew:=Lib.hid (show Below W1.heap.size W1 (W1.alloc (.cells #[.string x.name, .slice Ap x.ports.length cp, .slice Aw x.whr.length cw] 69 (0,0))).drew from ((Below.refl W1.heap.size W1).alloc (Nat.le_refl _) _).drew)
  have hKp:=Lib.hid fun W hb=>(⟨(hcx.out W hb).1,(hcx.out W hb).2.1,(hcx.out W hb).2.2,hvv.out W hb⟩:W.cell? ⟨W0.heap.size,0,none⟩=some (.string x.name)∧W.cell? ⟨W0.heap.size,1,none⟩=some (.slice Ap x.ports.length cp)∧W.cell? ⟨W0.heap.size,2,none⟩=some (.slice Aw x.whr.length cw)∧W.cell? ⟨Sv,0,none⟩=some (.pointer (some ⟨Sb,0,none⟩)))
  have hMx:Mine Sb W0.heap.size (.cells #[.string x.name, .slice Ap x.ports.length cp, .slice Aw x.whr.length cw] 69 (0,0)) W1:=hs.mine (by rw [hW1];exact Below.refl _ _)
  have hKz:Hid (∀ W z,Below W1.heap.size W1 W→KeepX Sb W z→(z.cell? ⟨W0.heap.size,0,none⟩=some (.string x.name)∧z.cell? ⟨W0.heap.size,1,none⟩=some (.slice Ap x.ports.length cp)∧z.cell? ⟨W0.heap.size,2,none⟩=some (.slice Aw x.whr.length cw)∧z.cell? ⟨Sv,0,none⟩=some (.pointer (some ⟨Sb,0,none⟩)))):=Lib.hid fun W z hb hz=>by
    have m1:=(hMx.keep (KeepX.of_below (by omega) hb)).keep hz
    have m2:=(hk.keep (KeepX.of_below hslt (hbo W hb))).keep hz
    obtain ⟨q0,q1,q2⟩:=cellsAt3 m1.1
    exact ⟨q0,q1,q2,cell_of_one m2.1⟩
  obtain ⟨e0,e1,e2,e3⟩:=hKp.out _ (Below.refl _ _)
  clear hMx hb1 hn hn' hz1 hbo hs hk hc hcx hvv hlen hne hpc hE1 hwx hcW
  show Calls Tryz.prog 20 #[.agg #[.string x.name, .slice Ap x.ports.length cp, .slice Aw x.whr.length cw], .pointer (some ⟨Sv,0,none⟩)] W0 (SayPost w0 Sb (l++[lineTx (allL [] [] [x]) 0]) W0)
  generalize hP:SayPost w0 Sb (l++[lineTx (allL [] [] [x]) 0]) W0=P
  replace hP:=Lib.hid hP
  generalize lineTx (allL [] [] [x]) 0=TX at *
  have hd:=Lib.hid (Below.refl W0.heap.size W0).drew
  go_enter Tryz.func20,Tryz.ntmps20
  go_upto_region 1 with fail
  clear hW1
  go_region_held3 (fun W'=>W'.cell? ⟨W0.heap.size,0,none⟩=some (.string x.name)∧W'.cell? ⟨W0.heap.size,1,none⟩=some (.slice Ap x.ports.length cp)∧W'.cell? ⟨W0.heap.size,2,none⟩=some (.slice Aw x.whr.length cw)∧W'.cell? ⟨Sv,0,none⟩=some (.pointer (some ⟨Sb,0,none⟩)))
    (first|exact hHeld|go_keep|exact hS9|exact hKp.out _ hbk)
    (first
      | (go_at_call 10;(with_reducible refine (hsay.out _ hbk _).mono ?_);rintro e wz hZ;obtain ⟨⟨vz,rfl⟩,hSc⟩:=hZ;have hS9:=hKz.out _ _ hbk hSc.2.1;have HP:=Lib.hid (hfin.out _ hbk _ _ _ ⟨⟨vz,rfl⟩,hSc⟩);clear hSc)
      | (go_at_call 16;(with_reducible refine (cP.out _ hbnew.out hnew.out).mono ?_);rintro e wy ⟨rfl,hbB⟩;have hbk:=hbnew.out.trans (hbB.mono hbnew.out.size)))
  all_goals
    go_wp2_with fail
    go_end0
    rw [← hP.out]
    exact ⟨⟨_,rfl⟩,HP.out.2⟩
set_option maxHeartbeats 4000000 in
set_option maxRecDepth 100000 in
theorem a_adRule (S3 S4 Sb B:Nat)(w0:World)(K:World→Prop)(hK:Steady Sb K)(nm:ByteArray)(hkc:∀ W,K W→W.cell? ⟨S3,0,none⟩=some (.pointer (some ⟨Sb,0,none⟩))∧W.cell? ⟨S4,0,none⟩=some (.string nm))(hg:goodN nm=true)(a:List RuleS)(hE:Env w0)(hw:w0.heap.size≤Sb)(hBS:B≤Sb)(hwr:∀ x∈a,WrR x) :
    ActRule w0 Sb B K 33 #[.pointer (some ⟨S3,0,none⟩), .pointer (some ⟨S4,0,none⟩)] (fun x=>bodyT ⟨nm,[],[],[],[x],[],[]⟩) a:=by
  intro W0 l x c hxm hc hs hk hll
  obtain ⟨W1,hW1⟩:∃ W1,W0.alloc (.cells c.toArray 51 (0,0))=W1:=⟨_,rfl⟩
  have hb1:Below W0.heap.size W0 W1:=by rw [← hW1];exact (Below.refl _ _).alloc (Nat.le_refl _) _
  have hn:W1.heap[W0.heap.size]?=some (.cells c.toArray 51 (0,0)):=by rw [← hW1];exact heap_alloc_new W0 _
  have hz1:W1.heap.size=W0.heap.size+1:=by rw [← hW1];simp
  have hslt:=hs.lt
  obtain ⟨Af,cf,Am,cm,As,cq,At,ct,hform,_⟩:=rule_form hc
  have hn':=hn
  rw [hform] at hn'
  have hbo:∀ W,Below W1.heap.size W1 W→Below W0.heap.size W0 W:=fun W hb=>hb1.trans (hb.mono (by omega))
  have hsay:=Lib.hid fun W hb=>fun s=>d_say s (hs.below (hbo W hb)) hll
  have hfin:=Lib.hid fun W hb=>fun s e w' (h:SayPost w0 Sb (l++[s]) W e w')=>(⟨h.1,h.2.1,(KeepX.of_below hslt (hbo W hb)).trans h.2.2.1,Nat.le_trans (hbo W hb).size h.2.2.2⟩:SayPost w0 Sb (l++[s]) W0 e w')
  have hcx:=Lib.hid fun W (hb:Below W1.heap.size W1 W)=>cells5 ((hb.block W0.heap.size (by omega)).trans hn')
  have hvv:=Lib.hid fun W (hb:Below W1.heap.size W1 W)=>hkc W (hK _ _ hk (KeepX.of_below hslt (hbo W hb)))
  have hwx:=hwr x hxm
  have hE1:=hE.below (hs.b.mono hw)
  have hnm:=(goodN_le hg).2
  have hlen:(allL [⟨nm,[],[],[],[x],[],[]⟩] [] []).length≤16384:=by
    have h2:(ruleT x).size≤6300:=ruleT_le hwx
    simp [allL,linesL,boxL,ba_size]
    omega
  have hcW:∀ W,Below W1.heap.size W1 W→RuleC W B c x:=fun W hb=>hc.keep (Nat.le_refl _) (keepB (hbo W hb) (by omega))
  have cP:Hid (∀ (W2:World),Below W1.heap.size W1 W2→W2.heap[W1.heap.size]?=some (.cells #[I6 x.prio, .slice Af x.frm.length cf, .slice Am x.mat.length cm, .slice As x.sets.length cq, .slice At x.dst.length ct] 51 (0,0))→Calls Tryz.prog 34 #[.agg #[.string nm, .slice none 0 0, .slice none 0 0, .slice none 0 0, .slice (some ⟨W1.heap.size,0,none⟩) 1 1, .slice none 0 0, .slice none 0 0]] W2 (StrW (bodyT ⟨nm,[],[],[],[x],[],[]⟩) W2)):=Lib.hid fun W2 hb hn2=>by
    have hl2:=(Array.getElem?_eq_some_iff.1 hn2).1
    have h9:=hcW W2 hb
    rw [hform] at h9
    replace h9:RuleC W2 (W1.heap.size+1) [I6 x.prio, .slice Af x.frm.length cf, .slice Am x.mat.length cm, .slice As x.sets.length cq, .slice At x.dst.length ct] x:=h9.keep (by omega) fun _ _ _=>rfl
    refine d_body ⟨nm,[],[],[],[x],[],[]⟩ [.string nm, .slice none 0 0, .slice none 0 0, .slice none 0 0, .slice (some ⟨W1.heap.size,0,none⟩) 1 1, .slice none 0 0, .slice none 0 0] (W1.heap.size+1) W2 ⟨_,_,_,_,_,_,rfl,by show nm.size≤_;omega,slOf_nil,slOf_nil,slOf_nil,(slOf_one hn2 rfl (Nat.lt_succ_self _) h9),slOf_nil,slOf_nil⟩ (by omega) (hE1.below (hbo W2 hb)) ?_ hlen
    exact ⟨rfl,rfl,hg,by simp,by intro u hu;rw [List.mem_singleton.1 hu];exact hwx,by simp,by simp⟩
  subst hform
  have hnew:=Lib.hid (show (W1.alloc (.cells #[I6 x.prio, .slice Af x.frm.length cf, .slice Am x.mat.length cm, .slice As x.sets.length cq, .slice At x.dst.length ct] 51 (0,0))).drew.heap[W1.heap.size]?=some (.cells #[I6 x.prio, .slice Af x.frm.length cf, .slice Am x.mat.length cm, .slice As x.sets.length cq, .slice At x.dst.length ct] 51 (0,0)) from heap_alloc_new W1 _)
  have hbnew:=Lib.hid (show Below W1.heap.size W1 (W1.alloc (.cells #[I6 x.prio, .slice Af x.frm.length cf, .slice Am x.mat.length cm, .slice As x.sets.length cq, .slice At x.dst.length ct] 51 (0,0))).drew from ((Below.refl W1.heap.size W1).alloc (Nat.le_refl _) _).drew)
  have hKp:=Lib.hid fun W hb=>(⟨(hcx.out W hb).1,(hcx.out W hb).2.1,(hcx.out W hb).2.2.1,(hcx.out W hb).2.2.2.1,(hcx.out W hb).2.2.2.2,(hvv.out W hb).1,(hvv.out W hb).2⟩:W.cell? ⟨W0.heap.size,0,none⟩=some (I6 x.prio)∧W.cell? ⟨W0.heap.size,1,none⟩=some (.slice Af x.frm.length cf)∧W.cell? ⟨W0.heap.size,2,none⟩=some (.slice Am x.mat.length cm)∧W.cell? ⟨W0.heap.size,3,none⟩=some (.slice As x.sets.length cq)∧W.cell? ⟨W0.heap.size,4,none⟩=some (.slice At x.dst.length ct)∧W.cell? ⟨S3,0,none⟩=some (.pointer (some ⟨Sb,0,none⟩))∧W.cell? ⟨S4,0,none⟩=some (.string nm))
  have hMx:Mine Sb W0.heap.size (.cells #[I6 x.prio, .slice Af x.frm.length cf, .slice Am x.mat.length cm, .slice As x.sets.length cq, .slice At x.dst.length ct] 51 (0,0)) W1:=hs.mine (by rw [hW1];exact Below.refl _ _)
  have hKz:Hid (∀ W z,Below W1.heap.size W1 W→KeepX Sb W z→(z.cell? ⟨W0.heap.size,0,none⟩=some (I6 x.prio)∧z.cell? ⟨W0.heap.size,1,none⟩=some (.slice Af x.frm.length cf)∧z.cell? ⟨W0.heap.size,2,none⟩=some (.slice Am x.mat.length cm)∧z.cell? ⟨W0.heap.size,3,none⟩=some (.slice As x.sets.length cq)∧z.cell? ⟨W0.heap.size,4,none⟩=some (.slice At x.dst.length ct)∧z.cell? ⟨S3,0,none⟩=some (.pointer (some ⟨Sb,0,none⟩))∧z.cell? ⟨S4,0,none⟩=some (.string nm))):=Lib.hid fun W z hb hz=>by
    have m1:=(hMx.keep (KeepX.of_below (by omega) hb)).keep hz
    have m2:=hkc z (hK _ _ (hK _ _ hk (KeepX.of_below hslt (hbo W hb))) hz)
    obtain ⟨q0,q1,q2,q3,q4⟩:=cells5 m1.1
    exact ⟨q0,q1,q2,q3,q4,m2.1,m2.2⟩
  obtain ⟨e0,e1,e2,e3,e4,e5,e6⟩:=hKp.out _ (Below.refl _ _)
  clear hMx hb1 hn hn' hz1 hbo hs hk hc hcx hvv hlen hE1 hwx hcW
  show Calls Tryz.prog 33 #[.agg #[I6 x.prio, .slice Af x.frm.length cf, .slice Am x.mat.length cm, .slice As x.sets.length cq, .slice At x.dst.length ct], .pointer (some ⟨S3,0,none⟩), .pointer (some ⟨S4,0,none⟩)] W0 (SayPost w0 Sb (l++[bodyT ⟨nm,[],[],[],[x],[],[]⟩]) W0)
  generalize hP:SayPost w0 Sb (l++[bodyT ⟨nm,[],[],[],[x],[],[]⟩]) W0=P
  replace hP:=Lib.hid hP
  generalize bodyT ⟨nm,[],[],[],[x],[],[]⟩=TX at *
  have hd:=Lib.hid (Below.refl W0.heap.size W0).drew
  go_enter Tryz.func33,Tryz.ntmps33
  go_upto_region 1 with fail
  clear hW1
  go_region_held3 (fun W'=>W'.cell? ⟨W0.heap.size,0,none⟩=some (I6 x.prio)∧W'.cell? ⟨W0.heap.size,1,none⟩=some (.slice Af x.frm.length cf)∧W'.cell? ⟨W0.heap.size,2,none⟩=some (.slice Am x.mat.length cm)∧W'.cell? ⟨W0.heap.size,3,none⟩=some (.slice As x.sets.length cq)∧W'.cell? ⟨W0.heap.size,4,none⟩=some (.slice At x.dst.length ct)∧W'.cell? ⟨S3,0,none⟩=some (.pointer (some ⟨Sb,0,none⟩))∧W'.cell? ⟨S4,0,none⟩=some (.string nm))
    (first|exact hHeld|go_keep|exact hS9|exact hKp.out _ hbk)
    (first
      | (go_at_call 10;(with_reducible refine (hsay.out _ hbk _).mono ?_);rintro e wz hZ;obtain ⟨⟨vz,rfl⟩,hSc⟩:=hZ;have hS9:=hKz.out _ _ hbk hSc.2.1;have HP:=Lib.hid (hfin.out _ hbk _ _ _ ⟨⟨vz,rfl⟩,hSc⟩);clear hSc)
      | (go_at_call 34;(with_reducible refine (cP.out _ hbnew.out hnew.out).mono ?_);rintro e wy ⟨rfl,hbB⟩;have hbk:=hbnew.out.trans (hbB.mono hbnew.out.size)))
  all_goals
    go_wp2_with fail
    go_end0
    rw [← hP.out]
    exact ⟨⟨_,rfl⟩,HP.out.2⟩
set_option maxHeartbeats 4000000 in
set_option maxRecDepth 100000 in
theorem a_adOwn (S3 S4 Sb B:Nat)(w0:World)(K:World→Prop)(hK:Steady Sb K)(nm:ByteArray)(hkc:∀ W,K W→W.cell? ⟨S3,0,none⟩=some (.pointer (some ⟨Sb,0,none⟩))∧W.cell? ⟨S4,0,none⟩=some (.string nm))(hg:goodN nm=true)(a:List PrefS)(hE:Env w0)(hw:w0.heap.size≤Sb)(hBS:B≤Sb)(hwr:∀ x∈a,WrP x) :
    ActPref w0 Sb B K 39 #[.pointer (some ⟨S3,0,none⟩), .pointer (some ⟨S4,0,none⟩)] (fun x=>bodyT ⟨nm,[],[],[],[],[x],[]⟩) a:=by
  intro W0 l x c hxm hc hs hk hll
  obtain ⟨W1,hW1⟩:∃ W1,W0.alloc (.cells c.toArray 79 (0,0))=W1:=⟨_,rfl⟩
  have hb1:Below W0.heap.size W0 W1:=by rw [← hW1];exact (Below.refl _ _).alloc (Nat.le_refl _) _
  have hn:W1.heap[W0.heap.size]?=some (.cells c.toArray 79 (0,0)):=by rw [← hW1];exact heap_alloc_new W0 _
  have hz1:W1.heap.size=W0.heap.size+1:=by rw [← hW1];simp
  have hslt:=hs.lt
  have hform:c=[I6 x.value,I6 x.len, .string x.dst]:=hc.1
  have hn':=hn
  rw [hform] at hn'
  have hbo:∀ W,Below W1.heap.size W1 W→Below W0.heap.size W0 W:=fun W hb=>hb1.trans (hb.mono (by omega))
  have hsay:=Lib.hid fun W hb=>fun s=>d_say s (hs.below (hbo W hb)) hll
  have hfin:=Lib.hid fun W hb=>fun s e w' (h:SayPost w0 Sb (l++[s]) W e w')=>(⟨h.1,h.2.1,(KeepX.of_below hslt (hbo W hb)).trans h.2.2.1,Nat.le_trans (hbo W hb).size h.2.2.2⟩:SayPost w0 Sb (l++[s]) W0 e w')
  have hcx:=Lib.hid fun W (hb:Below W1.heap.size W1 W)=>cellsAt3 ((hb.block W0.heap.size (by omega)).trans hn')
  have hvv:=Lib.hid fun W (hb:Below W1.heap.size W1 W)=>hkc W (hK _ _ hk (KeepX.of_below hslt (hbo W hb)))
  have hwx:=hwr x hxm
  have hE1:=hE.below (hs.b.mono hw)
  have hnm:=(goodN_le hg).2
  have hlen:(allL [⟨nm,[],[],[],[],[x],[]⟩] [] []).length≤16384:=by
    have h2:(prefT x).size≤60:=prefT_le hwx
    simp [allL,linesL,boxL,ba_size]
    omega
  have hcW:∀ W,Below W1.heap.size W1 W→PrefC W B c x:=fun W hb=>hc
  have cP:Hid (∀ (W2:World),Below W1.heap.size W1 W2→W2.heap[W1.heap.size]?=some (.cells #[I6 x.value,I6 x.len, .string x.dst] 79 (0,0))→Calls Tryz.prog 34 #[.agg #[.string nm, .slice none 0 0, .slice none 0 0, .slice none 0 0, .slice none 0 0, .slice (some ⟨W1.heap.size,0,none⟩) 1 1, .slice none 0 0]] W2 (StrW (bodyT ⟨nm,[],[],[],[],[x],[]⟩) W2)):=Lib.hid fun W2 hb hn2=>by
    have hl2:=(Array.getElem?_eq_some_iff.1 hn2).1
    have h9:=hcW W2 hb
    rw [hform] at h9
    replace h9:PrefC W2 (W1.heap.size+1) [I6 x.value,I6 x.len, .string x.dst] x:=h9
    refine d_body ⟨nm,[],[],[],[],[x],[]⟩ [.string nm, .slice none 0 0, .slice none 0 0, .slice none 0 0, .slice none 0 0, .slice (some ⟨W1.heap.size,0,none⟩) 1 1, .slice none 0 0] (W1.heap.size+1) W2 ⟨_,_,_,_,_,_,rfl,by show nm.size≤_;omega,slOf_nil,slOf_nil,slOf_nil,slOf_nil,(slOf_one hn2 rfl (Nat.lt_succ_self _) h9),slOf_nil⟩ (by omega) (hE1.below (hbo W2 hb)) ?_ hlen
    exact ⟨rfl,rfl,hg,by simp,by simp,by intro u hu;rw [List.mem_singleton.1 hu];exact hwx,by simp⟩
  subst hform
  have hnew:=Lib.hid (show (W1.alloc (.cells #[I6 x.value,I6 x.len, .string x.dst] 79 (0,0))).drew.heap[W1.heap.size]?=some (.cells #[I6 x.value,I6 x.len, .string x.dst] 79 (0,0)) from heap_alloc_new W1 _)
  have hbnew:=Lib.hid (show Below W1.heap.size W1 (W1.alloc (.cells #[I6 x.value,I6 x.len, .string x.dst] 79 (0,0))).drew from ((Below.refl W1.heap.size W1).alloc (Nat.le_refl _) _).drew)
  have hKp:=Lib.hid fun W hb=>(⟨(hcx.out W hb).1,(hcx.out W hb).2.1,(hcx.out W hb).2.2,(hvv.out W hb).1,(hvv.out W hb).2⟩:W.cell? ⟨W0.heap.size,0,none⟩=some (I6 x.value)∧W.cell? ⟨W0.heap.size,1,none⟩=some (I6 x.len)∧W.cell? ⟨W0.heap.size,2,none⟩=some (.string x.dst)∧W.cell? ⟨S3,0,none⟩=some (.pointer (some ⟨Sb,0,none⟩))∧W.cell? ⟨S4,0,none⟩=some (.string nm))
  have hMx:Mine Sb W0.heap.size (.cells #[I6 x.value,I6 x.len, .string x.dst] 79 (0,0)) W1:=hs.mine (by rw [hW1];exact Below.refl _ _)
  have hKz:Hid (∀ W z,Below W1.heap.size W1 W→KeepX Sb W z→(z.cell? ⟨W0.heap.size,0,none⟩=some (I6 x.value)∧z.cell? ⟨W0.heap.size,1,none⟩=some (I6 x.len)∧z.cell? ⟨W0.heap.size,2,none⟩=some (.string x.dst)∧z.cell? ⟨S3,0,none⟩=some (.pointer (some ⟨Sb,0,none⟩))∧z.cell? ⟨S4,0,none⟩=some (.string nm))):=Lib.hid fun W z hb hz=>by
    have m1:=(hMx.keep (KeepX.of_below (by omega) hb)).keep hz
    have m2:=hkc z (hK _ _ (hK _ _ hk (KeepX.of_below hslt (hbo W hb))) hz)
    obtain ⟨q0,q1,q2⟩:=cellsAt3 m1.1
    exact ⟨q0,q1,q2,m2.1,m2.2⟩
  obtain ⟨e0,e1,e2,e3,e4⟩:=hKp.out _ (Below.refl _ _)
  clear hMx hb1 hn hn' hz1 hbo hs hk hc hcx hvv hlen hE1 hwx hcW
  show Calls Tryz.prog 39 #[.agg #[I6 x.value,I6 x.len, .string x.dst], .pointer (some ⟨S3,0,none⟩), .pointer (some ⟨S4,0,none⟩)] W0 (SayPost w0 Sb (l++[bodyT ⟨nm,[],[],[],[],[x],[]⟩]) W0)
  generalize hP:SayPost w0 Sb (l++[bodyT ⟨nm,[],[],[],[],[x],[]⟩]) W0=P
  replace hP:=Lib.hid hP
  generalize bodyT ⟨nm,[],[],[],[],[x],[]⟩=TX at *
  have hd:=Lib.hid (Below.refl W0.heap.size W0).drew
  go_enter Tryz.func39,Tryz.ntmps39
  go_upto_region 1 with fail
  clear hW1
  go_region_held3 (fun W'=>W'.cell? ⟨W0.heap.size,0,none⟩=some (I6 x.value)∧W'.cell? ⟨W0.heap.size,1,none⟩=some (I6 x.len)∧W'.cell? ⟨W0.heap.size,2,none⟩=some (.string x.dst)∧W'.cell? ⟨S3,0,none⟩=some (.pointer (some ⟨Sb,0,none⟩))∧W'.cell? ⟨S4,0,none⟩=some (.string nm))
    (first|exact hHeld|go_keep|exact hS9|exact hKp.out _ hbk)
    (first
      | (go_at_call 10;(with_reducible refine (hsay.out _ hbk _).mono ?_);rintro e wz hZ;obtain ⟨⟨vz,rfl⟩,hSc⟩:=hZ;have hS9:=hKz.out _ _ hbk hSc.2.1;have HP:=Lib.hid (hfin.out _ hbk _ _ _ ⟨⟨vz,rfl⟩,hSc⟩);clear hSc)
      | (go_at_call 34;(with_reducible refine (cP.out _ hbnew.out hnew.out).mono ?_);rintro e wy ⟨rfl,hbB⟩;have hbk:=hbnew.out.trans (hbB.mono hbnew.out.size)))
  all_goals
    go_wp2_with fail
    go_end0
    rw [← hP.out]
    exact ⟨⟨_,rfl⟩,HP.out.2⟩
set_option maxHeartbeats 4000000 in
set_option maxRecDepth 100000 in
theorem a_adRoute (S3 S4 Sb B:Nat)(w0:World)(K:World→Prop)(hK:Steady Sb K)(nm:ByteArray)(hkc:∀ W,K W→W.cell? ⟨S3,0,none⟩=some (.pointer (some ⟨Sb,0,none⟩))∧W.cell? ⟨S4,0,none⟩=some (.string nm))(hg:goodN nm=true)(a:List PrefS)(hE:Env w0)(hw:w0.heap.size≤Sb)(hBS:B≤Sb)(hwr:∀ x∈a,WrP x) :
    ActPref w0 Sb B K 41 #[.pointer (some ⟨S3,0,none⟩), .pointer (some ⟨S4,0,none⟩)] (fun x=>bodyT ⟨nm,[],[],[],[],[],[x]⟩) a:=by
  intro W0 l x c hxm hc hs hk hll
  obtain ⟨W1,hW1⟩:∃ W1,W0.alloc (.cells c.toArray 79 (0,0))=W1:=⟨_,rfl⟩
  have hb1:Below W0.heap.size W0 W1:=by rw [← hW1];exact (Below.refl _ _).alloc (Nat.le_refl _) _
  have hn:W1.heap[W0.heap.size]?=some (.cells c.toArray 79 (0,0)):=by rw [← hW1];exact heap_alloc_new W0 _
  have hz1:W1.heap.size=W0.heap.size+1:=by rw [← hW1];simp
  have hslt:=hs.lt
  have hform:c=[I6 x.value,I6 x.len, .string x.dst]:=hc.1
  have hn':=hn
  rw [hform] at hn'
  have hbo:∀ W,Below W1.heap.size W1 W→Below W0.heap.size W0 W:=fun W hb=>hb1.trans (hb.mono (by omega))
  have hsay:=Lib.hid fun W hb=>fun s=>d_say s (hs.below (hbo W hb)) hll
  have hfin:=Lib.hid fun W hb=>fun s e w' (h:SayPost w0 Sb (l++[s]) W e w')=>(⟨h.1,h.2.1,(KeepX.of_below hslt (hbo W hb)).trans h.2.2.1,Nat.le_trans (hbo W hb).size h.2.2.2⟩:SayPost w0 Sb (l++[s]) W0 e w')
  have hcx:=Lib.hid fun W (hb:Below W1.heap.size W1 W)=>cellsAt3 ((hb.block W0.heap.size (by omega)).trans hn')
  have hvv:=Lib.hid fun W (hb:Below W1.heap.size W1 W)=>hkc W (hK _ _ hk (KeepX.of_below hslt (hbo W hb)))
  have hwx:=hwr x hxm
  have hE1:=hE.below (hs.b.mono hw)
  have hnm:=(goodN_le hg).2
  have hlen:(allL [⟨nm,[],[],[],[],[],[x]⟩] [] []).length≤16384:=by
    have h2:(prefT x).size≤60:=prefT_le hwx
    simp [allL,linesL,boxL,ba_size]
    omega
  have hcW:∀ W,Below W1.heap.size W1 W→PrefC W B c x:=fun W hb=>hc
  have cP:Hid (∀ (W2:World),Below W1.heap.size W1 W2→W2.heap[W1.heap.size]?=some (.cells #[I6 x.value,I6 x.len, .string x.dst] 79 (0,0))→Calls Tryz.prog 34 #[.agg #[.string nm, .slice none 0 0, .slice none 0 0, .slice none 0 0, .slice none 0 0, .slice none 0 0, .slice (some ⟨W1.heap.size,0,none⟩) 1 1]] W2 (StrW (bodyT ⟨nm,[],[],[],[],[],[x]⟩) W2)):=Lib.hid fun W2 hb hn2=>by
    have hl2:=(Array.getElem?_eq_some_iff.1 hn2).1
    have h9:=hcW W2 hb
    rw [hform] at h9
    replace h9:PrefC W2 (W1.heap.size+1) [I6 x.value,I6 x.len, .string x.dst] x:=h9
    refine d_body ⟨nm,[],[],[],[],[],[x]⟩ [.string nm, .slice none 0 0, .slice none 0 0, .slice none 0 0, .slice none 0 0, .slice none 0 0, .slice (some ⟨W1.heap.size,0,none⟩) 1 1] (W1.heap.size+1) W2 ⟨_,_,_,_,_,_,rfl,by show nm.size≤_;omega,slOf_nil,slOf_nil,slOf_nil,slOf_nil,slOf_nil,(slOf_one hn2 rfl (Nat.lt_succ_self _) h9)⟩ (by omega) (hE1.below (hbo W2 hb)) ?_ hlen
    exact ⟨rfl,rfl,hg,by simp,by simp,by simp,by intro u hu;rw [List.mem_singleton.1 hu];exact hwx⟩
  subst hform
  have hnew:=Lib.hid (show (W1.alloc (.cells #[I6 x.value,I6 x.len, .string x.dst] 79 (0,0))).drew.heap[W1.heap.size]?=some (.cells #[I6 x.value,I6 x.len, .string x.dst] 79 (0,0)) from heap_alloc_new W1 _)
  have hbnew:=Lib.hid (show Below W1.heap.size W1 (W1.alloc (.cells #[I6 x.value,I6 x.len, .string x.dst] 79 (0,0))).drew from ((Below.refl W1.heap.size W1).alloc (Nat.le_refl _) _).drew)
  have hKp:=Lib.hid fun W hb=>(⟨(hcx.out W hb).1,(hcx.out W hb).2.1,(hcx.out W hb).2.2,(hvv.out W hb).1,(hvv.out W hb).2⟩:W.cell? ⟨W0.heap.size,0,none⟩=some (I6 x.value)∧W.cell? ⟨W0.heap.size,1,none⟩=some (I6 x.len)∧W.cell? ⟨W0.heap.size,2,none⟩=some (.string x.dst)∧W.cell? ⟨S3,0,none⟩=some (.pointer (some ⟨Sb,0,none⟩))∧W.cell? ⟨S4,0,none⟩=some (.string nm))
  have hMx:Mine Sb W0.heap.size (.cells #[I6 x.value,I6 x.len, .string x.dst] 79 (0,0)) W1:=hs.mine (by rw [hW1];exact Below.refl _ _)
  have hKz:Hid (∀ W z,Below W1.heap.size W1 W→KeepX Sb W z→(z.cell? ⟨W0.heap.size,0,none⟩=some (I6 x.value)∧z.cell? ⟨W0.heap.size,1,none⟩=some (I6 x.len)∧z.cell? ⟨W0.heap.size,2,none⟩=some (.string x.dst)∧z.cell? ⟨S3,0,none⟩=some (.pointer (some ⟨Sb,0,none⟩))∧z.cell? ⟨S4,0,none⟩=some (.string nm))):=Lib.hid fun W z hb hz=>by
    have m1:=(hMx.keep (KeepX.of_below (by omega) hb)).keep hz
    have m2:=hkc z (hK _ _ (hK _ _ hk (KeepX.of_below hslt (hbo W hb))) hz)
    obtain ⟨q0,q1,q2⟩:=cellsAt3 m1.1
    exact ⟨q0,q1,q2,m2.1,m2.2⟩
  obtain ⟨e0,e1,e2,e3,e4⟩:=hKp.out _ (Below.refl _ _)
  clear hMx hb1 hn hn' hz1 hbo hs hk hc hcx hvv hlen hE1 hwx hcW
  show Calls Tryz.prog 41 #[.agg #[I6 x.value,I6 x.len, .string x.dst], .pointer (some ⟨S3,0,none⟩), .pointer (some ⟨S4,0,none⟩)] W0 (SayPost w0 Sb (l++[bodyT ⟨nm,[],[],[],[],[],[x]⟩]) W0)
  generalize hP:SayPost w0 Sb (l++[bodyT ⟨nm,[],[],[],[],[],[x]⟩]) W0=P
  replace hP:=Lib.hid hP
  generalize bodyT ⟨nm,[],[],[],[],[],[x]⟩=TX at *
  have hd:=Lib.hid (Below.refl W0.heap.size W0).drew
  go_enter Tryz.func41,Tryz.ntmps41
  go_upto_region 1 with fail
  clear hW1
  go_region_held3 (fun W'=>W'.cell? ⟨W0.heap.size,0,none⟩=some (I6 x.value)∧W'.cell? ⟨W0.heap.size,1,none⟩=some (I6 x.len)∧W'.cell? ⟨W0.heap.size,2,none⟩=some (.string x.dst)∧W'.cell? ⟨S3,0,none⟩=some (.pointer (some ⟨Sb,0,none⟩))∧W'.cell? ⟨S4,0,none⟩=some (.string nm))
    (first|exact hHeld|go_keep|exact hS9|exact hKp.out _ hbk)
    (first
      | (go_at_call 10;(with_reducible refine (hsay.out _ hbk _).mono ?_);rintro e wz hZ;obtain ⟨⟨vz,rfl⟩,hSc⟩:=hZ;have hS9:=hKz.out _ _ hbk hSc.2.1;have HP:=Lib.hid (hfin.out _ hbk _ _ _ ⟨⟨vz,rfl⟩,hSc⟩);clear hSc)
      | (go_at_call 34;(with_reducible refine (cP.out _ hbnew.out hnew.out).mono ?_);rintro e wy ⟨rfl,hbB⟩;have hbk:=hbnew.out.trans (hbB.mono hbnew.out.size)))
  all_goals
    go_wp2_with fail
    go_end0
    rw [← hP.out]
    exact ⟨⟨_,rfl⟩,HP.out.2⟩
end Go.Proofs.YtdhehcobnbcmdaaGreatDoor
