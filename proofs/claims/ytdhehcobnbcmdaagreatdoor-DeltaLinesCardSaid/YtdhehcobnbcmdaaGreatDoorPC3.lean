/- A part of the proof of DeltaLines: Cls3. -/
import Derived.Test.YtdhehcobnbcmdaaGreatDoorPC1
set_option linter.all false
namespace Go.Proofs.YtdhehcobnbcmdaaGreatDoor
open Go.RowKit
theorem itoa_w (v:Int)(w:World)(h0 : -9223372036854775808≤v)(h1:v≤9223372036854775807)(E:Env w):Calls Tryz.prog 21 #[.int .i64 v] w (StrW (itoaB v) w):=by
  refine (Tryz.strconv_Itoa v (by omega) (by omega) w E.pow).mono ?_
  rintro e w2 ⟨rfl,k,os,hw⟩
  exact ⟨rfl,hw▸below_os w k os⟩
theorem itoaB_le (v:Int)(h0:0≤v)(h1:v≤4294967295):(itoaB v).size≤100:=by
  have:=itoa_any (n:=v) ⟨by omega,by omega⟩
  have h:(itoaB v).size=(Lib.itoa v).length:=by simp [itoaB,ByteArray.size]
  omega
def prefN (x:PrefS):ByteArray:=(itoaB x.value++ba [47])++itoaB x.len
theorem prefN_le {x:PrefS}(h:WrP x):(prefN x).size≤100:=by
  have h1:=itoa_any (n:=x.value) ⟨by have:=h.value;omega,by have:=h.value;omega⟩
  have h2:=itoa_any (n:=x.len) ⟨by have:=h.len;omega,by have:=h.len;omega⟩
  have e1:(itoaB x.value).size=(Lib.itoa x.value).length:=by simp [itoaB,ByteArray.size]
  have e2:(itoaB x.len).size=(Lib.itoa x.len).length:=by simp [itoaB,ByteArray.size]
  unfold prefN
  simp only [ByteArray.size_append,ba_size,List.length_cons,List.length_nil]
  omega
set_option maxHeartbeats 4000000 in
set_option maxRecDepth 100000 in
theorem c_prefN (x:PrefS)(w:World)(h:WrP x)(E:Env w):Calls Tryz.prog 36 #[.agg #[I6 x.value,I6 x.len, .string x.dst]] w (StrW (prefN x) w):=by
  obtain ⟨W1,hW1⟩:∃ W1,w.alloc (.cells #[I6 x.value,I6 x.len, .string x.dst] 79 (0,0))=W1:=⟨_,rfl⟩
  have hb1:Below w.heap.size w W1:=by rw [← hW1];exact (Below.refl _ _).alloc (Nat.le_refl _) _
  have hn:W1.heap[w.heap.size]?=some (.cells #[I6 x.value,I6 x.len, .string x.dst] 79 (0,0)):=by rw [← hW1];exact heap_alloc_new w _
  have hz1:W1.heap.size=w.heap.size+1:=by rw [← hW1];simp
  have hbo:=Lib.hid fun W (hb:Below W1.heap.size W1 W)=>hb1.trans (hb.mono (by omega))
  have hv:=h.value
  have hl:=h.len
  have c1:=Lib.hid fun W hb=>itoa_w x.value W (by omega) (by omega) (E.below (hbo.out W hb))
  have c2:=Lib.hid fun W hb=>itoa_w x.len W (by omega) (by omega) (E.below (hbo.out W hb))
  have hcx:=Lib.hid fun W (hb:Below W1.heap.size W1 W)=>cellsAt3 ((hb.block w.heap.size (by omega)).trans hn)
  have z1:(itoaB x.value).size≤100:=itoaB_le _ (by omega) (by omega)
  have z2:(itoaB x.len).size≤100:=itoaB_le _ (by omega) (by omega)
  have hN:Hid (prefN x=(itoaB x.value++ba [47])++itoaB x.len):=Lib.hid rfl
  generalize prefN x=N at *
  generalize itoaB x.value=T1 at *
  generalize itoaB x.len=T2 at *
  have g1:¬ 9223372036854775807<T1.size+1:=by omega
  have g2:¬ 9223372036854775807<T1.size+1+T2.size:=by omega
  obtain ⟨e0,e1,e2⟩:=hcx.out _ (Below.refl _ _)
  have hd:=Lib.hid (Below.refl W1.heap.size W1).drew
  clear hn hz1 hb1 hv hl z1 z2
  go_enter Tryz.func36,Tryz.ntmps36
  go_upto_region 1 with fail
  clear hW1
  go_region_held3 (fun W'=>W'.cell? ⟨w.heap.size,0,none⟩=some (I6 x.value)∧W'.cell? ⟨w.heap.size,1,none⟩=some (I6 x.len)∧W'.cell? ⟨w.heap.size,2,none⟩=some (.string x.dst))
    (first|exact hHeld|go_keep|exact hcx.out _ hbk2|exact hcx.out _ hbk)
    (first
      | (go_at_call 21;(with_reducible refine (c2.out _ hbk).mono ?_);rintro e wz ⟨rfl,hbC⟩;have hbk2:=hbk.trans (hbC.mono hbk.size))
      | (go_at_call 21;(with_reducible refine (c1.out _ hd.out).mono ?_);rintro e wy ⟨rfl,hbB⟩;have hbk:=hd.out.trans (hbB.mono hd.out.size)))
  all_goals
    go_wp2_with fail
    go_ret
    exact ⟨by rw [hN.out];rfl,hbo.out _ hbk2⟩
set_option maxHeartbeats 4000000 in
set_option maxRecDepth 100000 in
theorem a_noRule (S3 S6 Sb B:Nat)(w0:World)(K:World→Prop)(hK:Steady Sb K)(at_:ByteArray)(hkc:∀ W',K W'→W'.cell? ⟨S3,0,none⟩=some (.pointer (some ⟨Sb,0,none⟩))∧W'.cell? ⟨S6,0,none⟩=some (.string at_))(hat:at_.size≤100)(a:List RuleS)(hE:Env w0)(hw:w0.heap.size≤Sb)(hwr:∀ x∈a,WrR x) :
    ActRule w0 Sb B K 32 #[.pointer (some ⟨S3,0,none⟩), .pointer (some ⟨S6,0,none⟩)] (fun x=>((ba [110,111,32]++at_)++ba [114,117,108,101,32])++itoaB x.prio) a:=by
  intro W0 l x c hxm hc hs hk hll
  obtain ⟨W1,hW1⟩:∃ W1,W0.alloc (.cells c.toArray 51 (0,0))=W1:=⟨_,rfl⟩
  have hb1:Below W0.heap.size W0 W1:=by rw [← hW1];exact (Below.refl _ _).alloc (Nat.le_refl _) _
  have hn:W1.heap[W0.heap.size]?=some (.cells c.toArray 51 (0,0)):=by rw [← hW1];exact heap_alloc_new W0 _
  have hz1:W1.heap.size=W0.heap.size+1:=by rw [← hW1];simp
  have hslt:=hs.lt
  obtain ⟨Af,cf,Am,cm,As,cq,At,ct,hform,_⟩:=rule_form hc
  have hn':=hn
  rw [hform] at hn'
  have hbo:∀ W,Below W1.heap.size W1 W→Below W0.heap.size W0 W:=fun W hb=>hb1.trans (hb.mono (by omega))
  have hsay:=Lib.hid fun W hb=>fun s=>d_say s (hs.below (hbo W hb)) hll
  have hfin:=Lib.hid fun W hb=>fun s e w' (h:SayPost w0 Sb (l++[s]) W e w')=>(⟨h.1,h.2.1,(KeepX.of_below hslt (hbo W hb)).trans h.2.2.1,Nat.le_trans (hbo W hb).size h.2.2.2⟩:SayPost w0 Sb (l++[s]) W0 e w')
  have hcx:=Lib.hid fun W (hb:Below W1.heap.size W1 W)=>cells5 ((hb.block W0.heap.size (by omega)).trans hn')
  have hvv:=Lib.hid fun W (hb:Below W1.heap.size W1 W)=>hkc W (hK _ _ hk (KeepX.of_below hslt (hbo W hb)))
  have hwx:=hwr x hxm
  have hE1:=hE.below (hs.b.mono hw)
  have hpr:=hwx.prio
  have cP:Hid (∀ W,Below W1.heap.size W1 W→Calls Tryz.prog 21 #[.int .i64 x.prio] W (StrW (itoaB x.prio) W)):=Lib.hid fun W hb=>itoa_w x.prio W (by omega) (by omega) (hE1.below (hbo W hb))
  have hTL:(itoaB x.prio).size≤100:=itoaB_le x.prio (by omega) (by omega)
  subst hform
  have hKp:=Lib.hid fun W hb=>(⟨(hcx.out W hb).1,(hcx.out W hb).2.1,(hcx.out W hb).2.2.1,(hcx.out W hb).2.2.2.1,(hcx.out W hb).2.2.2.2,hvv.out W hb⟩:W.cell? ⟨W0.heap.size,0,none⟩=some (I6 x.prio)∧W.cell? ⟨W0.heap.size,1,none⟩=some (.slice Af x.frm.length cf)∧W.cell? ⟨W0.heap.size,2,none⟩=some (.slice Am x.mat.length cm)∧W.cell? ⟨W0.heap.size,3,none⟩=some (.slice As x.sets.length cq)∧W.cell? ⟨W0.heap.size,4,none⟩=some (.slice At x.dst.length ct)∧W.cell? ⟨S3,0,none⟩=some (.pointer (some ⟨Sb,0,none⟩))∧W.cell? ⟨S6,0,none⟩=some (.string at_))
  have hMx:Mine Sb W0.heap.size (.cells #[I6 x.prio, .slice Af x.frm.length cf, .slice Am x.mat.length cm, .slice As x.sets.length cq, .slice At x.dst.length ct] 51 (0,0)) W1:=hs.mine (by rw [hW1];exact Below.refl _ _)
  have hKz:Hid (∀ W z,Below W1.heap.size W1 W→KeepX Sb W z→(z.cell? ⟨W0.heap.size,0,none⟩=some (I6 x.prio)∧z.cell? ⟨W0.heap.size,1,none⟩=some (.slice Af x.frm.length cf)∧z.cell? ⟨W0.heap.size,2,none⟩=some (.slice Am x.mat.length cm)∧z.cell? ⟨W0.heap.size,3,none⟩=some (.slice As x.sets.length cq)∧z.cell? ⟨W0.heap.size,4,none⟩=some (.slice At x.dst.length ct)∧z.cell? ⟨S3,0,none⟩=some (.pointer (some ⟨Sb,0,none⟩))∧z.cell? ⟨S6,0,none⟩=some (.string at_))):=Lib.hid fun W z hb hz=>by
    have m1:=(hMx.keep (KeepX.of_below (by omega) hb)).keep hz
    have m2:=hkc z (hK _ _ (hK _ _ hk (KeepX.of_below hslt (hbo W hb))) hz)
    obtain ⟨q0,q1,q2,q3,q4⟩:=cells5 m1.1
    exact ⟨q0,q1,q2,q3,q4,m2⟩
  obtain ⟨e0,e1,e2,e3,e4,e5,e6⟩:=hKp.out _ (Below.refl _ _)
  have hd:=Lib.hid (Below.refl W1.heap.size W1).drew
  show Calls Tryz.prog 32 #[.agg #[I6 x.prio, .slice Af x.frm.length cf, .slice Am x.mat.length cm, .slice As x.sets.length cq, .slice At x.dst.length ct], .pointer (some ⟨S3,0,none⟩), .pointer (some ⟨S6,0,none⟩)] W0 (SayPost w0 Sb (l++[((ba [110,111,32]++at_)++ba [114,117,108,101,32])++itoaB x.prio]) W0)
  generalize itoaB x.prio=TL at *
  generalize hP:SayPost w0 Sb (l++[((ba [110,111,32]++at_)++ba [114,117,108,101,32])++TL]) W0=P
  replace hP:=Lib.hid hP
  have g1:¬ 9223372036854775807<3+at_.size:=by omega
  have g2:¬ 9223372036854775807<3+at_.size+5:=by omega
  have g3:¬ 9223372036854775807<3+at_.size+5+TL.size:=by omega
  clear hMx hb1 hn hn' hz1 hbo hs hk hc hcx hvv hE1 hwx hTL hat hpr
  go_enter Tryz.func32,Tryz.ntmps32
  go_upto_region 1 with fail
  clear hW1
  go_region_held3 (fun W'=>W'.cell? ⟨W0.heap.size,0,none⟩=some (I6 x.prio)∧W'.cell? ⟨W0.heap.size,1,none⟩=some (.slice Af x.frm.length cf)∧W'.cell? ⟨W0.heap.size,2,none⟩=some (.slice Am x.mat.length cm)∧W'.cell? ⟨W0.heap.size,3,none⟩=some (.slice As x.sets.length cq)∧W'.cell? ⟨W0.heap.size,4,none⟩=some (.slice At x.dst.length ct)∧W'.cell? ⟨S3,0,none⟩=some (.pointer (some ⟨Sb,0,none⟩))∧W'.cell? ⟨S6,0,none⟩=some (.string at_))
    (first|exact hHeld|go_keep|exact hS9|exact hKp.out _ hbk)
    (first
      | (go_at_call 10;(with_reducible refine (hsay.out _ hbk _).mono ?_);rintro e wz hZ;obtain ⟨⟨vz,rfl⟩,hSc⟩:=hZ;have hS9:=hKz.out _ _ hbk hSc.2.1;have HP:=Lib.hid (hfin.out _ hbk _ _ _ ⟨⟨vz,rfl⟩,hSc⟩);clear hSc)
      | (go_at_call 21;(with_reducible refine (cP.out _ hd.out).mono ?_);rintro e wy ⟨rfl,hbB⟩;have hbk:=hd.out.trans (hbB.mono hd.out.size)))
  all_goals
    go_wp2_with fail
    go_end0
    rw [← hP.out]
    exact ⟨⟨_,rfl⟩,HP.out.2⟩
set_option maxHeartbeats 4000000 in
set_option maxRecDepth 100000 in
theorem a_noOwn (S3 S6 S8 Sb B:Nat)(w0:World)(K:World→Prop)(hK:Steady Sb K)(at_:ByteArray)(hkc:∀ W',K W'→W'.cell? ⟨S3,0,none⟩=some (.pointer (some ⟨Sb,0,none⟩))∧W'.cell? ⟨S6,0,none⟩=some (.string at_)∧W'.cell? ⟨S8,0,none⟩=some (.func (.func 36) #[] #[]))(hat:at_.size≤100)(a:List PrefS)(hE:Env w0)(hw:w0.heap.size≤Sb)(hwr:∀ x∈a,WrP x) :
    ActPref w0 Sb B K 38 #[.pointer (some ⟨S3,0,none⟩), .pointer (some ⟨S6,0,none⟩), .pointer (some ⟨S8,0,none⟩)] (fun x=>((ba [110,111,32]++at_)++ba [111,119,110,32])++prefN x) a:=by
  intro W0 l x c hxm hc hs hk hll
  obtain ⟨W1,hW1⟩:∃ W1,W0.alloc (.cells c.toArray 79 (0,0))=W1:=⟨_,rfl⟩
  have hb1:Below W0.heap.size W0 W1:=by rw [← hW1];exact (Below.refl _ _).alloc (Nat.le_refl _) _
  have hn:W1.heap[W0.heap.size]?=some (.cells c.toArray 79 (0,0)):=by rw [← hW1];exact heap_alloc_new W0 _
  have hz1:W1.heap.size=W0.heap.size+1:=by rw [← hW1];simp
  have hslt:=hs.lt
  have hform:c=[I6 x.value,I6 x.len, .string x.dst]:=hc.1
  have hn':=hn
  rw [hform] at hn'
  have hbo:∀ W,Below W1.heap.size W1 W→Below W0.heap.size W0 W:=fun W hb=>hb1.trans (hb.mono (by omega))
  have hsay:=Lib.hid fun W hb=>fun s=>d_say s (hs.below (hbo W hb)) hll
  have hfin:=Lib.hid fun W hb=>fun s e w' (h:SayPost w0 Sb (l++[s]) W e w')=>(⟨h.1,h.2.1,(KeepX.of_below hslt (hbo W hb)).trans h.2.2.1,Nat.le_trans (hbo W hb).size h.2.2.2⟩:SayPost w0 Sb (l++[s]) W0 e w')
  have hcx:=Lib.hid fun W (hb:Below W1.heap.size W1 W)=>cellsAt3 ((hb.block W0.heap.size (by omega)).trans hn')
  have hvv:=Lib.hid fun W (hb:Below W1.heap.size W1 W)=>hkc W (hK _ _ hk (KeepX.of_below hslt (hbo W hb)))
  have hwx:=hwr x hxm
  have hE1:=hE.below (hs.b.mono hw)
  have cP:Hid (∀ W,Below W1.heap.size W1 W→Calls Tryz.prog 36 #[.agg #[I6 x.value,I6 x.len, .string x.dst]] W (StrW (prefN x) W)):=Lib.hid fun W hb=>c_prefN x W (hwx) (hE1.below (hbo W hb))
  have hTL:(prefN x).size≤100:=prefN_le hwx
  subst hform
  have hKp:=Lib.hid fun W hb=>(⟨(hcx.out W hb).1,(hcx.out W hb).2.1,(hcx.out W hb).2.2,hvv.out W hb⟩:W.cell? ⟨W0.heap.size,0,none⟩=some (I6 x.value)∧W.cell? ⟨W0.heap.size,1,none⟩=some (I6 x.len)∧W.cell? ⟨W0.heap.size,2,none⟩=some (.string x.dst)∧W.cell? ⟨S3,0,none⟩=some (.pointer (some ⟨Sb,0,none⟩))∧W.cell? ⟨S6,0,none⟩=some (.string at_)∧W.cell? ⟨S8,0,none⟩=some (.func (.func 36) #[] #[]))
  have hMx:Mine Sb W0.heap.size (.cells #[I6 x.value,I6 x.len, .string x.dst] 79 (0,0)) W1:=hs.mine (by rw [hW1];exact Below.refl _ _)
  have hKz:Hid (∀ W z,Below W1.heap.size W1 W→KeepX Sb W z→(z.cell? ⟨W0.heap.size,0,none⟩=some (I6 x.value)∧z.cell? ⟨W0.heap.size,1,none⟩=some (I6 x.len)∧z.cell? ⟨W0.heap.size,2,none⟩=some (.string x.dst)∧z.cell? ⟨S3,0,none⟩=some (.pointer (some ⟨Sb,0,none⟩))∧z.cell? ⟨S6,0,none⟩=some (.string at_)∧z.cell? ⟨S8,0,none⟩=some (.func (.func 36) #[] #[]))):=Lib.hid fun W z hb hz=>by
    have m1:=(hMx.keep (KeepX.of_below (by omega) hb)).keep hz
    have m2:=hkc z (hK _ _ (hK _ _ hk (KeepX.of_below hslt (hbo W hb))) hz)
    obtain ⟨q0,q1,q2⟩:=cellsAt3 m1.1
    exact ⟨q0,q1,q2,m2⟩
  obtain ⟨e0,e1,e2,e3,e4,e5⟩:=hKp.out _ (Below.refl _ _)
  have hd:=Lib.hid (Below.refl W1.heap.size W1).drew
  show Calls Tryz.prog 38 #[.agg #[I6 x.value,I6 x.len, .string x.dst], .pointer (some ⟨S3,0,none⟩), .pointer (some ⟨S6,0,none⟩), .pointer (some ⟨S8,0,none⟩)] W0 (SayPost w0 Sb (l++[((ba [110,111,32]++at_)++ba [111,119,110,32])++prefN x]) W0)
  generalize prefN x=TL at *
  generalize hP:SayPost w0 Sb (l++[((ba [110,111,32]++at_)++ba [111,119,110,32])++TL]) W0=P
  replace hP:=Lib.hid hP
  have g1:¬ 9223372036854775807<3+at_.size:=by omega
  have g2:¬ 9223372036854775807<3+at_.size+4:=by omega
  have g3:¬ 9223372036854775807<3+at_.size+4+TL.size:=by omega
  clear hMx hb1 hn hn' hz1 hbo hs hk hc hcx hvv hE1 hwx hTL hat
  go_enter Tryz.func38,Tryz.ntmps38
  go_upto_region 1 with fail
  clear hW1
  go_region_held3 (fun W'=>W'.cell? ⟨W0.heap.size,0,none⟩=some (I6 x.value)∧W'.cell? ⟨W0.heap.size,1,none⟩=some (I6 x.len)∧W'.cell? ⟨W0.heap.size,2,none⟩=some (.string x.dst)∧W'.cell? ⟨S3,0,none⟩=some (.pointer (some ⟨Sb,0,none⟩))∧W'.cell? ⟨S6,0,none⟩=some (.string at_)∧W'.cell? ⟨S8,0,none⟩=some (.func (.func 36) #[] #[]))
    (first|exact hHeld|go_keep|exact hS9|exact hKp.out _ hbk)
    (first
      | (go_at_call 10;(with_reducible refine (hsay.out _ hbk _).mono ?_);rintro e wz hZ;obtain ⟨⟨vz,rfl⟩,hSc⟩:=hZ;have hS9:=hKz.out _ _ hbk hSc.2.1;have HP:=Lib.hid (hfin.out _ hbk _ _ _ ⟨⟨vz,rfl⟩,hSc⟩);clear hSc)
      | (go_at_call 36;(with_reducible refine (cP.out _ hd.out).mono ?_);rintro e wy ⟨rfl,hbB⟩;have hbk:=hd.out.trans (hbB.mono hd.out.size)))
  all_goals
    go_wp2_with fail
    go_end0
    rw [← hP.out]
    exact ⟨⟨_,rfl⟩,HP.out.2⟩
set_option maxHeartbeats 4000000 in
set_option maxRecDepth 100000 in
theorem a_noRoute (S3 S6 S8 Sb B:Nat)(w0:World)(K:World→Prop)(hK:Steady Sb K)(at_:ByteArray)(hkc:∀ W',K W'→W'.cell? ⟨S3,0,none⟩=some (.pointer (some ⟨Sb,0,none⟩))∧W'.cell? ⟨S6,0,none⟩=some (.string at_)∧W'.cell? ⟨S8,0,none⟩=some (.func (.func 36) #[] #[]))(hat:at_.size≤100)(a:List PrefS)(hE:Env w0)(hw:w0.heap.size≤Sb)(hwr:∀ x∈a,WrP x) :
    ActPref w0 Sb B K 40 #[.pointer (some ⟨S3,0,none⟩), .pointer (some ⟨S6,0,none⟩), .pointer (some ⟨S8,0,none⟩)] (fun x=>((ba [110,111,32]++at_)++ba [114,111,117,116,101,32])++prefN x) a:=by
  intro W0 l x c hxm hc hs hk hll
  obtain ⟨W1,hW1⟩:∃ W1,W0.alloc (.cells c.toArray 79 (0,0))=W1:=⟨_,rfl⟩
  have hb1:Below W0.heap.size W0 W1:=by rw [← hW1];exact (Below.refl _ _).alloc (Nat.le_refl _) _
  have hn:W1.heap[W0.heap.size]?=some (.cells c.toArray 79 (0,0)):=by rw [← hW1];exact heap_alloc_new W0 _
  have hz1:W1.heap.size=W0.heap.size+1:=by rw [← hW1];simp
  have hslt:=hs.lt
  have hform:c=[I6 x.value,I6 x.len, .string x.dst]:=hc.1
  have hn':=hn
  rw [hform] at hn'
  have hbo:∀ W,Below W1.heap.size W1 W→Below W0.heap.size W0 W:=fun W hb=>hb1.trans (hb.mono (by omega))
  have hsay:=Lib.hid fun W hb=>fun s=>d_say s (hs.below (hbo W hb)) hll
  have hfin:=Lib.hid fun W hb=>fun s e w' (h:SayPost w0 Sb (l++[s]) W e w')=>(⟨h.1,h.2.1,(KeepX.of_below hslt (hbo W hb)).trans h.2.2.1,Nat.le_trans (hbo W hb).size h.2.2.2⟩:SayPost w0 Sb (l++[s]) W0 e w')
  have hcx:=Lib.hid fun W (hb:Below W1.heap.size W1 W)=>cellsAt3 ((hb.block W0.heap.size (by omega)).trans hn')
  have hvv:=Lib.hid fun W (hb:Below W1.heap.size W1 W)=>hkc W (hK _ _ hk (KeepX.of_below hslt (hbo W hb)))
  have hwx:=hwr x hxm
  have hE1:=hE.below (hs.b.mono hw)
  have cP:Hid (∀ W,Below W1.heap.size W1 W→Calls Tryz.prog 36 #[.agg #[I6 x.value,I6 x.len, .string x.dst]] W (StrW (prefN x) W)):=Lib.hid fun W hb=>c_prefN x W (hwx) (hE1.below (hbo W hb))
  have hTL:(prefN x).size≤100:=prefN_le hwx
  subst hform
  have hKp:=Lib.hid fun W hb=>(⟨(hcx.out W hb).1,(hcx.out W hb).2.1,(hcx.out W hb).2.2,hvv.out W hb⟩:W.cell? ⟨W0.heap.size,0,none⟩=some (I6 x.value)∧W.cell? ⟨W0.heap.size,1,none⟩=some (I6 x.len)∧W.cell? ⟨W0.heap.size,2,none⟩=some (.string x.dst)∧W.cell? ⟨S3,0,none⟩=some (.pointer (some ⟨Sb,0,none⟩))∧W.cell? ⟨S6,0,none⟩=some (.string at_)∧W.cell? ⟨S8,0,none⟩=some (.func (.func 36) #[] #[]))
  have hMx:Mine Sb W0.heap.size (.cells #[I6 x.value,I6 x.len, .string x.dst] 79 (0,0)) W1:=hs.mine (by rw [hW1];exact Below.refl _ _)
  have hKz:Hid (∀ W z,Below W1.heap.size W1 W→KeepX Sb W z→(z.cell? ⟨W0.heap.size,0,none⟩=some (I6 x.value)∧z.cell? ⟨W0.heap.size,1,none⟩=some (I6 x.len)∧z.cell? ⟨W0.heap.size,2,none⟩=some (.string x.dst)∧z.cell? ⟨S3,0,none⟩=some (.pointer (some ⟨Sb,0,none⟩))∧z.cell? ⟨S6,0,none⟩=some (.string at_)∧z.cell? ⟨S8,0,none⟩=some (.func (.func 36) #[] #[]))):=Lib.hid fun W z hb hz=>by
    have m1:=(hMx.keep (KeepX.of_below (by omega) hb)).keep hz
    have m2:=hkc z (hK _ _ (hK _ _ hk (KeepX.of_below hslt (hbo W hb))) hz)
    obtain ⟨q0,q1,q2⟩:=cellsAt3 m1.1
    exact ⟨q0,q1,q2,m2⟩
  obtain ⟨e0,e1,e2,e3,e4,e5⟩:=hKp.out _ (Below.refl _ _)
  have hd:=Lib.hid (Below.refl W1.heap.size W1).drew
  show Calls Tryz.prog 40 #[.agg #[I6 x.value,I6 x.len, .string x.dst], .pointer (some ⟨S3,0,none⟩), .pointer (some ⟨S6,0,none⟩), .pointer (some ⟨S8,0,none⟩)] W0 (SayPost w0 Sb (l++[((ba [110,111,32]++at_)++ba [114,111,117,116,101,32])++prefN x]) W0)
  generalize prefN x=TL at *
  generalize hP:SayPost w0 Sb (l++[((ba [110,111,32]++at_)++ba [114,111,117,116,101,32])++TL]) W0=P
  replace hP:=Lib.hid hP
  have g1:¬ 9223372036854775807<3+at_.size:=by omega
  have g2:¬ 9223372036854775807<3+at_.size+6:=by omega
  have g3:¬ 9223372036854775807<3+at_.size+6+TL.size:=by omega
  clear hMx hb1 hn hn' hz1 hbo hs hk hc hcx hvv hE1 hwx hTL hat
  go_enter Tryz.func40,Tryz.ntmps40
  go_upto_region 1 with fail
  clear hW1
  go_region_held3 (fun W'=>W'.cell? ⟨W0.heap.size,0,none⟩=some (I6 x.value)∧W'.cell? ⟨W0.heap.size,1,none⟩=some (I6 x.len)∧W'.cell? ⟨W0.heap.size,2,none⟩=some (.string x.dst)∧W'.cell? ⟨S3,0,none⟩=some (.pointer (some ⟨Sb,0,none⟩))∧W'.cell? ⟨S6,0,none⟩=some (.string at_)∧W'.cell? ⟨S8,0,none⟩=some (.func (.func 36) #[] #[]))
    (first|exact hHeld|go_keep|exact hS9|exact hKp.out _ hbk)
    (first
      | (go_at_call 10;(with_reducible refine (hsay.out _ hbk _).mono ?_);rintro e wz hZ;obtain ⟨⟨vz,rfl⟩,hSc⟩:=hZ;have hS9:=hKz.out _ _ hbk hSc.2.1;have HP:=Lib.hid (hfin.out _ hbk _ _ _ ⟨⟨vz,rfl⟩,hSc⟩);clear hSc)
      | (go_at_call 36;(with_reducible refine (cP.out _ hd.out).mono ?_);rintro e wy ⟨rfl,hbB⟩;have hbk:=hd.out.trans (hbB.mono hd.out.size)))
  all_goals
    go_wp2_with fail
    go_end0
    rw [← hP.out]
    exact ⟨⟨_,rfl⟩,HP.out.2⟩
end Go.Proofs.YtdhehcobnbcmdaaGreatDoor
