/- A part of the proof of RunParses: TraN TraO TraP TraQ TraR. -/
import Derived.Test.YtjokciofeicdkaaGreatDoorPU
import Derived.Handy
import Derived.Deep.RegionLaw
set_option maxHeartbeats 16000000
set_option maxRecDepth 100000
set_option linter.all false
namespace Go.Proofs.YtjokciofeicdkaaGreatDoor
open Go.RowKit
attribute [local go_sem ↓] Go.wp_at_zero Go.wp_at_succ
def WrPost (w:World)(n:Nat)(e:Ending)(w':World):Prop:=∃ r:ByteArray,e=.returned (.string r)∧r.size+5≤8*n∧Below w.heap.size w w'
def BrPost (w:World)(n:Nat)(e:Ending)(w':World):Prop:=∃ r:ByteArray,e=.returned (.string r)∧r.size+3≤8*n∧Below w.heap.size w w'
structure WrIH (n:Nat):Prop where
 suf:∀ {w:World} {F:Nat→Prop} {u:Value} {c:UInt8} {m:Nat},(∀ b,F b→b<w.heap.size)→m+1≤n→c.toNat<128→Forest w F [u] m→Calls Tryz.prog 268 #[.agg #[u,.int .u8 c.toNat]] w fun e w'=>WrPost w (m+1) e w'
 seq:∀ {w:World} {F:Nat→Prop} {v:Value} {vs:List Value} {m:Nat},(∀ b,F b→b<w.heap.size)→m+1≤n→RowIn w F v vs→Forest w F vs m→Calls Tryz.prog 275 #[v] w fun e w'=>WrPost w (m+1) e w'
 cho:∀ {w:World} {F:Nat→Prop} {v:Value} {vs:List Value} {m:Nat},(∀ b,F b→b<w.heap.size)→m+1≤n→RowIn w F v vs→Forest w F vs m→Calls Tryz.prog 285 #[v] w fun e w'=>WrPost w (m+1) e w'
theorem t_write_leaf (w:World)(t:ByteArray)(a b c:Bool)(ht:t.size≤100000) :
  Calls Tryz.prog 271 #[.agg #[.string t,.bool a,.bool b,.bool c]] w fun e w'=>WrPost w (t.size+2) e w':=by
 cases c
 ·go_enter Tryz.func271,Tryz.ntmps271;go_wp2_with fail;go_ret;exact ⟨_,rfl,by omega,(Below.refl _ w).alloc (Nat.le_refl _) _⟩
 ·go_enter Tryz.func271,Tryz.ntmps271;go_wp2_with fail;go_ret;exact ⟨_,rfl,by rw [ByteArray.size_append];show 1+_+_≤_;omega,(Below.refl _ w).alloc (Nat.le_refl _) _⟩
theorem t_br {n:Nat}(ih:WrIH n){w:World}{F:Nat→Prop}{v:Value}{m:Nat}(hF:∀ b,F b→b<w.heap.size)(hm:m≤n)(hn:n≤100000)(hK:Kind1 w F v m) :
  Calls Tryz.prog 269 #[v] w fun e w'=>BrPost w m e w':=by
 have hF:=Hi hF
 cases hK with
 | leaf t a b c=>
   have cc:=Hi (t_write_leaf w t a b c (by omega))
   clear ih hF;go_enter Tryz.func269,Tryz.ntmps269;go_wp2_with fail;refine cc.out.mono ?_;rintro e w1 ⟨r,rfl,hr,hb⟩;have hb:=Hi hb;go_wp2_with fail;go_ret;exact ⟨_,rfl,by rw [ByteArray.size_append,ByteArray.size_append];show 1+_+1+_≤_;omega,hb.out⟩
 | suf u c k hc hu=>
   have cc:=Hi (ih.suf hF.out hm hc hu);clear ih hF hu;go_enter Tryz.func269,Tryz.ntmps269;go_wp2_with fail;refine cc.out.mono ?_;rintro e w1 ⟨r,rfl,hr,hb⟩;have hb:=Hi hb;go_wp2_with fail;go_ret;exact ⟨_,rfl,by rw [ByteArray.size_append,ByteArray.size_append];show 1+_+1+_≤_;omega,hb.out⟩
 | seq v vs k hv hu=>
   have cc:=Hi (ih.seq hF.out hm hv hu);clear ih hF hu hv;go_enter Tryz.func269,Tryz.ntmps269;go_wp2_with fail;refine cc.out.mono ?_;rintro e w1 ⟨r,rfl,hr,hb⟩;have hb:=Hi hb;go_wp2_with fail;go_ret;exact ⟨_,rfl,by rw [ByteArray.size_append,ByteArray.size_append];show 1+_+1+_≤_;omega,hb.out⟩
 | cho v vs k hv hu=>
   have cc:=Hi (ih.cho hF.out hm hv hu);clear ih hF hu hv;go_enter Tryz.func269,Tryz.ntmps269;go_wp2_with fail;refine cc.out.mono ?_;rintro e w1 ⟨r,rfl,hr,hb⟩;have hb:=Hi hb;go_wp2_with fail;go_ret;exact ⟨_,rfl,by rw [ByteArray.size_append,ByteArray.size_append];show 1+_+1+_≤_;omega,hb.out⟩
theorem enc1:∀ n:Fin 128,(Utf8.encode (IntKind.i32.wrap ((n.1:Nat):Int))).size=1:=by decide +kernel
theorem me_leaf (x : Value) (w : World) : (method 428 285 x "reach/trail.write").run Tryz.prog w = .ok (271, x) w := by kernel_rfl
theorem me_suf (x : Value) (w : World) : (method 428 282 x "reach/trail.write").run Tryz.prog w = .ok (268, x) w := by kernel_rfl
theorem t_write_suf {n:Nat}(ih:WrIH n){w:World}{F:Nat→Prop}{u:Value}{c:UInt8}{m:Nat}(hF:∀ b,F b→b<w.heap.size)(hm:m≤n)(hn:n≤100000)(hc:c.toNat<128)(hu:Forest w F [u] m) :
  Calls Tryz.prog 268 #[.agg #[u,.int .u8 c.toNat]] w fun e w'=>WrPost w (m+1) e w':=by
 have hK:=hu.kind;obtain ⟨wa,hwa⟩:∃ wa,w.alloc (.cells #[u,.int .u8 c.toNat] 282 (0,0))=wa:=⟨_,rfl⟩
 have hba:Below w.heap.size w wa:=by rw [← hwa];exact (Below.refl _ w).alloc (Nat.le_refl _) _
 have hza:wa.heap[w.heap.size]?=some (.cells #[u,.int .u8 c.toNat] 282 (0,0)):=by rw [← hwa];exact heap_alloc_new w _
 have z0:=cell_of_row wa w.heap.size 0 _ _ _ hza;have z1:=cell_of_row wa w.heap.size 1 _ _ _ hza;simp only [List.getElem?_toArray,List.getElem?_cons_zero,List.getElem?_cons_succ] at z0 z1;have hXl:=(Array.getElem?_eq_some_iff.1 hza).1;have hFa:∀ b,F b→b<wa.heap.size:=fun b hb=>Nat.lt_of_lt_of_le (hF b hb) hba.size
 have hfa:Forest wa.drew F [u] m:=hu.up (fun _ h=>h) fun b hb=>hba.block b (hF b hb)
 have hfaK:=Hi hfa;have hba:=Hi hba;have hFa:=Hi hFa;have hz:=Hi (enc1 ⟨c.toNat,hc⟩);clear hu hza
 cases hK with
 | leaf t a b d=>
   have hs:(Instr.typeAssert (.iface 285 (.agg #[.string t,.bool a,.bool b,.bool d])) 266 292 true).run Tryz.prog wa=.ok (.tuple #[.slice none 0 0,.bool false]) wa:=(ta_seq _ _ wa).trans (by rfl)
   have hq:(Instr.typeAssert (.iface 285 (.agg #[.string t,.bool a,.bool b,.bool d])) 266 293 true).run Tryz.prog wa=.ok (.tuple #[.slice none 0 0,.bool false]) wa:=(ta_cho _ _ wa).trans (by rfl)
   have cc:=Hi (t_write_leaf wa.drew t a b d (by omega))
   clear ih hfa;have hme:=me_leaf;go_enter Tryz.func268,Tryz.ntmps268;go_upto_region 1 with fail;clear hwa;go_upto_region 4 with fail
   go_region_law (first|(go_simp;go_at_call 271;refine cc.out.mono ?_;rintro e w1 ⟨r,rfl,hr,hb⟩;have hz2:¬ (9223372036854775807<r.size+(Utf8.encode (IntKind.i32.wrap (c.toNat:Int))).size):=(by have:=hz.out;dsimp only at this;omega);have z1':=(hb.cell (p:=⟨w.heap.size,1,none⟩) hXl).trans z1;have hb:=Hi hb;go_wp2_with fail))
   all_goals (
    go_wp2_with fail;go_ret;exact ⟨_,rfl,by have hz3:(Utf8.encode (IntKind.i32.wrap (c.toNat:Int))).size=1:=hz.out;rw [ByteArray.size_append];omega,hba.out.trans (((Qt.self wa 1).below _).trans (hb.out.mono hba.out.size))⟩)
 | suf v d k hd hv=>
   have hs:(Instr.typeAssert (.iface 282 (.agg #[v,.int .u8 d.toNat])) 266 292 true).run Tryz.prog wa=.ok (.tuple #[.slice none 0 0,.bool false]) wa:=(ta_seq _ _ wa).trans (by rfl)
   have hq:(Instr.typeAssert (.iface 282 (.agg #[v,.int .u8 d.toNat])) 266 293 true).run Tryz.prog wa=.ok (.tuple #[.slice none 0 0,.bool false]) wa:=(ta_cho _ _ wa).trans (by rfl)
   have cc:=Hi (ih.suf (w:=wa.drew) hFa.out hm hd (hv.up (fun _ h=>h) fun b hb=>hba.out.block b (hF b hb)))
   clear ih hfa;have hme:=me_suf;go_enter Tryz.func268,Tryz.ntmps268;go_upto_region 1 with fail;clear hwa;go_upto_region 4 with fail
   go_region_law (first|(go_simp;go_at_call 268;refine cc.out.mono ?_;rintro e w1 ⟨r,rfl,hr,hb⟩;have hz2:¬ (9223372036854775807<r.size+(Utf8.encode (IntKind.i32.wrap (c.toNat:Int))).size):=(by have:=hz.out;dsimp only at this;omega);have z1':=(hb.cell (p:=⟨w.heap.size,1,none⟩) hXl).trans z1;have hb:=Hi hb;go_wp2_with fail))
   all_goals (
    go_wp2_with fail;go_ret;exact ⟨_,rfl,by have hz3:(Utf8.encode (IntKind.i32.wrap (c.toNat:Int))).size=1:=hz.out;rw [ByteArray.size_append];omega,hba.out.trans (((Qt.self wa 1).below _).trans (hb.out.mono hba.out.size))⟩)
 | seq v vs k hv hvs=>
   have hs:(Instr.typeAssert (.iface 292 (v)) 266 292 true).run Tryz.prog wa=.ok (.tuple #[v,.bool true]) wa:=(ta_seq _ _ wa).trans (by rfl)
   have hq:(Instr.typeAssert (.iface 292 (v)) 266 293 true).run Tryz.prog wa=.ok (.tuple #[.slice none 0 0,.bool false]) wa:=(ta_cho _ _ wa).trans (by rfl)
   have cc:=Hi (t_br (w:=wa.drew) ih hFa.out hm hn hfaK.out.kind);clear ih hfa;go_enter Tryz.func268,Tryz.ntmps268;go_upto_region 1 with fail;clear hwa;go_upto_region 3 with fail
   go_region_law (first|(go_simp;go_at_call 269;refine cc.out.mono ?_;rintro e w1 ⟨r,rfl,hr,hb⟩;have hz2:¬ (9223372036854775807<r.size+(Utf8.encode (IntKind.i32.wrap (c.toNat:Int))).size):=(by have:=hz.out;dsimp only at this;omega);have z1':=(hb.cell (p:=⟨w.heap.size,1,none⟩) hXl).trans z1;have hb:=Hi hb;go_wp2_with fail))
   all_goals (
    go_wp2_with fail;go_ret;exact ⟨_,rfl,by have hz3:(Utf8.encode (IntKind.i32.wrap (c.toNat:Int))).size=1:=hz.out;rw [ByteArray.size_append];omega,hba.out.trans (((Qt.self wa 1).below _).trans (hb.out.mono hba.out.size))⟩)
 | cho v vs k hv hvs=>
   have hs:(Instr.typeAssert (.iface 293 (v)) 266 292 true).run Tryz.prog wa=.ok (.tuple #[.slice none 0 0,.bool false]) wa:=(ta_seq _ _ wa).trans (by rfl)
   have hq:(Instr.typeAssert (.iface 293 (v)) 266 293 true).run Tryz.prog wa=.ok (.tuple #[v,.bool true]) wa:=(ta_cho _ _ wa).trans (by rfl)
   have cc:=Hi (t_br (w:=wa.drew) ih hFa.out hm hn hfaK.out.kind);clear ih hfa;go_enter Tryz.func268,Tryz.ntmps268;go_upto_region 1 with fail;clear hwa;go_upto_region 3 with fail
   go_region_law (first|(go_simp;go_at_call 269;refine cc.out.mono ?_;rintro e w1 ⟨r,rfl,hr,hb⟩;have hz2:¬ (9223372036854775807<r.size+(Utf8.encode (IntKind.i32.wrap (c.toNat:Int))).size):=(by have:=hz.out;dsimp only at this;omega);have z1':=(hb.cell (p:=⟨w.heap.size,1,none⟩) hXl).trans z1;have hb:=Hi hb;go_wp2_with fail))
   all_goals (
    go_wp2_with fail;go_ret;exact ⟨_,rfl,by have hz3:(Utf8.encode (IntKind.i32.wrap (c.toNat:Int))).size=1:=hz.out;rw [ByteArray.size_append];omega,hba.out.trans (((Qt.self wa 1).below _).trans (hb.out.mono hba.out.size))⟩)
theorem strT_info:(Tryz.prog.info? 9).map (fun i=>(i.zero,i.size,i.bytes))=some (some (.string ByteArray.empty),1,16):=by kernel_rfl
def sumB (ws:List ByteArray):Nat:=(ws.map ByteArray.size).sum
theorem sumB_snoc (ws:List ByteArray)(x:ByteArray):sumB (ws++[x])=sumB ws+x.size:=by simp [sumB]
theorem lens_sumB (ws:List ByteArray):Lib.lens (ws.map (·.data.toList))=sumB ws:=by
 unfold Lib.lens sumB;rw [List.map_map];rfl
theorem join_sumB (ws:List ByteArray)(sep:List UInt8):(Lib.join (ws.map (·.data.toList)) sep).length≤sumB ws+sep.length*ws.length:=by
 cases ws with
 | nil=>simp [Lib.join,sumB]
 | cons x r=>
   rw [← lens_sumB,List.map_cons,Lib.join_length];have:sep.length*(r.map (·.data.toList)).length≤sep.length*(x::r).length:=Nat.mul_le_mul_left _ (by simp)
   omega
theorem Kind1.up {w w':World}{F:Nat→Prop}{v:Value}{k:Nat}(h:Kind1 w F v k)(hw:∀ b,F b→w'.heap[b]?=w.heap[b]?):Kind1 w' F v k:=by
 cases h with
 | leaf t a b c=>exact .leaf t a b c
 | suf u c n hc hu=>exact .suf u c n hc (hu.up (fun _ h=>h) hw)
 | seq v vs n hv hu=>exact .seq v vs n (hv.up (fun _ h=>h) hw) (hu.up (fun _ h=>h) hw)
 | cho v vs n hv hu=>exact .cho v vs n (hv.up (fun _ h=>h) hw) (hu.up (fun _ h=>h) hw)
structure Wds (w0 w:World)(v:Value)(ws:List ByteArray)(k:Nat):Prop where
 own:w.ownsRow w0.heap.size 9 1 v ws.length (ws.map .string)
 sum:sumB ws+3*ws.length≤8*k
 bel:Below w0.heap.size w0 w
theorem Wds.nil (w:World):Wds w w (.slice none 0 0) [] 0:=⟨⟨by simp,.inl ⟨rfl,rfl⟩⟩,by simp [sumB],Below.refl _ _⟩
theorem Wds.cells {w0 w:World}{g c k:Nat}{ws:List ByteArray}(h:Wds w0 w (.slice (some ⟨g,0,none⟩) ws.length c) ws k):∀ (j:Nat) x,ws[j]?=some x→w.cell? ⟨g,0+j,none⟩=some (.string x):=fun j x hj=>by
 have hl:=(List.getElem?_eq_some_iff.1 hj).1;rw [Nat.zero_add,h.own.cellAt _ (by omega),List.getElem?_map,hj];rfl
theorem Wds.cap {w0 w:World}{g c k:Nat}{ws:List ByteArray}(h:Wds w0 w (.slice (some ⟨g,0,none⟩) ws.length c) ws k):ws.length≤c∧g<w.heap.size:=by
 refine ⟨?_,(h.own.lt g rfl).2⟩;rcases h.own.2 with ⟨h2,_⟩|⟨g',cap',cur,h2,_,_,hn,_⟩
 ·cases h2
 ·cases h2;exact hn
theorem Wds.put {w0 w1 w2 w4:World}{v:Value}{ws:List ByteArray}{k k1 g cap:Nat}{r:ByteArray}(h:Wds w0 w1 v ws k)(hb:Below w1.heap.size w1 w2)(hr:r.size+3≤8*k1)
  (hg:(w2.alloc (.cells #[.string r] 9)).grownBy w4 v.ownBlock) (ho:w4.ownsRow w0.heap.size 9 1 (.slice (some ⟨g,0,none⟩) (ws.length+1) cap) (ws.length+1) (ws.map .string++[.string r])) :
  Wds w0 w4 (.slice (some ⟨g,0,none⟩) (ws.length+1) cap) (ws++[r]) (k+k1):=by
 refine ⟨by rw [List.length_append,List.map_append];exact ho,by rw [sumB_snoc,List.length_append];have:=h.sum;simp only [List.length_cons,List.length_nil];omega,?_⟩
 have s1:=h.bel.size;have s2:=hb.size;exact ((h.bel.trans (hb.mono s1)).alloc (by omega) _).grown hg (by simp;omega) (fun k hk=>(h.own.lt k hk).1)
theorem t_write_seq {n:Nat}(ih:WrIH n){w:World}{F:Nat→Prop}{v:Value}{vs:List Value}{m:Nat}(hF:∀ b,F b→b<w.heap.size)(hm:m≤n)(hn:n≤100000)(hv:RowIn w F v vs)(hf:Forest w F vs m) :
  Calls Tryz.prog 275 #[v] w fun e w'=>WrPost w (m+1) e w':=by
 rcases hv with ⟨rfl,rfl⟩|⟨gl,cl,csl,fzl,hne,rfl,_,hgl,hcl⟩
 ·have cj:=Hi (fun W=>Tryz.strings_Join_none none 0 ⟨#[32]⟩ W)
  go_enter Tryz.func275,Tryz.ntmps275;go_wp2_with fail
  go_loopw [3,8] (fun a b wr=>a=.slice none 0 0∧b=.int .i64 0∧wr=w) (fun _ _ _=>0)
  case atStart=>exact ⟨rfl,rfl,rfl⟩
  case round=>
   obtain ⟨rfl,rfl,rfl⟩:=hrel;go_wp2_with (go_at_call 276;refine (cj.out _).mono ?_;rintro e w1 ⟨rfl,rfl⟩);go_ret;exact ⟨_,rfl,by show 0+5≤_;omega,Below.refl _ _⟩
 obtain ⟨i0,hi0,hz0,hz1,hz2⟩:=info_parts strT_info;have hi0:=Hi hi0;have hz0:=Hi hz0;have hz1:=Hi hz1;have hz2:=Hi hz2;have hgl2:=(Array.getElem?_eq_some_iff.1 hgl).1;have hcl:=Hi hcl;have hln:=hf.len;have hF:=Hi hF;have ih:=Hi ih;clear hgl hne;go_enter Tryz.func275,Tryz.ntmps275;go_wp2_with fail
 go_loopw [3,8] (fun a b wr=>∃ (i:Nat) (ws:List ByteArray) (k m2:Nat),b=.int .i64 i∧i≤vs.length∧Hid (Wds w wr a ws k)∧Hid (ws.length=i)∧Hid (Forest w F (vs.drop i) m2)∧k+m2≤m) (fun _ b _=>vs.length-(intOf b).toNat)
 case atStart=>exact ⟨0,[],0,m,rfl,Nat.zero_le _,Hi (Wds.nil w),Hi rfl,Hi hf,by omega⟩
 case round=>
  obtain ⟨i,ws,k,m2,rfl,hi,hW,hwl,hrs,hkm⟩:=hrel;obtain ⟨wq,rfl⟩:∃ wq,wq=wr:=⟨_,rfl⟩
  have hwb:ws.length≤100000:=by rw [hwl.out];omega
  by_cases hlt:i<vs.length
  ·have b1:(i:Int)<(vs.length:Int):=by omega
   have b0:(0:Int)≤(i:Int):=by omega
   have hkI:vs[i]?=some vs[i]:=List.getElem?_eq_getElem hlt;have hdr:=hrs.out;rw [List.drop_eq_getElem_cons hlt] at hdr;obtain ⟨k1,m1,rfl,ht,hr⟩:=hdr.uncons;generalize vs[i]=t at hkI ht;have hr:=Hi hr;have hbl:=hW.out.bel;have ek:wq.cell? ⟨gl,i,none⟩=some t:=(hbl.cell (p:=⟨gl,i,none⟩) hgl2).trans (hcl.out i t hkI);have bwi:=wS i (by omega)
   have hszq:=hbl.size;have hFq:∀ b,F b→b<wq.heap.size:=fun b hb=>Nat.lt_of_lt_of_le (hF.out b hb) hszq
   have hK:=(ht.kind).up (w':=wq) fun b hb=>hbl.block b (hF.out b hb)
   have hK2:=Hi hK;have hFq2:=Hi hFq;clear hkI hdr hrs ht hbl
   cases hK with
   | leaf t a b d=>
     have hta:(Instr.typeAssert (.iface 285 (.agg #[.string t,.bool a,.bool b,.bool d])) 266 293 true).run Tryz.prog wq=.ok (.tuple #[.slice none 0 0,.bool false]) wq:=(ta_cho _ _ wq).trans (by rfl)
     have cc:=Hi (t_write_leaf wq t a b d (by omega))
     clear hK2 hFq;go_wp2_with fail;refine cc.out.mono ?_;rintro e w2 ⟨r,rfl,hr5,hb⟩;have hb:=Hi hb;have hr3:r.size+3≤_:=Nat.le_of_succ_le (Nat.le_of_succ_le hr5);clear hr5;go_wp2_with (at_builtin;refine wpList_append_lies _ rfl (.tmp 13) (.tmp 16) _ rfl w.heap.size 9 i0 _ 1 16 Tryz.underlying50 hi0.out hz0.out hz1.out hz2.out rfl (by decide) u3 ws.length (ws.map .string) rfl (World.ownsRow.alloc (own_below hW.out.own hb.out) _) ⟨w2.heap.size,0,none⟩ 1 1 [.string r] rfl rfl (World.news_of_block (heap_alloc_new w2 _)) (by intro u hu;simp only [List.mem_cons,List.not_mem_nil,or_false] at hu;subst hu;rfl) (by decide) (by unfold maxLen;omega) (by omega) (by have:=hb.out.size;simp;omega) (w2.heap.size+1) (by simp) ?_;intro g' cap' w4 hown4 hg4 hat4 hlt4;have hown5:=Hi hown4;have hg5:=Hi hg4;clear hown4 hg4)
     go_roundw
     case rel=>exact ⟨i+1,ws++[r],_,m1,by first|rfl|go_num,hlt,Hi (hW.out.put hb.out hr3 hg5.out hown5.out),Hi (by simp [hwl.out]),hr,by omega⟩
     case measure=>simp [intOf];omega
   | suf u c k hc hu=>
     have hta:(Instr.typeAssert (.iface 282 (.agg #[u,.int .u8 c.toNat])) 266 293 true).run Tryz.prog wq=.ok (.tuple #[.slice none 0 0,.bool false]) wq:=(ta_cho _ _ wq).trans (by rfl)
     have cc:=Hi (ih.out.suf (w:=wq) hFq2.out (by omega) hc hu)
     clear hK2 hFq;go_wp2_with fail;refine cc.out.mono ?_;rintro e w2 ⟨r,rfl,hr5,hb⟩;have hb:=Hi hb;have hr3:r.size+3≤_:=Nat.le_of_succ_le (Nat.le_of_succ_le hr5);clear hr5;go_wp2_with (at_builtin;refine wpList_append_lies _ rfl (.tmp 13) (.tmp 16) _ rfl w.heap.size 9 i0 _ 1 16 Tryz.underlying50 hi0.out hz0.out hz1.out hz2.out rfl (by decide) u3 ws.length (ws.map .string) rfl (World.ownsRow.alloc (own_below hW.out.own hb.out) _) ⟨w2.heap.size,0,none⟩ 1 1 [.string r] rfl rfl (World.news_of_block (heap_alloc_new w2 _)) (by intro u hu;simp only [List.mem_cons,List.not_mem_nil,or_false] at hu;subst hu;rfl) (by decide) (by unfold maxLen;omega) (by omega) (by have:=hb.out.size;simp;omega) (w2.heap.size+1) (by simp) ?_;intro g' cap' w4 hown4 hg4 hat4 hlt4;have hown5:=Hi hown4;have hg5:=Hi hg4;clear hown4 hg4)
     go_roundw
     case rel=>exact ⟨i+1,ws++[r],_,m1,by first|rfl|go_num,hlt,Hi (hW.out.put hb.out hr3 hg5.out hown5.out),Hi (by simp [hwl.out]),hr,by omega⟩
     case measure=>simp [intOf];omega
   | seq v2 us k hv hu=>
     have hta:(Instr.typeAssert (.iface 292 (v2)) 266 293 true).run Tryz.prog wq=.ok (.tuple #[.slice none 0 0,.bool false]) wq:=(ta_cho _ _ wq).trans (by rfl)
     have cc:=Hi (ih.out.seq (w:=wq) hFq2.out (by omega) hv hu)
     clear hK2 hFq;go_wp2_with fail;refine cc.out.mono ?_;rintro e w2 ⟨r,rfl,hr5,hb⟩;have hb:=Hi hb;have hr3:r.size+3≤_:=Nat.le_of_succ_le (Nat.le_of_succ_le hr5);clear hr5;go_wp2_with (at_builtin;refine wpList_append_lies _ rfl (.tmp 13) (.tmp 16) _ rfl w.heap.size 9 i0 _ 1 16 Tryz.underlying50 hi0.out hz0.out hz1.out hz2.out rfl (by decide) u3 ws.length (ws.map .string) rfl (World.ownsRow.alloc (own_below hW.out.own hb.out) _) ⟨w2.heap.size,0,none⟩ 1 1 [.string r] rfl rfl (World.news_of_block (heap_alloc_new w2 _)) (by intro u hu;simp only [List.mem_cons,List.not_mem_nil,or_false] at hu;subst hu;rfl) (by decide) (by unfold maxLen;omega) (by omega) (by have:=hb.out.size;simp;omega) (w2.heap.size+1) (by simp) ?_;intro g' cap' w4 hown4 hg4 hat4 hlt4;have hown5:=Hi hown4;have hg5:=Hi hg4;clear hown4 hg4)
     go_roundw
     case rel=>exact ⟨i+1,ws++[r],_,m1,by first|rfl|go_num,hlt,Hi (hW.out.put hb.out hr3 hg5.out hown5.out),Hi (by simp [hwl.out]),hr,by omega⟩
     case measure=>simp [intOf];omega
   | cho v2 us k hv hu=>
     have hta:(Instr.typeAssert (.iface 293 (v2)) 266 293 true).run Tryz.prog wq=.ok (.tuple #[v2,.bool true]) wq:=(ta_cho _ _ wq).trans (by rfl)
     have cc:=Hi (t_br ih.out hFq2.out (by omega) hn hK2.out)
     clear hK2 hFq;go_wp2_with (first|(at_builtin;refine wpList_append_lies _ rfl (.tmp 21) (.tmp 24) _ rfl w.heap.size 9 i0 _ 1 16 Tryz.underlying50 hi0.out hz0.out hz1.out hz2.out rfl (by decide) u3 ws.length (ws.map .string) rfl (World.ownsRow.alloc (own_below hW.out.own hb.out) _) ⟨w2.heap.size,0,none⟩ 1 1 [.string r] rfl rfl (World.news_of_block (heap_alloc_new w2 _)) (by intro u hu;simp only [List.mem_cons,List.not_mem_nil,or_false] at hu;subst hu;rfl) (by decide) (by unfold maxLen;omega) (by omega) (by have:=hb.out.size;simp;omega) (w2.heap.size+1) (by simp) ?_;intro g' cap' w4 hown4 hg4 hat4 hlt4;have hown5:=Hi hown4;have hg5:=Hi hg4;clear hown4 hg4)|(go_at_call 269;refine cc.out.mono ?_;rintro e w2 ⟨r,rfl,hr3,hb⟩;have hb:=Hi hb))
     go_roundw
     case rel=>exact ⟨i+1,ws++[r],_,m1,by first|rfl|go_num,hlt,Hi (hW.out.put hb.out hr3 hg5.out hown5.out),Hi (by simp [hwl.out]),hr,by omega⟩
     case measure=>simp [intOf];omega
  ·obtain rfl:i=vs.length:=by omega
   have b1:¬ ((vs.length:Int)<(vs.length:Int)):=by omega
   have hs1:=hW.out.sum;have hjl:=join_sumB ws [32];have hs2:([32]:List UInt8).length=1:=rfl;rw [hs2] at hjl;have hjb:(Lib.join (ws.map (·.data.toList)) [32]).length≤8*m:=by omega
   have hjb:=Hi hjb;have own:=hW.out.own;clear hjl hs1 hs2;rcases Go.Joins.ownsRow_forms own with ⟨rfl,h0⟩|⟨g,c,rfl⟩
   ·have cj:=Hi (fun W=>Tryz.strings_Join_none none 0 ⟨#[32]⟩ W)
    clear own;go_wp2_with (go_at_call 276;refine (cj.out _).mono ?_;rintro e w1 ⟨rfl,rfl⟩);go_ret;exact ⟨_,rfl,by show 0+5≤_;omega,hW.out.bel⟩
   ·have hc2:=hW.out.cap;have cj:=Hi (Tryz.strings_Join g 0 c ws ⟨#[32]⟩ wq hW.out.cells hc2.2 (by omega) hc2.1 (by have:=hjb.out;exact Nat.le_trans this (by omega)))
    clear own;go_wp2_with (go_at_call 276;refine cj.out.mono ?_;rintro e w1 ⟨rfl,hb⟩;have hb:=Hi hb);go_ret;refine ⟨_,rfl,?_,hW.out.bel.trans (hb.out.mono hW.out.bel.size)⟩;have:=hjb.out
    show (Lib.join (ws.map (·.data.toList)) [32]).toArray.size+5≤_
    rw [List.size_toArray];omega
theorem t_write_cho {n:Nat}(ih:WrIH n){w:World}{F:Nat→Prop}{v:Value}{vs:List Value}{m:Nat}(hF:∀ b,F b→b<w.heap.size)(hm:m≤n)(hn:n≤100000)(hv:RowIn w F v vs)(hf:Forest w F vs m) :
  Calls Tryz.prog 285 #[v] w fun e w'=>WrPost w (m+1) e w':=by
 rcases hv with ⟨rfl,rfl⟩|⟨gl,cl,csl,fzl,hne,rfl,_,hgl,hcl⟩
 ·have cj:=Hi (fun W=>Tryz.strings_Join_none none 0 ⟨#[32,124,32]⟩ W)
  go_enter Tryz.func285,Tryz.ntmps285;go_wp2_with fail
  go_loopw [3,9] (fun a b wr=>a=.slice none 0 0∧b=.int .i64 0∧wr=w) (fun _ _ _=>0)
  case atStart=>exact ⟨rfl,rfl,rfl⟩
  case round=>
   obtain ⟨rfl,rfl,rfl⟩:=hrel;go_wp2_with (go_at_call 276;refine (cj.out _).mono ?_;rintro e w1 ⟨rfl,rfl⟩);go_ret;exact ⟨_,rfl,by show 0+5≤_;omega,Below.refl _ _⟩
 obtain ⟨i0,hi0,hz0,hz1,hz2⟩:=info_parts strT_info;have hi0:=Hi hi0;have hz0:=Hi hz0;have hz1:=Hi hz1;have hz2:=Hi hz2;have hgl2:=(Array.getElem?_eq_some_iff.1 hgl).1;have hcl:=Hi hcl;have hln:=hf.len;have hF:=Hi hF;have ih:=Hi ih;clear hgl hne;go_enter Tryz.func285,Tryz.ntmps285;go_wp2_with fail
 go_loopw [3,9] (fun a b wr=>∃ (i:Nat) (ws:List ByteArray) (k m2:Nat),b=.int .i64 i∧i≤vs.length∧Hid (Wds w wr a ws k)∧Hid (ws.length=i)∧Hid (Forest w F (vs.drop i) m2)∧k+m2≤m) (fun _ b _=>vs.length-(intOf b).toNat)
 case atStart=>exact ⟨0,[],0,m,rfl,Nat.zero_le _,Hi (Wds.nil w),Hi rfl,Hi hf,by omega⟩
 case round=>
  obtain ⟨i,ws,k,m2,rfl,hi,hW,hwl,hrs,hkm⟩:=hrel;obtain ⟨wq,rfl⟩:∃ wq,wq=wr:=⟨_,rfl⟩
  have hwb:ws.length≤100000:=by rw [hwl.out];omega
  by_cases hlt:i<vs.length
  ·have b1:(i:Int)<(vs.length:Int):=by omega
   have b0:(0:Int)≤(i:Int):=by omega
   have hkI:vs[i]?=some vs[i]:=List.getElem?_eq_getElem hlt;have hdr:=hrs.out;rw [List.drop_eq_getElem_cons hlt] at hdr;obtain ⟨k1,m1,rfl,ht,hr⟩:=hdr.uncons;generalize vs[i]=t at hkI ht;have hr:=Hi hr;have hbl:=hW.out.bel;have ek:wq.cell? ⟨gl,i,none⟩=some t:=(hbl.cell (p:=⟨gl,i,none⟩) hgl2).trans (hcl.out i t hkI);have bwi:=wS i (by omega)
   have hszq:=hbl.size;have hFq:∀ b,F b→b<wq.heap.size:=fun b hb=>Nat.lt_of_lt_of_le (hF.out b hb) hszq
   have hK:=(ht.kind).up (w':=wq) fun b hb=>hbl.block b (hF.out b hb)
   have hK2:=Hi hK;have hFq2:=Hi hFq;clear hkI hdr hrs ht hbl
   cases hK with
   | leaf t a b d=>
     have cc:=Hi (t_write_leaf wq t a b d (by omega))
     have cb:=Hi (fun (W:World) (hB:Below wq.heap.size wq W)=>t_br (w:=W) ih.out (fun b hb=>Nat.lt_of_lt_of_le (hFq2.out b hb) hB.size) (by omega) hn (hK2.out.up fun b hb=>hB.block b (hFq2.out b hb)))
     clear hK2 hFq;go_wp2_with fail;refine cc.out.mono ?_;rintro e w2 ⟨r,rfl,hr5,hb⟩;have cb2:=Hi (cb.out _ hb);have hb:=Hi hb;have hr3:r.size+3≤_:=Nat.le_of_succ_le (Nat.le_of_succ_le hr5);clear hr5 cb
     cases he:r.toList.isEmpty with
     | false=>
       go_wp2_with (at_builtin;refine wpList_append_lies _ rfl (.tmp 19) (.tmp 21) _ rfl w.heap.size 9 i0 _ 1 16 Tryz.underlying50 hi0.out hz0.out hz1.out hz2.out rfl (by decide) u3 ws.length (ws.map .string) rfl (World.ownsRow.alloc (own_below hW.out.own hb.out) _) ⟨w2.heap.size,0,none⟩ 1 1 [.string r] rfl rfl (World.news_of_block (heap_alloc_new w2 _)) (by intro u hu;simp only [List.mem_cons,List.not_mem_nil,or_false] at hu;subst hu;rfl) (by decide) (by unfold maxLen;omega) (by omega) (by have:=hb.out.size;simp;omega) (w2.heap.size+1) (by simp) ?_;intro g' cap' w4 hown4 hg4 hat4 hlt4;have hown5:=Hi hown4;have hg5:=Hi hg4;clear hown4 hg4)
       go_roundw
       case rel=>exact ⟨i+1,ws++[r],_,m1,by first|rfl|go_num,hlt,Hi (hW.out.put hb.out hr3 hg5.out hown5.out),Hi (by simp [hwl.out]),hr,by omega⟩
       case measure=>simp [intOf];omega
     | true=>
       go_wp2_with (first|(at_builtin;refine wpList_append_lies _ rfl (.tmp 19) (.tmp 21) _ rfl w.heap.size 9 i0 _ 1 16 Tryz.underlying50 hi0.out hz0.out hz1.out hz2.out rfl (by decide) u3 ws.length (ws.map .string) rfl (World.ownsRow.alloc (own_below hW.out.own hb3.out) _) ⟨w3.heap.size,0,none⟩ 1 1 [.string r3] rfl rfl (World.news_of_block (heap_alloc_new w3 _)) (by intro u hu;simp only [List.mem_cons,List.not_mem_nil,or_false] at hu;subst hu;rfl) (by decide) (by unfold maxLen;omega) (by omega) (by have:=hb3.out.size;simp;omega) (w3.heap.size+1) (by simp) ?_;intro g' cap' w4 hown4 hg4 hat4 hlt4;have hown5:=Hi hown4;have hg5:=Hi hg4;clear hown4 hg4)|(go_at_call 269;refine cb2.out.mono ?_;rintro e w3 ⟨r3,rfl,hr33,hb3⟩;have hb3:=Hi (hb.out.trans (hb3.mono hb.out.size))))
       go_roundw
       case rel=>exact ⟨i+1,ws++[r3],_,m1,by first|rfl|go_num,hlt,Hi (hW.out.put hb3.out hr33 hg5.out hown5.out),Hi (by simp [hwl.out]),hr,by omega⟩
       case measure=>simp [intOf];omega
   | suf u c k hc hu=>
     have cc:=Hi (ih.out.suf (w:=wq) hFq2.out (by omega) hc hu)
     have cb:=Hi (fun (W:World) (hB:Below wq.heap.size wq W)=>t_br (w:=W) ih.out (fun b hb=>Nat.lt_of_lt_of_le (hFq2.out b hb) hB.size) (by omega) hn (hK2.out.up fun b hb=>hB.block b (hFq2.out b hb)))
     clear hK2 hFq;go_wp2_with fail;refine cc.out.mono ?_;rintro e w2 ⟨r,rfl,hr5,hb⟩;have cb2:=Hi (cb.out _ hb);have hb:=Hi hb;have hr3:r.size+3≤_:=Nat.le_of_succ_le (Nat.le_of_succ_le hr5);clear hr5 cb
     cases he:r.toList.isEmpty with
     | false=>
       go_wp2_with (at_builtin;refine wpList_append_lies _ rfl (.tmp 19) (.tmp 21) _ rfl w.heap.size 9 i0 _ 1 16 Tryz.underlying50 hi0.out hz0.out hz1.out hz2.out rfl (by decide) u3 ws.length (ws.map .string) rfl (World.ownsRow.alloc (own_below hW.out.own hb.out) _) ⟨w2.heap.size,0,none⟩ 1 1 [.string r] rfl rfl (World.news_of_block (heap_alloc_new w2 _)) (by intro u hu;simp only [List.mem_cons,List.not_mem_nil,or_false] at hu;subst hu;rfl) (by decide) (by unfold maxLen;omega) (by omega) (by have:=hb.out.size;simp;omega) (w2.heap.size+1) (by simp) ?_;intro g' cap' w4 hown4 hg4 hat4 hlt4;have hown5:=Hi hown4;have hg5:=Hi hg4;clear hown4 hg4)
       go_roundw
       case rel=>exact ⟨i+1,ws++[r],_,m1,by first|rfl|go_num,hlt,Hi (hW.out.put hb.out hr3 hg5.out hown5.out),Hi (by simp [hwl.out]),hr,by omega⟩
       case measure=>simp [intOf];omega
     | true=>
       go_wp2_with (first|(at_builtin;refine wpList_append_lies _ rfl (.tmp 19) (.tmp 21) _ rfl w.heap.size 9 i0 _ 1 16 Tryz.underlying50 hi0.out hz0.out hz1.out hz2.out rfl (by decide) u3 ws.length (ws.map .string) rfl (World.ownsRow.alloc (own_below hW.out.own hb3.out) _) ⟨w3.heap.size,0,none⟩ 1 1 [.string r3] rfl rfl (World.news_of_block (heap_alloc_new w3 _)) (by intro u hu;simp only [List.mem_cons,List.not_mem_nil,or_false] at hu;subst hu;rfl) (by decide) (by unfold maxLen;omega) (by omega) (by have:=hb3.out.size;simp;omega) (w3.heap.size+1) (by simp) ?_;intro g' cap' w4 hown4 hg4 hat4 hlt4;have hown5:=Hi hown4;have hg5:=Hi hg4;clear hown4 hg4)|(go_at_call 269;refine cb2.out.mono ?_;rintro e w3 ⟨r3,rfl,hr33,hb3⟩;have hb3:=Hi (hb.out.trans (hb3.mono hb.out.size))))
       go_roundw
       case rel=>exact ⟨i+1,ws++[r3],_,m1,by first|rfl|go_num,hlt,Hi (hW.out.put hb3.out hr33 hg5.out hown5.out),Hi (by simp [hwl.out]),hr,by omega⟩
       case measure=>simp [intOf];omega
   | seq v2 us k hv hu=>
     have cc:=Hi (ih.out.seq (w:=wq) hFq2.out (by omega) hv hu)
     have cb:=Hi (fun (W:World) (hB:Below wq.heap.size wq W)=>t_br (w:=W) ih.out (fun b hb=>Nat.lt_of_lt_of_le (hFq2.out b hb) hB.size) (by omega) hn (hK2.out.up fun b hb=>hB.block b (hFq2.out b hb)))
     clear hK2 hFq;go_wp2_with fail;refine cc.out.mono ?_;rintro e w2 ⟨r,rfl,hr5,hb⟩;have cb2:=Hi (cb.out _ hb);have hb:=Hi hb;have hr3:r.size+3≤_:=Nat.le_of_succ_le (Nat.le_of_succ_le hr5);clear hr5 cb
     cases he:r.toList.isEmpty with
     | false=>
       go_wp2_with (at_builtin;refine wpList_append_lies _ rfl (.tmp 19) (.tmp 21) _ rfl w.heap.size 9 i0 _ 1 16 Tryz.underlying50 hi0.out hz0.out hz1.out hz2.out rfl (by decide) u3 ws.length (ws.map .string) rfl (World.ownsRow.alloc (own_below hW.out.own hb.out) _) ⟨w2.heap.size,0,none⟩ 1 1 [.string r] rfl rfl (World.news_of_block (heap_alloc_new w2 _)) (by intro u hu;simp only [List.mem_cons,List.not_mem_nil,or_false] at hu;subst hu;rfl) (by decide) (by unfold maxLen;omega) (by omega) (by have:=hb.out.size;simp;omega) (w2.heap.size+1) (by simp) ?_;intro g' cap' w4 hown4 hg4 hat4 hlt4;have hown5:=Hi hown4;have hg5:=Hi hg4;clear hown4 hg4)
       go_roundw
       case rel=>exact ⟨i+1,ws++[r],_,m1,by first|rfl|go_num,hlt,Hi (hW.out.put hb.out hr3 hg5.out hown5.out),Hi (by simp [hwl.out]),hr,by omega⟩
       case measure=>simp [intOf];omega
     | true=>
       go_wp2_with (first|(at_builtin;refine wpList_append_lies _ rfl (.tmp 19) (.tmp 21) _ rfl w.heap.size 9 i0 _ 1 16 Tryz.underlying50 hi0.out hz0.out hz1.out hz2.out rfl (by decide) u3 ws.length (ws.map .string) rfl (World.ownsRow.alloc (own_below hW.out.own hb3.out) _) ⟨w3.heap.size,0,none⟩ 1 1 [.string r3] rfl rfl (World.news_of_block (heap_alloc_new w3 _)) (by intro u hu;simp only [List.mem_cons,List.not_mem_nil,or_false] at hu;subst hu;rfl) (by decide) (by unfold maxLen;omega) (by omega) (by have:=hb3.out.size;simp;omega) (w3.heap.size+1) (by simp) ?_;intro g' cap' w4 hown4 hg4 hat4 hlt4;have hown5:=Hi hown4;have hg5:=Hi hg4;clear hown4 hg4)|(go_at_call 269;refine cb2.out.mono ?_;rintro e w3 ⟨r3,rfl,hr33,hb3⟩;have hb3:=Hi (hb.out.trans (hb3.mono hb.out.size))))
       go_roundw
       case rel=>exact ⟨i+1,ws++[r3],_,m1,by first|rfl|go_num,hlt,Hi (hW.out.put hb3.out hr33 hg5.out hown5.out),Hi (by simp [hwl.out]),hr,by omega⟩
       case measure=>simp [intOf];omega
   | cho v2 us k hv hu=>
     have cc:=Hi (ih.out.cho (w:=wq) hFq2.out (by omega) hv hu)
     have cb:=Hi (fun (W:World) (hB:Below wq.heap.size wq W)=>t_br (w:=W) ih.out (fun b hb=>Nat.lt_of_lt_of_le (hFq2.out b hb) hB.size) (by omega) hn (hK2.out.up fun b hb=>hB.block b (hFq2.out b hb)))
     clear hK2 hFq;go_wp2_with fail;refine cc.out.mono ?_;rintro e w2 ⟨r,rfl,hr5,hb⟩;have cb2:=Hi (cb.out _ hb);have hb:=Hi hb;have hr3:r.size+3≤_:=Nat.le_of_succ_le (Nat.le_of_succ_le hr5);clear hr5 cb
     cases he:r.toList.isEmpty with
     | false=>
       go_wp2_with (at_builtin;refine wpList_append_lies _ rfl (.tmp 19) (.tmp 21) _ rfl w.heap.size 9 i0 _ 1 16 Tryz.underlying50 hi0.out hz0.out hz1.out hz2.out rfl (by decide) u3 ws.length (ws.map .string) rfl (World.ownsRow.alloc (own_below hW.out.own hb.out) _) ⟨w2.heap.size,0,none⟩ 1 1 [.string r] rfl rfl (World.news_of_block (heap_alloc_new w2 _)) (by intro u hu;simp only [List.mem_cons,List.not_mem_nil,or_false] at hu;subst hu;rfl) (by decide) (by unfold maxLen;omega) (by omega) (by have:=hb.out.size;simp;omega) (w2.heap.size+1) (by simp) ?_;intro g' cap' w4 hown4 hg4 hat4 hlt4;have hown5:=Hi hown4;have hg5:=Hi hg4;clear hown4 hg4)
       go_roundw
       case rel=>exact ⟨i+1,ws++[r],_,m1,by first|rfl|go_num,hlt,Hi (hW.out.put hb.out hr3 hg5.out hown5.out),Hi (by simp [hwl.out]),hr,by omega⟩
       case measure=>simp [intOf];omega
     | true=>
       go_wp2_with (first|(at_builtin;refine wpList_append_lies _ rfl (.tmp 19) (.tmp 21) _ rfl w.heap.size 9 i0 _ 1 16 Tryz.underlying50 hi0.out hz0.out hz1.out hz2.out rfl (by decide) u3 ws.length (ws.map .string) rfl (World.ownsRow.alloc (own_below hW.out.own hb3.out) _) ⟨w3.heap.size,0,none⟩ 1 1 [.string r3] rfl rfl (World.news_of_block (heap_alloc_new w3 _)) (by intro u hu;simp only [List.mem_cons,List.not_mem_nil,or_false] at hu;subst hu;rfl) (by decide) (by unfold maxLen;omega) (by omega) (by have:=hb3.out.size;simp;omega) (w3.heap.size+1) (by simp) ?_;intro g' cap' w4 hown4 hg4 hat4 hlt4;have hown5:=Hi hown4;have hg5:=Hi hg4;clear hown4 hg4)|(go_at_call 269;refine cb2.out.mono ?_;rintro e w3 ⟨r3,rfl,hr33,hb3⟩;have hb3:=Hi (hb.out.trans (hb3.mono hb.out.size))))
       go_roundw
       case rel=>exact ⟨i+1,ws++[r3],_,m1,by first|rfl|go_num,hlt,Hi (hW.out.put hb3.out hr33 hg5.out hown5.out),Hi (by simp [hwl.out]),hr,by omega⟩
       case measure=>simp [intOf];omega
  ·obtain rfl:i=vs.length:=by omega
   have b1:¬ ((vs.length:Int)<(vs.length:Int)):=by omega
   have hs1:=hW.out.sum;have hjl:=join_sumB ws [32,124,32];have hs2:([32,124,32]:List UInt8).length=3:=rfl;rw [hs2] at hjl;have hjb:(Lib.join (ws.map (·.data.toList)) [32,124,32]).length≤8*m:=by omega
   have hjb:=Hi hjb;have own:=hW.out.own;clear hjl hs1 hs2;rcases Go.Joins.ownsRow_forms own with ⟨rfl,h0⟩|⟨g,c,rfl⟩
   ·have cj:=Hi (fun W=>Tryz.strings_Join_none none 0 ⟨#[32,124,32]⟩ W)
    clear own;go_wp2_with (go_at_call 276;refine (cj.out _).mono ?_;rintro e w1 ⟨rfl,rfl⟩);go_ret;exact ⟨_,rfl,by show 0+5≤_;omega,hW.out.bel⟩
   ·have hc2:=hW.out.cap;have cj:=Hi (Tryz.strings_Join g 0 c ws ⟨#[32,124,32]⟩ wq hW.out.cells hc2.2 (by omega) hc2.1 (by have:=hjb.out;exact Nat.le_trans this (by omega)))
    clear own;go_wp2_with (go_at_call 276;refine cj.out.mono ?_;rintro e w1 ⟨rfl,hb⟩;have hb:=Hi hb);go_ret;refine ⟨_,rfl,?_,hW.out.bel.trans (hb.out.mono hW.out.bel.size)⟩;have:=hjb.out
    show (Lib.join (ws.map (·.data.toList)) [32,124,32]).toArray.size+5≤_
    rw [List.size_toArray];omega
theorem wr_all:∀ n,n≤100000→WrIH n
 | 0,_=>⟨fun _ h=>by omega,fun _ h=>by omega,fun _ h=>by omega⟩
 | n+1,hn=>by
   have ih:=wr_all n (by omega)
   exact ⟨fun hF hm hc hu=>t_write_suf ih hF (by omega) (by omega) hc hu,fun hF hm hv hu=>t_write_seq ih hF (by omega) (by omega) hv hu,fun hF hm hv hu=>t_write_cho ih hF (by omega) (by omega) hv hu⟩
theorem step_info:(Tryz.prog.info? 274).map (fun i=>(i.zero,i.size,i.bytes))=some (some (.agg #[.nilFunc,.int .i64 0,.int .i64 0,.bool false]),4,32):=by kernel_rfl
structure EmTo (w w':World)(B:Nat)(v v':Value)(n n':Nat):Prop where
 own:∃ xs,w'.ownsRow B 274 4 v' n' xs
 grown:w.grownBy w' v.ownBlock
 at_:v'.ownBlock=v.ownBlock∨∃ g,v'.ownBlock=some g∧w.heap.size≤g
 le:n≤n'
theorem EmTo.trans {w w1 w2:World}{B n n1 n2:Nat}{v v1 v2:Value}(h:EmTo w w1 B v v1 n n1)(k:EmTo w1 w2 B v1 v2 n1 n2):EmTo w w2 B v v2 n n2:=by
 refine ⟨k.own,⟨k.grown.os.trans h.grown.os,k.grown.tape.trans h.grown.tape,k.grown.output.trans h.grown.output,Nat.le_trans h.grown.size k.grown.size,fun b hb hn=>?_⟩,?_,Nat.le_trans h.le k.le⟩
 ·refine (k.grown.block b (Nat.lt_of_lt_of_le hb h.grown.size) ?_).trans (h.grown.block b hb hn);rcases h.at_ with e|⟨g,e,hg⟩
  ·rw [e];exact hn
  ·rw [e];intro e2;cases e2;omega
 ·rcases k.at_ with e|⟨g,e,hg⟩
  ·rw [e];exact h.at_
  ·exact .inr ⟨g,e,Nat.le_trans h.grown.size hg⟩
theorem EmTo.refl {w:World}{B n:Nat}{v:Value}{xs:List Value}(h:w.ownsRow B 274 4 v n xs):EmTo w w B v v n n:=
 ⟨⟨xs,h⟩,⟨rfl,rfl,rfl,Nat.le_refl _,fun _ _ _=>rfl⟩,.inl rfl,Nat.le_refl _⟩
theorem EmTo.below {w w1:World}{B n:Nat}{v:Value}{xs:List Value}(h:w.ownsRow B 274 4 v n xs)(hb:Below w.heap.size w w1):EmTo w w1 B v v n n:=
 ⟨⟨xs,own_below h hb⟩,⟨hb.os,hb.tape,hb.output,hb.size,fun b hb2 _=>hb.block b hb2⟩,.inl rfl,Nat.le_refl _⟩
theorem EmTo.push {w w4:World}{B n g cap:Nat}{v:Value}{o:Obj}{xs:List Value}(hg:(w.alloc o).grownBy w4 v.ownBlock)(ho:w4.ownsRow B 274 4 (.slice (some ⟨g,0,none⟩) (n+1) cap) (n+1) xs)(hat:v.ownBlock=some g∨g=w.heap.size+1) :
  EmTo w w4 B v (.slice (some ⟨g,0,none⟩) (n+1) cap) n (n+1):=by
 refine ⟨⟨xs,ho⟩,⟨hg.os,hg.tape,hg.output,by have:=hg.size;simp at this;omega,fun b hb hn=>(hg.block b (by simp;omega) hn).trans (heap_alloc_old w _ hb)⟩,?_,Nat.le_succ n⟩
 rcases hat with e|e
 ·exact .inl e.symm
 ·exact .inr ⟨g,rfl,by omega⟩
theorem EmTo.store {w:World}{B n g cap j:Nat}{xs:List Value}{u:Value}(h:w.ownsRow B 274 4 (.slice (some ⟨g,0,none⟩) n cap) n xs) :
  EmTo w (w.setCell ⟨g,j,none⟩ u) B (.slice (some ⟨g,0,none⟩) n cap) (.slice (some ⟨g,0,none⟩) n cap) n n:=by
 obtain ⟨h1,h2⟩:=World.ownsRow.stored h j u;exact ⟨⟨_,h1⟩,h2,.inl rfl,Nat.le_refl _⟩
theorem EmTo.block {w w':World}{B n n':Nat}{v v':Value}{xs:List Value}(h:EmTo w w' B v v' n n')(hv:w.ownsRow B 274 4 v n xs){b:Nat}(hb:b<w.heap.size)(hB:b<B):w'.heap[b]?=w.heap[b]?:=
 h.grown.block b hb fun e=>by have:=(hv.lt b e.symm).1;omega
def EmPost (w:World)(B:Nat)(v:Value)(n k:Nat)(e:Ending)(w':World):Prop:=∃ v' n',e=.returned v'∧EmTo w w' B v v' n n'∧n'+2≤n+4*k
theorem t_emit_leaf {w:World}{B n:Nat}{v:Value}{xs:List Value}(t:ByteArray)(a b c:Bool)(hv:w.ownsRow B 274 4 v n xs)(hB:B≤w.heap.size)(hn:n≤1000000) :
  Calls Tryz.prog 270 #[.agg #[.string t,.bool a,.bool b,.bool c],v] w fun e w'=>EmPost w B v n (t.size+2) e w':=by
 have hmf:∀ (fn:Fn) (first cap:Array Value) (w:World),(Instr.makeFunc fn first cap).run Tryz.prog w=.ok (.func fn first cap) w:=fun _ _ _ _=>rfl
 obtain ⟨i0,hi0,hz0,hz1,hz2⟩:=info_parts step_info;have hi0:=Hi hi0;have hz0:=Hi hz0;have hz1:=Hi hz1;have hz2:=Hi hz2;obtain ⟨wa,hwa⟩:∃ wa,w.alloc (.cells #[.string t,.bool a,.bool b,.bool c] 285 (0,0))=wa:=⟨_,rfl⟩
 have hba:Below w.heap.size w wa:=by rw [← hwa];exact (Below.refl _ w).alloc (Nat.le_refl _) _
 have hza:wa.heap[w.heap.size]?=some (.cells #[.string t,.bool a,.bool b,.bool c] 285 (0,0)):=by rw [← hwa];exact heap_alloc_new w _
 have z0:=cell_of_row wa w.heap.size 0 _ _ _ hza;have z1:=cell_of_row wa w.heap.size 1 _ _ _ hza;have z2:=cell_of_row wa w.heap.size 2 _ _ _ hza;have z3:=cell_of_row wa w.heap.size 3 _ _ _ hza;simp only [List.getElem?_toArray,List.getElem?_cons_zero,List.getElem?_cons_succ] at z0 z1 z2 z3;have E1:=EmTo.below hv hba;have ov:wa.ownsRow B 274 4 v n xs:=own_below hv hba;have hBa:B≤wa.heap.size:=Nat.le_trans hB hba.size;have ov:=Hi ov;have E1:=Hi E1;clear hv hza;go_enter Tryz.func270,Tryz.ntmps270;go_wp2_with (at_builtin;refine wpList_append_lies _ rfl (.tmp 5) (.tmp 9) _ rfl B 274 i0 _ 4 32 Tryz.underlying269 hi0.out hz0.out hz1.out hz2.out rfl (by decide) v n xs rfl (World.ownsRow.alloc ov.out _) ⟨wa.heap.size,0,none⟩ 1 1 [.func (.func 272) #[.agg #[.string t,.bool a,.bool b,.bool c]] #[],.int .i64 0,.int .i64 0,.bool false] rfl rfl (World.news_of_block (heap_alloc_new wa _)) (oc _ rfl) (by decide) (by unfold maxLen;omega) (by omega) (by simp;omega) (wa.heap.size+1) (by simp) ?_;intro g' cap' w4 hown4 hg4 hat4 hlt4;have hown5:=Hi hown4;have hg5:=Hi hg4;have hat5:=Hi hat4;clear hown4 hg4 hat4)
 go_ret;exact ⟨_,n+1,rfl,E1.out.trans (EmTo.push hg5.out hown5.out hat5.out),by omega⟩
end Go.Proofs.YtjokciofeicdkaaGreatDoor
