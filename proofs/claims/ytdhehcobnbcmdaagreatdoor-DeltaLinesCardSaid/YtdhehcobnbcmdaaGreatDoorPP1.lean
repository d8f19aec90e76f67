/- A part of the proof of DeltaLines: Prt1 Prt2 Prt3. -/
import Derived.Test.YtdhehcobnbcmdaaGreatDoorPWr
import Derived.Test.YtdhehcobnbcmdaaGreatDoorPE6
import Derived.Test.YtdhehcobnbcmdaaGreatDoorPTe
import Derived.Test.YtdhehcobnbcmdaaGreatDoorPNm
import Derived.Test.YtdhehcobnbcmdaaGreatDoorPMo6
set_option linter.all false
namespace Go.Proofs.YtdhehcobnbcmdaaGreatDoor
open Go.RowKit
def SameS (s:ByteArray)(w:World)(e:Ending)(w'':World):Prop:=e=.returned (.string s)∧w''=w
set_option maxHeartbeats 1600000 in
theorem c_name (s:ByteArray)(h:goodN s=true)(w:World):Calls Tryz.prog 83 #[.string s] w (SameS s w):=by
  have hz:=goodN_le h
  have c:=Lib.hid fun w'=>c_isName s w' (by omega)
  have hg:Hid ((isName (bs s) && !resB s)=true):=Lib.hid h
  go_enter Tryz.func83,Tryz.ntmps83
  go_wp2_with (go_at_call 115;refine (c.out _).mono ?_;rintro e w2 ⟨rfl,rfl⟩;rw [hg.out];clear c)
  go_ret
  exact ⟨rfl,rfl⟩
set_option maxHeartbeats 1600000 in
theorem c_number (v:Int)(h0:0≤v)(h1:v≤4294967295)(w:World)(E:Env w):Calls Tryz.prog 81 #[.int .i64 v] w (StrW (numT v) w):=by
  have c1:=Lib.hid (Tryz.strconv_Itoa v (by omega) (by omega) w E.pow)
  have c2:=Lib.hid (n_dot v h0 h1 w E)
  have d0:decide (v≥0)=true:=decide_eq_true h0
  by_cases h:v<65536
  · have hN:=Lib.hid (show numT v=itoaB v by unfold numT;rw [if_pos h])
    have d1:decide (v<65536)=true:=decide_eq_true h
    go_enter Tryz.func81,Tryz.ntmps81
    go_wp2_with (go_at_call 21;refine c1.out.mono ?_;rintro e w2 ⟨rfl,k,os,hw⟩;have hb:Hid (Below w.heap.size w w2):=Lib.hid (hw▸below_os w k os);clear hw)
    go_ret
    exact ⟨by rw [hN.out];rfl,hb.out⟩
  · have hN:=Lib.hid (show numT v=ba (quadL v) by unfold numT;rw [if_neg h])
    have d1:decide (v<65536)=false:=decide_eq_false h
    go_enter Tryz.func81,Tryz.ntmps81
    go_wp2_with (go_at_call 113;refine c2.out.mono ?_;rintro e w2 ⟨rfl,hb⟩;have hb2:=Lib.hid hb;clear hb)
    go_ret
    exact ⟨by rw [hN.out];rfl,hb2.out⟩
set_option maxHeartbeats 1600000 in
theorem c_nodes (l:List NodeS)(v:Value)(B:Nat)(w:World)(hl:Nodes w B v l)(hB:B≤w.heap.size)(hW:WrN l)(E:Env w):Calls Tryz.prog 84 #[v] w (StrW (nodesT l) w):=by
  have c:=Lib.hid (x_Print l v B w hl hB hW E)
  generalize nodesT l=T at *
  clear hl
  go_enter Tryz.func84,Tryz.ntmps84
  go_wp2_with (go_at_call 116;refine c.out.mono ?_;rintro e w2 ⟨rfl,hb⟩;have hb2:=Lib.hid hb;clear hb)
  go_ret
  exact ⟨rfl,hb2.out⟩
theorem names_get {l:List ByteArray}(h:Names l){k:Nat}{x:ByteArray}(hx:l[k]?=some x):goodN x=true:=h x (List.mem_of_getElem? hx)
set_option maxHeartbeats 1600000 in
theorem c_names (l:List ByteArray)(v:Value)(sep:ByteArray)(B:Nat)(w:World)(hl:Texts w B v l)(hB:B≤w.heap.size)(h0:0<l.length)(hn:Names l)(hs:sep.size≤1000)(h1:l.length≤1000):Calls Tryz.prog 109 #[v, .string sep] w (StrW (joinT l sep) w):=by
  obtain ⟨A,cap,rfl,hc1,hc2⟩:=SlOf.form hl
  obtain ⟨b,off,rfl⟩:=SlOf.addr hl h0
  have hjl:=joinT_le hn sep
  have hjl2:(Lib.join (l.map (·.data.toList)) sep.data.toList).length≤140737488355328:=by
    have e:(joinT l sep).size=(Lib.join (l.map (·.data.toList)) sep.data.toList).length:=by unfold joinT;rfl
    rw [← e]
    have:(24+sep.size)*l.length≤1024*1000:=Nat.mul_le_mul (by omega) h1
    omega
  have hbB:b<B:=(texts_el hl h0).1
  have c:=Lib.hid (Tryz.strings_Join b off cap l sep w (fun j x hx=>by
    obtain ⟨_,y,hy,_,e0⟩:=texts_el hl (List.getElem?_eq_some_iff.1 hx).1
    rw [hx] at hy
    injection hy with hy
    rw [e0,hy]) (by omega) hc2.2 hc1 hjl2)
  replace hl:=Lib.hid hl
  replace hn:=Lib.hid hn
  have hT:Hid ((⟨(Lib.join (l.map (·.data.toList)) sep.data.toList).toArray⟩:ByteArray)=joinT l sep):=Lib.hid rfl
  rw [hT.out] at c
  clear hT hjl hjl2
  generalize joinT l sep=T at *
  go_enter Tryz.func109,Tryz.ntmps109
  go_wp2_with fail
  go_loopw [9] (fun i wr=>wr=w∧∃ k:Nat,k≤l.length∧i=.int .i64 k) (fun i _=>l.length-(intOf i).toNat)
  case atStart=>exact ⟨rfl,0,Nat.zero_le _,rfl⟩
  case round=>
    obtain ⟨rfl,k,hk,rfl⟩:=hrel
    by_cases hlt:k<l.length
    · obtain ⟨_,x,hx,_,e0⟩:=texts_el hl.out hlt
      have cn:=Lib.hid fun W=>c_name x (names_get hn.out hx) W
      clear hx
      go_wp2_with (go_at_call 83;refine (cn.out _).mono ?_;rintro e w2 ⟨rfl,rfl⟩)
      go_roundw
      case rel=>exact ⟨by trivial,k+1,by omega,by go_num⟩
      case measure=>simp [intOf];omega
    · go_wp2_with (go_at_call 63;refine c.out.mono ?_;rintro e w2 ⟨rfl,hb⟩;have hb2:=Lib.hid hb;clear hb)
      go_ret
      exact ⟨rfl,hb2.out⟩
theorem cut_list:∀ (a b:Bytes),(∀ c∈a,¬ c=46)→Lib.indexByte (a++46::b) 46=a.length
  | [],b,_=>rfl
  | x :: r, b, h => by
    have h1:=cut_list r b fun c hc=>h c (by simp [hc])
    have h2:(x == (46:UInt8))=false:=by simpa using h x (by simp)
    show (if x == 46 then 0 else if Lib.indexByte (r++46::b) 46 == -1 then -1 else Lib.indexByte (r++46::b) 46+1)=_
    rw [h2,h1,if_neg (by simp),if_neg (by simp)]
    simp
theorem goodN_dot {s:ByteArray}(h:goodN s=true):∀ c∈s.data.toList,¬ c=46:=by
  intro c hc e
  subst e
  unfold goodN isName at h
  simp only [Bool.and_eq_true] at h
  have h1:=nm_each true _ h.1.2.2 46 hc
  revert h1
  decide
theorem cut_full {a b:ByteArray}(ha:goodN a=true):Lib.cut (fullB a b).data.toList [46]=(a.data.toList,b.data.toList,true):=by
  have e:(fullB a b).data.toList=a.data.toList++46::b.data.toList:=by unfold fullB dotB;simp
  have h1:=cut_list a.data.toList b.data.toList (goodN_dot ha)
  unfold Lib.cut
  rw [e,Lib.index_one,h1,if_pos (by omega),Int.toNat_natCast]
  congr 1
  · exact List.take_left
  · congr 1
    have e2:a.data.toList++46::b.data.toList=(a.data.toList++[46])++b.data.toList:=by simp
    rw [e2,show a.data.toList.length+[(46:UInt8)].length=(a.data.toList++[46]).length by simp]
    exact List.drop_left
set_option maxHeartbeats 1600000 in
theorem c_isPort (s:ByteArray)(h:Full s)(w:World)(E:Env w):Calls Tryz.prog 112 #[.string s] w (YesW w):=by
  obtain ⟨a,b,ha,hb,rfl⟩:=h
  have za:=goodN_le ha
  have zb:=goodN_le hb
  have hsz:=full_le ⟨a,b,ha,hb,rfl⟩
  obtain ⟨m,hm⟩:=E.maxlen
  have c:=Tryz.strings_Cut (fullB a b) ⟨#[46]⟩ m w (by omega) hm
  rw [show (⟨#[46]⟩:ByteArray).data.toList=[46] from rfl,cut_full ha] at c
  have e1:(⟨a.data.toList.toArray⟩:ByteArray)=a:=Lib.mk_data a
  have e2:(⟨b.data.toList.toArray⟩:ByteArray)=b:=Lib.mk_data b
  simp only [e1,e2] at c
  replace c:=Lib.hid c
  have n1:=Lib.hid fun w'=>c_isName a w' (by omega)
  have n2:=Lib.hid fun w'=>c_isName b w' (by omega)
  have g1:Hid ((isName (bs a) && !resB a)=true):=Lib.hid ha
  have g2:Hid ((isName (bs b) && !resB b)=true):=Lib.hid hb
  clear hm
  go_enter Tryz.func112,Tryz.ntmps112
  go_wp2_with (first
    | (go_at_call 141;refine c.out.mono ?_;rintro e w2 ⟨rfl,n,rfl⟩;have hbN:=Lib.hid (below_drewN (Below.refl w.heap.size w) n);clear c)
    | (go_at_call 115;refine (n1.out _).mono ?_;rintro e w2 ⟨rfl,rfl⟩;rw [g1.out];clear n1)
    | (go_at_call 115;refine (n2.out _).mono ?_;rintro e w2 ⟨rfl,rfl⟩;rw [g2.out];clear n2))
  go_ret
  exact ⟨rfl,hbN.out⟩
set_option maxHeartbeats 1600000 in
theorem c_port (s:ByteArray)(h:Full s)(w:World)(E:Env w):Calls Tryz.prog 80 #[.string s] w (StrW s w):=by
  have c:=Lib.hid (c_isPort s h w E)
  go_enter Tryz.func80,Tryz.ntmps80
  go_wp2_with (go_at_call 112;refine c.out.mono ?_;rintro e w2 ⟨rfl,hb⟩;have hb2:=Lib.hid hb;clear hb c)
  go_ret
  exact ⟨rfl,hb2.out⟩
theorem row_lit (w:World):(w.alloc (.cells #[.int .u8 34] 5 (0,0))).ownsRow w.heap.size 5 1 (.slice (some ⟨w.heap.size,0,none⟩) 1 1) 1 (Lib.byteCells [34]):=
  ⟨rfl, .inr ⟨w.heap.size,1,_,rfl,Nat.le_refl _,heap_alloc_new w _,Nat.le_refl _,by decide,rfl,rfl⟩⟩
set_option maxHeartbeats 2000000 in
set_option maxRecDepth 100000 in
theorem n_Quote0 (w:World):Calls Tryz.prog 107 #[.string ⟨#[]⟩] w fun e w'=>(∃ s,e=.returned (.tuple #[.string s, .int .i64 0]))∧Below w.heap.size w w':=by
  obtain ⟨W1,hW1⟩:∃ W1,w.alloc (.cells #[.int .u8 34] 5 (0,0))=W1:=⟨_,rfl⟩
  have hz1:Hid (W1.heap.size=w.heap.size+1):=Lib.hid (by rw [← hW1];simp)
  have hb1:=Lib.hid (show Below w.heap.size w W1 by rw [← hW1];exact (Below.refl _ _).alloc (Nat.le_refl _) _)
  have hR1:=Lib.hid (show W1.ownsRow w.heap.size 5 1 (.slice (some ⟨w.heap.size,0,none⟩) 1 1) 1 (Lib.byteCells [34]) by rw [← hW1];exact row_lit w)
  have hnx:=fun ty=>run_next_end (P:=Tryz.prog) W1 ⟨#[]⟩ 0 ty (Nat.lt_irrefl _)
  go_enter Tryz.func107,Tryz.ntmps107
  go_wp2_with fail
  have hR2:=Lib.hid (hR1.out.alloc (.stringIter ⟨#[]⟩ 0))
  have hb2:=Lib.hid (hb1.out.alloc hb1.out.size (.stringIter ⟨#[]⟩ 0))
  have hzI:Hid ((W1.alloc (.stringIter ⟨#[]⟩ 0)).heap.size=w.heap.size+2):=Lib.hid (by have:=hz1.out;simp;omega)
  obtain ⟨wI,hwI⟩:∃ wI,wI=W1.iter ⟨#[]⟩ 0:=⟨_,rfl⟩
  rw [← hwI] at hnx
  rw [show W1.alloc (.stringIter ⟨#[]⟩ 0)=wI from hwI.symm] at hR2 hb2 hzI
  rw [← hwI]
  clear hW1 hwI
  refine wp_loop_rounds 1 ?_
  rw [rounds_succ]
  go_wp2_with (at_builtin;refine push_one elByte rfl _ _ rfl w.heap.size 1 _ _ rfl hR2.out wI.heap.size rfl (.int .u8 34) rfl rfl (by decide) (by decide) hb2.out.size ?_;intro g cap w4 ho4 hb4 _;have hcv:=conv_own (xs:=[34,34]) ho4 rfl;have hb5:=Lib.hid (hb2.out.trans hb4);clear ho4 hb4)
  go_ret2
  exact ⟨⟨_,rfl⟩,hb5.out⟩
set_option maxHeartbeats 2000000 in
theorem c_line (B b:Nat)(l:Bytes)(s:ByteArray)(w:World)(h:BAt 136 B b l w)(hlen:l.length+s.size+1≤140737488355328)(hB:B≤w.heap.size) :
    Calls Tryz.prog 82 #[.pointer (some ⟨b,0,none⟩), .string s] w fun e w'=>(∃ v,e=.returned v)∧BAt 136 B b (l++(s.data.toList++[10])) w'∧Below B w w'∧KeepB b w w':=by
  have c1:=Lib.hid (bl_str btyP B b l s w h (by omega) hB)
  have c2:=Lib.hid fun w' (h':BAt 136 B b (l++s.data.toList) w') (hB':B≤w'.heap.size)=>bl_byte btyP B b (l++s.data.toList) 10 w' h' (by rw [List.length_append,show s.data.toList.length=s.size from rfl];exact hlen) hB'
  clear h
  go_enter Tryz.func82,Tryz.ntmps82
  go_wp2_with (first
    | (go_at_call 101;refine c1.out.mono ?_;rintro e w2 ⟨⟨v,rfl⟩,hA,hb,hk⟩;have hA2:=Lib.hid hA;have hb2:=Lib.hid hb;have hk2:=Lib.hid hk;clear hA hb hk)
    | (go_at_call 114;refine (c2.out _ hA2.out (Nat.le_trans hB hb2.out.size)).mono ?_;rintro e w3 ⟨⟨v3,rfl⟩,hA,hb,hk⟩;have hA3:=Lib.hid hA;have hb3:=Lib.hid (hb2.out.trans hb);have hk3:=Lib.hid (hk2.out.trans hk);clear hA hb hk))
  go_end0
  exact ⟨⟨_,rfl⟩,by rw [← List.append_assoc];exact hA3.out,hb3.out,hk3.out⟩
set_option maxHeartbeats 4000000 in
theorem c_prefix (o:PrefS)(h:WrP o)(w:World)(E:Env w):Calls Tryz.prog 111 #[.agg #[.int .i64 o.value, .int .i64 o.len, .string o.dst]] w (StrW (prefT o) w):=by
  obtain ⟨W,hW⟩:∃ W,w.alloc (.cells #[.int .i64 o.value, .int .i64 o.len, .string o.dst] 79 (0,0))=W:=⟨_,rfl⟩
  have hbW:=Lib.hid (show Below w.heap.size w W by rw [← hW];exact (Below.refl w.heap.size w).alloc (Nat.le_refl _) _)
  have hX:W.heap[w.heap.size]?=some (.cells #[.int .i64 o.value, .int .i64 o.len, .string o.dst] 79 (0,0)):=by rw [← hW];exact heap_alloc_new w _
  have hlt:w.heap.size<W.heap.size:=by rw [← hW];simp
  obtain ⟨x0,_,_⟩:=cells3' hX
  have hcx:=Lib.hid fun W' (hb:Below W.heap.size W W')=>cells3' ((hb.block _ hlt).trans hX)
  have hz:=Lib.hid fun W' (hb:Below W.heap.size W W')=>hbW.out.trans (hb.mono hbW.out.size)
  have c1:=Lib.hid (n_dot o.value h.value.1 h.value.2 W (E.below hbW.out))
  have c2:=Lib.hid fun W' (hb:Below W.heap.size W W')=>c_number o.len h.len.1 (by have:=h.len.2;omega) W' (E.below (hz.out W' hb))
  have c3:=Lib.hid fun W'=>c_name o.dst h.dst W'
  have hN:=Lib.hid (show prefT o=(((ba (quadL o.value)++ba [47])++numT o.len)++ba [32,116,111,32])++o.dst from rfl)
  have zd:=goodN_le h.dst
  have zn:=numT_le h.len.1
  have zq:=quadL_le (v:=o.value)
  generalize hq:ba (quadL o.value)=Q at *
  have zQ:Q.size≤15:=by rw [← hq];exact zq
  generalize numT o.len=T at *
  generalize prefT o=P at *
  clear hX hq zq h
  go_enter Tryz.func111,Tryz.ntmps111
  go_wp2_with (go_at_call 113;refine c1.out.mono ?_;rintro e w2 ⟨rfl,hb⟩;have hb2:=Lib.hid hb;clear hb c1)
  obtain ⟨_,y1,y2⟩:=hcx.out _ hb2.out
  have hl2:w.heap.size<w2.heap.size:=Nat.lt_of_lt_of_le hlt hb2.out.size
  have hd:=Lib.hid (Below.refl w2.heap.size w2).drew
  have g1:¬ 9223372036854775807<Q.size+1:=by omega
  have g2:¬ 9223372036854775807<Q.size+1+T.size:=by omega
  have g3:¬ 9223372036854775807<Q.size+1+T.size+4:=by omega
  have g4:¬ 9223372036854775807<Q.size+1+T.size+4+o.dst.size:=by omega
  go_region_held3 (fun W'=>W'.cell? ⟨w.heap.size,1,none⟩=some (.int .i64 o.len)∧W'.cell? ⟨w.heap.size,2,none⟩=some (.string o.dst))
    (first|exact hHeld|go_keep|exact ⟨(hbk.cell (p:=⟨w.heap.size,1,none⟩) hl2).trans y1,(hbk.cell (p:=⟨w.heap.size,2,none⟩) hl2).trans y2⟩)
    ((first
      | (go_at_call 81;(with_reducible refine (c2.out _ (hb2.out.trans (hd.out.mono hb2.out.size))).mono ?_);rintro e wy ⟨rfl,hbB⟩;have hbk:=hd.out.trans (hbB.mono hd.out.size))
      | (go_at_call 83;(with_reducible refine (c3.out _).mono ?_);rintro e wz ⟨rfl,rfl⟩)))
  all_goals
    go_wp2_with fail
    go_ret
    exact ⟨by rw [hN.out];rfl,hz.out _ (hb2.out.trans (hbk.mono hb2.out.size))⟩
theorem setsT_step (acc:ByteArray)(k:Nat)(x:SetS)(r:List SetS):setsT acc k (x::r)=setsT ((acc++(if k=0 then ba [32,115,101,116,32] else ba [44,32]))++setT x) (k+1) r:=rfl
set_option maxHeartbeats 8000000 in
set_option maxRecDepth 100000 in
theorem c_rule (u : RuleS) (cc : List Value) (B : Nat) (w : World) (hc : RuleC w B cc u) (hB : B ≤ w.heap.size) (h : WrR u) (E : Env w) : Calls Tryz.prog 110 #[.agg cc.toArray] w (StrW (ruleT u) w) := by
  obtain ⟨Af,cf,Am,cm,As,cs,At,ct,rfl,t1,t2,t3,t4⟩:=rule_form hc
  have sS:u.sets.length≤cs:=by obtain ⟨_,_,h,h1,_⟩:=SlOf.form t3;injection h with _ _ h;subst h;exact h1
  obtain ⟨W,hW⟩:∃ W,w.alloc (.cells #[I6 u.prio, .slice Af u.frm.length cf, .slice Am u.mat.length cm, .slice As u.sets.length cs, .slice At u.dst.length ct] 51 (0,0))=W:=⟨_,rfl⟩
  have hbW:=Lib.hid (show Below w.heap.size w W by rw [← hW];exact (Below.refl w.heap.size w).alloc (Nat.le_refl _) _)
  have hX:W.heap[w.heap.size]?=some (.cells #[I6 u.prio, .slice Af u.frm.length cf, .slice Am u.mat.length cm, .slice As u.sets.length cs, .slice At u.dst.length ct] 51 (0,0)):=by rw [← hW];exact heap_alloc_new w _
  have hlt:w.heap.size<W.heap.size:=by rw [← hW];simp
  obtain ⟨x0,x1,x2,x3,x4⟩:=cells5 hX
  have hcx:=Lib.hid fun W' (hb:Below W.heap.size W W')=>cells5 ((hb.block _ hlt).trans hX)
  have hz:=Lib.hid fun W' (hb:Below W.heap.size W W')=>hbW.out.trans (hb.mono hbW.out.size)
  have hk:=Lib.hid fun W' (hb:Below W.heap.size W W') b o (h:b<B)=>keepB (hz.out W' hb) hB b o h
  have c1:=Lib.hid (c_number u.prio h.prio.1 (by have:=h.prio.2;omega) W (E.below hbW.out))
  have c2:=Lib.hid fun W' (hb:Below W.heap.size W W') (h0:0<u.frm.length)=>c_names u.frm _ (ba [32]) B W' (t1.keep (Nat.le_refl _) (hk.out W' hb)) (by have:=(hz.out W' hb).size;omega) h0 h.frm.1 (by decide) (by have:=h.frm.2;omega)
  have c3:=Lib.hid fun W' (hb:Below W.heap.size W W')=>c_nodes u.mat _ B W' (pureSl t2 (Nat.le_refl _) (hk.out W' hb)) (by have:=(hz.out W' hb).size;omega) h.mat (E.below (hz.out W' hb))
  have c4:=Lib.hid fun W' (hb:Below W.heap.size W W') (h0:0<u.dst.length)=>c_names u.dst _ (ba [44,32]) B W' (t4.keep (Nat.le_refl _) (hk.out W' hb)) (by have:=(hz.out W' hb).size;omega) h0 h.dst.1 (by decide) (by have:=h.dst.2;omega)
  have hSl:=Lib.hid fun W' (hb:Below W.heap.size W W')=>pureSl t3 (Nat.le_refl _) (hk.out W' hb)
  have E':=Lib.hid fun W' (hb:Below W.heap.size W W')=>E.below (hz.out W' hb)
  have z1:=rule1_le h
  have z2:=rule2_le h
  have z3:=rule3_le h
  have z4:=rule4_le h
  have zs:=h.sets.1
  have hset:=Lib.hid h.sets.2
  have zn:=numT_le h.prio.1
  have zj1:=joinT_le h.frm.1 (ba [32])
  have zm:=nodesT_le h.mat
  have zj2:=joinT_le h.dst.1 (ba [44,32])
  have zf:=h.frm.2
  have zd:=h.dst.2
  have e1:=Lib.hid (show rule1 u=ba [114,117,108,101,32]++numT u.prio from rfl)
  have e2:=Lib.hid (show rule2 u=if u.frm.length=0 then rule1 u else rule1 u++(ba [32,102,114,111,109,32]++joinT u.frm (ba [32])) from rfl)
  have e3:=Lib.hid (show rule3 u=rule2 u++(ba [32,109,97,116,99,104,32]++nodesT u.mat) from rfl)
  have e4:=Lib.hid (show rule4 u=setsT (rule3 u) 0 u.sets from rfl)
  have e5:=Lib.hid (show ruleT u=if u.dst.length=0 then rule4 u++ba [32,100,114,111,112] else (rule4 u++ba [32,116,111,32])++joinT u.dst (ba [44,32]) from rfl)
  have z24:(24+(ba [32]).size)*u.frm.length≤1200:=by rw [ba_size];simp only [List.length_cons,List.length_nil];omega
  have z25:(24+(ba [44,32]).size)*u.dst.length≤104:=by rw [ba_size];simp only [List.length_cons,List.length_nil];omega
  have zj1':(joinT u.frm (ba [32])).size≤1200:=by omega
  have zj2':(joinT u.dst (ba [44,32])).size≤104:=by omega
  clear zj1 zj2 z24 z25 h t1 t2 t3 t4 hc hX
  generalize numT u.prio=T1 at *
  generalize joinT u.frm (ba [32])=T2 at *
  generalize nodesT u.mat=T3 at *
  generalize joinT u.dst (ba [44,32])=T4 at *
  generalize rule1 u=R1 at *
  generalize rule2 u=R2 at *
  generalize rule3 u=R3 at *
  generalize rule4 u=R4 at *
  generalize ruleT u=R5 at *
  have g1:¬ 9223372036854775807<5+T1.size:=by omega
  go_enter Tryz.func110,Tryz.ntmps110
  go_upto_region 2 with (go_at_call 81;refine c1.out.mono ?_;rintro e w2 ⟨rfl,hb⟩;have hb2:=Lib.hid hb;clear hb c1)
  rw [show (⟨#[114,117,108,101,32]⟩:ByteArray)++T1=R1 from e1.out.symm]
  clear hW x0 x1 x2 x3 x4 g1
  obtain ⟨x0,x1,x2,x3,x4⟩:=hcx.out _ hb2.out
  go_upto_if 13 with fail
  go_cut [3] (fun s wx=>s=.string R2∧Hid (Below W.heap.size W wx))
  case first=>
    by_cases h0:u.frm.length=0
    · have hE:=Lib.hid (e2.out.trans (if_pos h0))
      have h0':¬ ((u.frm.length:Int)>0):=by omega
      clear e2 h0
      go_wp2_with fail
      go_meet
      exact ⟨by rw [hE.out],hb2⟩
    · have hE:=Lib.hid (e2.out.trans (if_neg h0))
      have h0':((u.frm.length:Int)>0):=by omega
      have cn:=Lib.hid (c2.out _ hb2.out (by omega))
      have hbn:=Lib.hid fun W' (hb:Below w2.heap.size w2 W')=>hb2.out.trans (hb.mono hb2.out.size)
      have g1:¬ 9223372036854775807<6+T2.size:=by omega
      have g2:¬ 9223372036854775807<R1.size+(6+T2.size):=by omega
      clear e2 h0 c2
      go_wp2_with (go_at_call 109;refine cn.out.mono ?_;rintro e w3 ⟨rfl,hb⟩;have hb3:=Lib.hid (hbn.out _ hb);clear hb)
      go_meet
      exact ⟨by rw [hE.out];rfl,hb3⟩
  case rest=>
  obtain ⟨rfl,hb3⟩:=hcut
  obtain ⟨wd,rfl⟩:∃ wd,wd=wc:=⟨_,rfl⟩
  clear x0 x1 x2 x3 x4 hb2 c2 e2
  obtain ⟨x0,x1,x2,x3,x4⟩:=hcx.out _ hb3.out
  have cn:=Lib.hid (c3.out _ hb3.out)
  have hbn:=Lib.hid fun W' (hb:Below wd.heap.size wd W')=>hb3.out.trans (hb.mono hb3.out.size)
  have g1:¬ 9223372036854775807<7+T3.size:=by omega
  have g2:¬ 9223372036854775807<R2.size+(7+T3.size):=by omega
  clear c3
  go_upto_region 5 with (go_at_call 84;refine cn.out.mono ?_;rintro e w4 ⟨rfl,hb⟩;have hb4:=Lib.hid (hbn.out _ hb);clear hb)
  rw [show R2++((⟨#[32,109,97,116,99,104,32]⟩:ByteArray)++T3)=R3 from e3.out.symm]
  clear x0 x1 x2 x3 x4 g1 g2 cn hbn
  obtain ⟨_,_,_,x3,x4⟩:=hcx.out _ hb4.out
  go_wp2_with fail
  clear x3 x4
  have hs0:Hid (R4=setsT R3 0 (u.sets.drop 0)∧R3.size≤5585+47*0):=Lib.hid ⟨e4.out,z3⟩
  go_loopw [3,29] (fun s i wr=>∃ (k:Nat) (S:ByteArray),k≤u.sets.length∧i=.int .i64 k∧s=.string S∧Hid (R4=setsT S k (u.sets.drop k)∧S.size≤5585+47*k)∧Hid (Below W.heap.size W wr)) (fun _ i _=>u.sets.length-(intOf i).toNat)
  case atStart=>exact ⟨0,R3,Nat.zero_le _,rfl,rfl,hs0,hb4⟩
  case round=>
    obtain ⟨k,S,hkl,rfl,rfl,HR,hbw⟩:=hrel
    obtain ⟨wo,rfl⟩:∃ wo,wo=wr:=⟨_,rfl⟩
    clear hs0 hb4 hb3
    obtain ⟨HR1,HR2⟩:=HR.out
    by_cases hlt9:k<u.sets.length
    · have hSw:=hSl.out _ hbw.out
      obtain ⟨b,off,rfl⟩:=SlOf.addr hSw (by omega)
      obtain ⟨_,cx,x,hx,⟨hc,_⟩,hj⟩:=SlOf.el hSw hlt9
      subst hc
      have a0:wo.cell? ⟨b,off+k*2,none⟩=some (.string x.field):=hj 0 _ rfl
      have a1:wo.cell? ⟨b,off+k*2+1,none⟩=some (.int .i64 x.value):=hj 1 _ rfl
      obtain ⟨hx1,hx2,hx3⟩:=hset.out x (List.mem_of_getElem? hx)
      have zx:=goodN_le hx1
      have zv:=numT_le hx2
      rw [drop_at hx,setsT_step] at HR1
      have hset1:setT x=(x.field++ba [32,61,32])++numT x.value:=rfl
      rw [hset1] at HR1
      have cV:=Lib.hid fun W' (hb:Below W.heap.size W W')=>c_number x.value hx2 hx3 W' (E'.out W' hb)
      have cF:=Lib.hid fun W'=>c_name x.field hx1 W'
      obtain ⟨NV,hNV⟩:∃ NV,NV=numT x.value:=⟨_,rfl⟩
      rw [← hNV] at HR1 zv cV
      obtain ⟨wa,hwa⟩:∃ wa,wo.alloc (.cells #[.string x.field, .int .i64 x.value] 123 (0,0))=wa:=⟨_,rfl⟩
      have hba:Below wo.heap.size wo wa:=by rw [← hwa];exact (Below.refl _ _).alloc (Nat.le_refl _) _
      have hbA:=Lib.hid (hbw.out.trans (hba.mono hbw.out.size))
      have hXa:wa.heap[wo.heap.size]?=some (.cells #[.string x.field, .int .i64 x.value] 123 (0,0)):=by rw [← hwa];exact heap_alloc_new wo _
      have hla:wo.heap.size<wa.heap.size:=by rw [← hwa];simp
      have q0:wa.cell? ⟨wo.heap.size,0,none⟩=some (.string x.field):=by rw [cell_of_row wa _ _ _ _ _ hXa];rfl
      have q1:wa.cell? ⟨wo.heap.size,1,none⟩=some (.int .i64 x.value):=by rw [cell_of_row wa _ _ _ _ _ hXa];rfl
      have HRh:=Lib.hid HR1
      have hd:=Lib.hid (Below.refl wa.heap.size wa).drew
      have hk12:k<12:=by omega
      clear HR HR1 hj hSw hx hset1 hNV hXa hba
      obtain ⟨S2,hS2⟩:∃ S2,S2=S++(if k=0 then ba [32,115,101,116,32] else ba [44,32]):=⟨_,rfl⟩
      have zS2:S2.size≤S.size+5:=by
        rw [hS2,ByteArray.size_append]
        split<;>simp only [ba_size,List.length_cons,List.length_nil]<;>omega
      rw [← hS2] at HRh
      have hS2':=Lib.hid hS2
      clear hS2
      go_upto_if 35 with fail
      clear hwa
      go_cut [3] (fun s wx=>s=.string S2∧wx=wa)
      case first=>
        by_cases h0:k=0
        · have hE:=Lib.hid (hS2'.out.trans (by rw [if_pos h0]))
          have h0':((k:Int) == 0)=true:=by simp [h0]
          have g1:¬ 9223372036854775807<S.size+5:=by omega
          subst h0
          go_wp2_with fail
          go_meet
          exact ⟨by rw [hE.out];rfl,rfl⟩
        · have hE:=Lib.hid (hS2'.out.trans (by rw [if_neg h0]))
          have h0':((k:Int) == 0)=false:=by simp;omega
          have g1:¬ 9223372036854775807<S.size+2:=by omega
          go_wp2_with fail
          go_meet
          exact ⟨by rw [hE.out];rfl,rfl⟩
      case rest=>
      obtain ⟨rfl,rfl⟩:=hcut
      have g1:¬ 9223372036854775807<x.field.size+3:=by omega
      have g2:¬ 9223372036854775807<x.field.size+3+NV.size:=by omega
      have g3:¬ 9223372036854775807<S2.size+(x.field.size+3+NV.size):=by omega
      go_upto_region 11 with fail
      go_region_held3 (fun W'=>W'.cell? ⟨wo.heap.size,0,none⟩=some (.string x.field)∧W'.cell? ⟨wo.heap.size,1,none⟩=some (.int .i64 x.value))
        (first|exact hHeld|go_keep|exact ⟨(hbk.cell (p:=⟨wo.heap.size,0,none⟩) hla).trans q0,(hbk.cell (p:=⟨wo.heap.size,1,none⟩) hla).trans q1⟩)
        ((first
          | (go_at_call 81;(with_reducible refine (cV.out _ (hbA.out.trans (hd.out.mono hbA.out.size))).mono ?_);rintro e wy ⟨rfl,hbB⟩;have hbk:=hd.out.trans (hbB.mono hd.out.size))
          | (go_at_call 83;(with_reducible refine (cF.out _).mono ?_);rintro e wz ⟨rfl,rfl⟩)))
      all_goals
        have hb9:=Lib.hid (hbA.out.trans (hbk.mono hbA.out.size))
        go_wp2_with fail
        go_roundw
        case rel=>exact ⟨k+1,S2++((x.field++ba [32,61,32])++NV),by omega,by go_num,rfl,Lib.hid ⟨HRh.out,by simp only [ByteArray.size_append,ba_size,List.length_cons,List.length_nil];omega⟩,hb9⟩
        case measure=>simp [intOf];omega
    · rw [drop_end hlt9] at HR1
      have HRh:Hid (R4=S):=Lib.hid HR1
      clear HR HR1
      obtain ⟨_,_,_,_,x4⟩:=hcx.out _ hbw.out
      by_cases h0:u.dst.length=0
      · have hE:=Lib.hid (e5.out.trans (if_pos h0))
        have h0':((u.dst.length:Int) == 0)=true:=beq_iff_eq.2 (by omega)
        have g1:¬ 9223372036854775807<S.size+5:=by omega
        clear e5
        go_wp2_with fail
        go_ret
        exact ⟨by rw [hE.out,HRh.out];rfl,hz.out _ hbw.out⟩
      · have hE:=Lib.hid (e5.out.trans (if_neg h0))
        have h0':((u.dst.length:Int) == 0)=false:=beq_eq_false_iff_ne.2 (by omega)
        have cn:=Lib.hid (c4.out _ hbw.out (by omega))
        have hbn:=Lib.hid fun W' (hb:Below wo.heap.size wo W')=>hz.out _ (hbw.out.trans (hb.mono hbw.out.size))
        have g1:¬ 9223372036854775807<S.size+4:=by omega
        have g2:¬ 9223372036854775807<S.size+4+T4.size:=by omega
        clear e5 c4
        go_wp2_with (go_at_call 109;refine cn.out.mono ?_;rintro e w3 ⟨rfl,hb⟩;have hb3:=Lib.hid (hbn.out _ hb);clear hb)
        go_ret
        exact ⟨by rw [hE.out,HRh.out];rfl,hb3.out⟩
end Go.Proofs.YtdhehcobnbcmdaaGreatDoor
