/- A part of the proof of DeltaLines: Box. -/
import Derived.Test.YtdhehcobnbcmdaaGreatDoorPPt
import Derived.Laws.EntriesVeiled
import Derived.Test.YtdhehcobnbcmdaaGreatDoorPG1
set_option linter.all false
namespace Go.Proofs.YtdhehcobnbcmdaaGreatDoor
open Go.RowKit
def atB (x:BoxS):ByteArray:=(ba [97,116,32]++x.name)++ba [32]
def noRule (x:BoxS)(r:RuleS):ByteArray:=((ba [110,111,32]++atB x)++ba [114,117,108,101,32])++itoaB r.prio
def noOwn (x:BoxS)(o:PrefS):ByteArray:=((ba [110,111,32]++atB x)++ba [111,119,110,32])++prefN o
def noRoute (x:BoxS)(o:PrefS):ByteArray:=((ba [110,111,32]++atB x)++ba [114,111,117,116,101,32])++prefN o
def adRule (x:BoxS)(r:RuleS):ByteArray:=bodyT ⟨x.name,[],[],[],[r],[],[]⟩
def adOwn (x:BoxS)(o:PrefS):ByteArray:=bodyT ⟨x.name,[],[],[],[],[o],[]⟩
def adRoute (x:BoxS)(o:PrefS):ByteArray:=bodyT ⟨x.name,[],[],[],[],[],[o]⟩
def boxS (un:List ByteArray→List ByteArray→Bool)(x y:BoxS):List ByteArray:=
  (((portsS x y++guardsS x y)++turnS (eqRule un) (noRule x) (adRule x) x.rules y.rules)++turnS eqPref (noOwn x) (adOwn x) x.owns y.owns)++turnS eqPref (noRoute x) (adRoute x) x.routes y.routes
theorem turnS_len {α : Type}(same : α→α→Bool)(aw ad : α→ByteArray)(a b:List α):(turnS same aw ad a b).length≤a.length+b.length:=by
  unfold turnS
  rw [List.length_append,List.length_map,List.length_map]
  exact Nat.add_le_add (List.length_filter_le _ _) (List.length_filter_le _ _)
theorem portsS_len (x y:BoxS):(portsS x y).length≤x.ins.length+x.outs.length+2:=by
  unfold portsS
  simp only [List.length_append]
  repeat' split
  all_goals simp only [List.length_map,List.length_nil,List.length_cons];omega
theorem guardsS_len (x y:BoxS):(guardsS x y).length≤x.guards.length+y.guards.length:=by
  unfold guardsS
  split
  · exact Nat.zero_le _
  · rw [List.length_append,List.length_map,List.length_map]
    have:=goneL_len x.guards []
    simp only [List.length_nil] at this
    omega
theorem act_noRule (x:BoxS)(S3 S6 Sb B:Nat)(w0:World)(K:World→Prop)(hK:Steady Sb K)(hkc:∀ W',K W'→W'.cell? ⟨S3,0,none⟩=some (.pointer (some ⟨Sb,0,none⟩))∧W'.cell? ⟨S6,0,none⟩=some (.string (((⟨#[97,116,32]⟩:ByteArray)++x.name)++⟨#[32]⟩)))(hat:(((⟨#[97,116,32]⟩:ByteArray)++x.name)++⟨#[32]⟩).size≤100)(a:List RuleS)(hE:Env w0)(hw:w0.heap.size≤Sb)(hwr:∀ x∈a,WrR x) :
  ActRule w0 Sb B K 32 #[.pointer (some ⟨S3,0,none⟩), .pointer (some ⟨S6,0,none⟩)] (noRule x) a:=a_noRule S3 S6 Sb B w0 K hK _ hkc hat a hE hw hwr
theorem act_adRule (x:BoxS)(S3 S4 Sb B:Nat)(w0:World)(K:World→Prop)(hK:Steady Sb K)(hkc:∀ W',K W'→W'.cell? ⟨S3,0,none⟩=some (.pointer (some ⟨Sb,0,none⟩))∧W'.cell? ⟨S4,0,none⟩=some (.string x.name))(hg:goodN x.name=true)(a:List RuleS)(hE:Env w0)(hw:w0.heap.size≤Sb)(hBS:B≤Sb)(hwr:∀ x∈a,WrR x) :
  ActRule w0 Sb B K 33 #[.pointer (some ⟨S3,0,none⟩), .pointer (some ⟨S4,0,none⟩)] (adRule x) a:=a_adRule S3 S4 Sb B w0 K hK x.name hkc hg a hE hw hBS hwr
theorem slOf_and {α : Type}{size:Nat}{R:World→Nat→List Value→α→Prop}{P : α→Prop}{w:World}{B:Nat}{v:Value}{l:List α}(h:SlOf size R w B v l)(hP:∀ x∈l,P x):SlOf size (fun w B c x=>R w B c x∧P x) w B v l:=by
  obtain ⟨cs,h1,h2,h3,h4⟩:=h
  exact ⟨cs,h1,h2,h3,fun i c x hc hx=>⟨h4 i c x hc hx,hP x (List.mem_of_getElem? hx)⟩⟩
theorem same_rule (un:List ByteArray→List ByteArray→Bool)(hU:UnordP un)(B:Nat):SameRule 31 #[] (eqRule un) B:=fun W x y c d hx hy hb=>s_Rule un hU x y c d hx.1 hy.1 hb hx.2 hy.2
theorem same_pref (B:Nat):SamePref 35 #[] eqPref B:=fun W x y c d hx hy _=>s_Pref x y c d hx hy
theorem turn_rules (un:List ByteArray→List ByteArray→Bool)(hU:UnordP un)(x y:BoxS)(va vb:Value)(ua ud:Array Value)(Sb:Nat)(K:World→Prop)(hK:Steady Sb K)(B:Nat)(w0 w:World)(L:List ByteArray)(ha:SlOf 5 RuleC w B va x.rules)(hb:SlOf 5 RuleC w B vb y.rules)(hrx:∀ r∈x.rules,WrR r)(hry:∀ r∈y.rules,WrR r)(hB:B≤Sb)(hs:ScA w0 Sb L w)(k:K w)
  (hA:ActRule w0 Sb B K 32 ua (noRule x) x.rules) (hD:ActRule w0 Sb B K 33 ud (adRule x) y.rules) (hL:L.length+(x.rules.length+y.rules.length)≤1000000) :
  Calls Tryz.prog 30 #[va,vb, .func (.func 31) #[] #[], .func (.func 32) #[] ua, .func (.func 33) #[] ud] w (SayPost w0 Sb (L++turnS (eqRule un) (noRule x) (adRule x) x.rules y.rules) w):=
  tn_Rule x.rules y.rules va vb _ _ _ #[] ua ud K (eqRule un) (noRule x) (adRule x) B w0 w Sb L (fun a w=>by kernel_rfl) (fun a w=>by kernel_rfl) (fun a w=>by kernel_rfl) (same_rule un hU B) (slOf_and ha fun r hr=>Nat.le_trans (hrx r hr).frm.2 (by decide)) (slOf_and hb fun r hr=>Nat.le_trans (hry r hr).frm.2 (by decide)) hB hs k hK hA hD hL
theorem turn_owns (x y:BoxS)(va vb:Value)(ua ud:Array Value)(Sb:Nat)(K:World→Prop)(hK:Steady Sb K)(B:Nat)(w0 w:World)(L:List ByteArray)(ha:Prefs w B va x.owns)(hb:Prefs w B vb y.owns)(hB:B≤Sb)(hs:ScA w0 Sb L w)(k:K w)
  (hA:ActPref w0 Sb B K 38 ua (noOwn x) x.owns) (hD:ActPref w0 Sb B K 39 ud (adOwn x) y.owns) (hL:L.length+(x.owns.length+y.owns.length)≤1000000) :
  Calls Tryz.prog 37 #[va,vb, .func (.func 35) #[] #[], .func (.func 38) #[] ua, .func (.func 39) #[] ud] w (SayPost w0 Sb (L++turnS eqPref (noOwn x) (adOwn x) x.owns y.owns) w):=
  tn_Pref x.owns y.owns va vb _ _ _ #[] ua ud K eqPref (noOwn x) (adOwn x) B w0 w Sb L (fun a w=>by kernel_rfl) (fun a w=>by kernel_rfl) (fun a w=>by kernel_rfl) (same_pref B) ha hb hB hs k hK hA hD hL
theorem act_noOwn (x:BoxS)(S3 S6 S8 Sb B:Nat)(w0:World)(K:World→Prop)(hK:Steady Sb K)(hkc:∀ W',K W'→W'.cell? ⟨S3,0,none⟩=some (.pointer (some ⟨Sb,0,none⟩))∧W'.cell? ⟨S6,0,none⟩=some (.string (((⟨#[97,116,32]⟩:ByteArray)++x.name)++⟨#[32]⟩))∧W'.cell? ⟨S8,0,none⟩=some (.func (.func 36) #[] #[]))(hat:(((⟨#[97,116,32]⟩:ByteArray)++x.name)++⟨#[32]⟩).size≤100)(a:List PrefS)(hE:Env w0)(hw:w0.heap.size≤Sb)(hwr:∀ x∈a,WrP x) :
  ActPref w0 Sb B K 38 #[.pointer (some ⟨S3,0,none⟩), .pointer (some ⟨S6,0,none⟩), .pointer (some ⟨S8,0,none⟩)] (noOwn x) a:=a_noOwn S3 S6 S8 Sb B w0 K hK _ hkc hat a hE hw hwr
theorem act_adOwn (x:BoxS)(S3 S4 Sb B:Nat)(w0:World)(K:World→Prop)(hK:Steady Sb K)(hkc:∀ W',K W'→W'.cell? ⟨S3,0,none⟩=some (.pointer (some ⟨Sb,0,none⟩))∧W'.cell? ⟨S4,0,none⟩=some (.string x.name))(hg:goodN x.name=true)(a:List PrefS)(hE:Env w0)(hw:w0.heap.size≤Sb)(hBS:B≤Sb)(hwr:∀ x∈a,WrP x) :
  ActPref w0 Sb B K 39 #[.pointer (some ⟨S3,0,none⟩), .pointer (some ⟨S4,0,none⟩)] (adOwn x) a:=a_adOwn S3 S4 Sb B w0 K hK x.name hkc hg a hE hw hBS hwr
theorem turn_routes (x y:BoxS)(va vb:Value)(ua ud:Array Value)(Sb:Nat)(K:World→Prop)(hK:Steady Sb K)(B:Nat)(w0 w:World)(L:List ByteArray)(ha:Prefs w B va x.routes)(hb:Prefs w B vb y.routes)(hB:B≤Sb)(hs:ScA w0 Sb L w)(k:K w)
  (hA:ActPref w0 Sb B K 40 ua (noRoute x) x.routes) (hD:ActPref w0 Sb B K 41 ud (adRoute x) y.routes) (hL:L.length+(x.routes.length+y.routes.length)≤1000000) :
  Calls Tryz.prog 37 #[va,vb, .func (.func 35) #[] #[], .func (.func 40) #[] ua, .func (.func 41) #[] ud] w (SayPost w0 Sb (L++turnS eqPref (noRoute x) (adRoute x) x.routes y.routes) w):=
  tn_Pref x.routes y.routes va vb _ _ _ #[] ua ud K eqPref (noRoute x) (adRoute x) B w0 w Sb L (fun a w=>by kernel_rfl) (fun a w=>by kernel_rfl) (fun a w=>by kernel_rfl) (same_pref B) ha hb hB hs k hK hA hD hL
theorem act_noRoute (x:BoxS)(S3 S6 S8 Sb B:Nat)(w0:World)(K:World→Prop)(hK:Steady Sb K)(hkc:∀ W',K W'→W'.cell? ⟨S3,0,none⟩=some (.pointer (some ⟨Sb,0,none⟩))∧W'.cell? ⟨S6,0,none⟩=some (.string (((⟨#[97,116,32]⟩:ByteArray)++x.name)++⟨#[32]⟩))∧W'.cell? ⟨S8,0,none⟩=some (.func (.func 36) #[] #[]))(hat:(((⟨#[97,116,32]⟩:ByteArray)++x.name)++⟨#[32]⟩).size≤100)(a:List PrefS)(hE:Env w0)(hw:w0.heap.size≤Sb)(hwr:∀ x∈a,WrP x) :
  ActPref w0 Sb B K 40 #[.pointer (some ⟨S3,0,none⟩), .pointer (some ⟨S6,0,none⟩), .pointer (some ⟨S8,0,none⟩)] (noRoute x) a:=a_noRoute S3 S6 S8 Sb B w0 K hK _ hkc hat a hE hw hwr
theorem act_adRoute (x:BoxS)(S3 S4 Sb B:Nat)(w0:World)(K:World→Prop)(hK:Steady Sb K)(hkc:∀ W',K W'→W'.cell? ⟨S3,0,none⟩=some (.pointer (some ⟨Sb,0,none⟩))∧W'.cell? ⟨S4,0,none⟩=some (.string x.name))(hg:goodN x.name=true)(a:List PrefS)(hE:Env w0)(hw:w0.heap.size≤Sb)(hBS:B≤Sb)(hwr:∀ x∈a,WrP x) :
  ActPref w0 Sb B K 41 #[.pointer (some ⟨S3,0,none⟩), .pointer (some ⟨S4,0,none⟩)] (adRoute x) a:=a_adRoute S3 S4 Sb B w0 K hK x.name hkc hg a hE hw hBS hwr
structure BxAt (w0 w:World)(Sb:Nat)(K:World→Prop)(L:List ByteArray)(W:World):Prop where
  s:ScA w0 Sb L W
  x:KeepX Sb w W
  k:K W
  z:w.heap.size≤W.heap.size
section
variable {w0 w W W':World} {Sb:Nat} {K:World→Prop} {L L':List ByteArray}
theorem BxAt.moved (h:BxAt w0 w Sb K L W)(hK:Steady Sb K)(hs:ScA w0 Sb L' W')(hx:KeepX Sb W W')(hz:W.heap.size≤W'.heap.size):BxAt w0 w Sb K L' W':=
  ⟨hs,h.x.trans hx,hK _ _ h.k hx,Nat.le_trans h.z hz⟩
theorem BxAt.below (h:BxAt w0 w Sb K L W)(hK:Steady Sb K)(hb:Below W.heap.size W W'):BxAt w0 w Sb K L W':=h.moved hK (h.s.below hb) (KeepX.of_below h.s.lt hb) hb.size
theorem BxAt.keeps (h:BxAt w0 w Sb K L W){l:List ByteArray}(hw:ScA w0 Sb l w){B:Nat}(hB:B≤Sb):∀ b off,b<B→W.cell? ⟨b,off,none⟩=w.cell? ⟨b,off,none⟩:=
  fun b off hb=>(keepB h.s.b hB b off hb).trans (keepB hw.b hB b off hb).symm
end
def KB (Sb n0:Nat)(OL OX OY OT:Obj)(W:World):Prop:=Mine Sb n0 OL W∧Mine Sb (n0+1) OX W∧Mine Sb (n0+2) OY W∧Mine Sb (n0+3) OT W
theorem KB.steady (Sb n0:Nat)(OL OX OY OT:Obj):Steady Sb (KB Sb n0 OL OX OY OT):=fun _ _ h k=>⟨h.1.keep k,h.2.1.keep k,h.2.2.1.keep k,h.2.2.2.keep k⟩
theorem BxAt.more {w0 w W:World}{Sb:Nat}{K:World→Prop}{L:List ByteArray}(h:BxAt w0 w Sb K L W)(hK:Steady Sb K)(o:Obj):BxAt w0 w Sb (fun V=>K V∧Mine Sb W.heap.size o V) L (W.alloc o):=by
  have hb:Below W.heap.size W (W.alloc o):=(Below.refl _ _).alloc (Nat.le_refl _) _
  have:=h.below hK hb
  exact ⟨this.s,this.x,⟨this.k,h.s.mine (Below.refl _ _)⟩,this.z⟩
theorem Steady.more {Sb n8:Nat}{K:World→Prop}{o:Obj}(hK:Steady Sb K):Steady Sb (fun V=>K V∧Mine Sb n8 o V):=fun _ _ h k=>⟨hK _ _ h.1 k,h.2.keep k⟩
set_option maxHeartbeats 8000000 in
set_option maxRecDepth 100000 in
theorem s_box (un:List ByteArray→List ByteArray→Bool)(hU:UnordP un)(x y:BoxS)(cx cy:List Value)(B:Nat)(w0 w:World)(Sb:Nat)(l:List ByteArray)(hx:BoxC w B cx x)(hy:BoxC w B cy y)(hB:B≤Sb)(h:ScA w0 Sb l w)(E:Env w0)(hw:w0.heap.size≤Sb)(hnm:goodN x.name=true)
    (hgy:∀ u∈y.guards,WrG u) (n1:Names y.ins∧y.ins.length≤1000) (n2:Names y.outs∧y.outs.length≤1000) (hrx:∀ r∈x.rules,WrR r) (hry:∀ r∈y.rules,WrR r) (hox:∀ o∈x.owns,WrP o) (hoy:∀ o∈y.owns,WrP o) (hux:∀ o∈x.routes,WrP o) (huy:∀ o∈y.routes,WrP o)
    (hll:l.length+x.ins.length+x.outs.length+x.guards.length+y.guards.length+x.rules.length+y.rules.length+x.owns.length+y.owns.length+x.routes.length+y.routes.length≤90000) :
    Calls Tryz.prog 11 #[.pointer (some ⟨Sb,0,none⟩), .agg cx.toArray, .agg cy.toArray] w (SayPost w0 Sb (l++boxS un x y) w):=by
  have hx0:=hx
  have hy0:=hy
  obtain ⟨Ai,Aci,Ao,Aco,Ag,Acg,Ar,Acr,Aw,Acw,Au,Acu,rfl,_,hxn,_,_,_,tr,to_,tu⟩:=box_form hx
  obtain ⟨Di,Dci,Do,Dco,Dg,Dcg,Dr,Dcr,Dw,Dcw,Du,Dcu,rfl,_,hyn,_,_,_,ur,uo,uu⟩:=box_form hy
  obtain ⟨W0,hW0⟩:∃ W,w.alloc (.cells #[.pointer (some ⟨Sb,0,none⟩)] 56 (0,0))=W:=⟨_,rfl⟩
  obtain ⟨W1,hW1⟩:∃ W,W0.alloc (boxO (.string x.name) (.slice Ai x.ins.length Aci) (.slice Ao x.outs.length Aco) (.slice Ag x.guards.length Acg) (.slice Ar x.rules.length Acr) (.slice Aw x.owns.length Acw) (.slice Au x.routes.length Acu))=W:=⟨_,rfl⟩
  obtain ⟨W2,hW2⟩:∃ W,W1.alloc (boxO (.string y.name) (.slice Di y.ins.length Dci) (.slice Do y.outs.length Dco) (.slice Dg y.guards.length Dcg) (.slice Dr y.rules.length Dcr) (.slice Dw y.owns.length Dcw) (.slice Du y.routes.length Dcu))=W:=⟨_,rfl⟩
  obtain ⟨W3,hW3⟩:∃ W,W2.alloc (.cells #[.string (((⟨#[97,116,32]⟩:ByteArray)++x.name)++⟨#[32]⟩)] 9 (0,0))=W:=⟨_,rfl⟩
  have hz0:W0.heap.size=w.heap.size+1:=by rw [← hW0];simp
  have hz1:W1.heap.size=w.heap.size+2:=by rw [← hW1];simp [hz0]
  have hz2:W2.heap.size=w.heap.size+3:=by rw [← hW2];simp [hz1]
  have hz3:W3.heap.size=w.heap.size+4:=by rw [← hW3];simp [hz2]
  have b0:Below w.heap.size w W0:=by rw [← hW0];exact (Below.refl _ _).alloc (Nat.le_refl _) _
  have b1:Below W0.heap.size W0 W1:=by rw [← hW1];exact (Below.refl _ _).alloc (Nat.le_refl _) _
  have b2:Below W1.heap.size W1 W2:=by rw [← hW2];exact (Below.refl _ _).alloc (Nat.le_refl _) _
  have b3:Below W2.heap.size W2 W3:=by rw [← hW3];exact (Below.refl _ _).alloc (Nat.le_refl _) _
  have b23:Below W1.heap.size W1 W3:=b2.trans (b3.mono (by omega))
  have b13:Below W0.heap.size W0 W3:=b1.trans (b23.mono (by omega))
  have b03:Below w.heap.size w W3:=b0.trans (b13.mono (by omega))
  have hSz:=h.lt
  have m0:Mine Sb w.heap.size (.cells #[.pointer (some ⟨Sb,0,none⟩)] 56 (0,0)) W3:=(h.mine (by rw [hW0];exact Below.refl _ _)).keep (KeepX.of_below (by omega) b13)
  have m1:Mine Sb (w.heap.size+1) (boxO (.string x.name) (.slice Ai x.ins.length Aci) (.slice Ao x.outs.length Aco) (.slice Ag x.guards.length Acg) (.slice Ar x.rules.length Acr) (.slice Aw x.owns.length Acw) (.slice Au x.routes.length Acu)) W3:=by
    have:=((h.below b0).mine (o:=(boxO (.string x.name) (.slice Ai x.ins.length Aci) (.slice Ao x.outs.length Aco) (.slice Ag x.guards.length Acg) (.slice Ar x.rules.length Acr) (.slice Aw x.owns.length Acw) (.slice Au x.routes.length Acu))) (W':=W1) (by rw [hW1];exact Below.refl _ _)).keep (KeepX.of_below (by omega) b23)
    rw [hz0] at this;exact this
  have m2:Mine Sb (w.heap.size+2) (boxO (.string y.name) (.slice Di y.ins.length Dci) (.slice Do y.outs.length Dco) (.slice Dg y.guards.length Dcg) (.slice Dr y.rules.length Dcr) (.slice Dw y.owns.length Dcw) (.slice Du y.routes.length Dcu)) W3:=by
    have:=((h.below (b0.trans (b1.mono (by omega)))).mine (o:=(boxO (.string y.name) (.slice Di y.ins.length Dci) (.slice Do y.outs.length Dco) (.slice Dg y.guards.length Dcg) (.slice Dr y.rules.length Dcr) (.slice Dw y.owns.length Dcw) (.slice Du y.routes.length Dcu))) (W':=W2) (by rw [hW2];exact Below.refl _ _)).keep (KeepX.of_below (by omega) b3)
    rw [hz1] at this;exact this
  have m3:Mine Sb (w.heap.size+3) (.cells #[.string (((⟨#[97,116,32]⟩:ByteArray)++x.name)++⟨#[32]⟩)] 9 (0,0)) W3:=by
    have:=(h.below (b0.trans ((b1.trans (b2.mono (by omega))).mono (by omega)))).mine (o:=(.cells #[.string (((⟨#[97,116,32]⟩:ByteArray)++x.name)++⟨#[32]⟩)] 9 (0,0))) (W':=W3) (by rw [hW3];exact Below.refl _ _)
    rw [hz2] at this;exact this
  obtain ⟨K,hKs,hcK,hk3⟩:∃ K:World→Prop,Steady Sb K∧(∀ V,K V→V.cell? ⟨w.heap.size,0,none⟩=some (.pointer (some ⟨Sb,0,none⟩))∧(V.cell? ⟨w.heap.size+1,0,none⟩=some (.string x.name)∧V.cell? ⟨w.heap.size+1,1,none⟩=some (.slice Ai x.ins.length Aci)∧V.cell? ⟨w.heap.size+1,2,none⟩=some (.slice Ao x.outs.length Aco)∧V.cell? ⟨w.heap.size+1,3,none⟩=some (.slice Ag x.guards.length Acg)∧V.cell? ⟨w.heap.size+1,4,none⟩=some (.slice Ar x.rules.length Acr)∧V.cell? ⟨w.heap.size+1,5,none⟩=some (.slice Aw x.owns.length Acw)∧V.cell? ⟨w.heap.size+1,6,none⟩=some (.slice Au x.routes.length Acu))∧(V.cell? ⟨w.heap.size+2,0,none⟩=some (.string y.name)∧V.cell? ⟨w.heap.size+2,1,none⟩=some (.slice Di y.ins.length Dci)∧V.cell? ⟨w.heap.size+2,2,none⟩=some (.slice Do y.outs.length Dco)∧V.cell? ⟨w.heap.size+2,3,none⟩=some (.slice Dg y.guards.length Dcg)∧V.cell? ⟨w.heap.size+2,4,none⟩=some (.slice Dr y.rules.length Dcr)∧V.cell? ⟨w.heap.size+2,5,none⟩=some (.slice Dw y.owns.length Dcw)∧V.cell? ⟨w.heap.size+2,6,none⟩=some (.slice Du y.routes.length Dcu))∧V.cell? ⟨w.heap.size+3,0,none⟩=some (.string (((⟨#[97,116,32]⟩:ByteArray)++x.name)++⟨#[32]⟩)))∧K W3:=
    ⟨KB Sb w.heap.size (.cells #[.pointer (some ⟨Sb,0,none⟩)] 56 (0,0)) (boxO (.string x.name) (.slice Ai x.ins.length Aci) (.slice Ao x.outs.length Aco) (.slice Ag x.guards.length Acg) (.slice Ar x.rules.length Acr) (.slice Aw x.owns.length Acw) (.slice Au x.routes.length Acu)) (boxO (.string y.name) (.slice Di y.ins.length Dci) (.slice Do y.outs.length Dco) (.slice Dg y.guards.length Dcg) (.slice Dr y.rules.length Dcr) (.slice Dw y.owns.length Dcw) (.slice Du y.routes.length Dcu)) (.cells #[.string (((⟨#[97,116,32]⟩:ByteArray)++x.name)++⟨#[32]⟩)] 9 (0,0)),KB.steady _ _ _ _ _ _,fun V k=>⟨cell_of_one k.1.1,cells7 k.2.1.1,cells7 k.2.2.1.1,cell_of_one k.2.2.2.1⟩,⟨m0,m1,m2,m3⟩⟩
  clear m0 m1 m2 m3
  have hT0:BxAt w0 w Sb K l W3:=⟨h.below b03,KeepX.of_below hSz b03,hk3,b03.size⟩
  obtain ⟨e0,⟨x0,x1,x2,x3,x4,x5,x6⟩,⟨y0,y1,y2,y3,y4,y5,y6⟩,e3⟩:=hcK _ hk3
  have hnz:x.name.size≤24:=(goodN_le hnm).2
  have g1:¬ 9223372036854775807<3+x.name.size:=by omega
  have g2:¬ 9223372036854775807<3+x.name.size+1:=by omega
  have x02:W2.cell? ⟨w.heap.size+1,0,none⟩=some (.string x.name):=(cells7 ((b2.block (w.heap.size+1) (by omega)).trans (by rw [← hz0,← hW1];exact heap_alloc_new W0 _))).1
  have hat:((((⟨#[97,116,32]⟩:ByteArray)++x.name)++⟨#[32]⟩)).size≤100:=by simp only [ByteArray.size_append];have e1:(ByteArray.mk #[97,116,32]).size=3:=rfl;have e2:(ByteArray.mk #[32]).size=1:=rfl;rw [e1,e2];omega
  have hM:=Lib.hid fun (L L':List ByteArray) (W W':World) (hT:BxAt w0 w Sb K L W) (h1:ScA w0 Sb L' W') (h2:KeepX Sb W W') h3=>hT.moved hKs h1 h2 h3
  have cP:Hid (Calls Tryz.prog 28 #[.pointer (some ⟨Sb,0,none⟩), .agg #[.string x.name, .slice Ai x.ins.length Aci, .slice Ao x.outs.length Aco, .slice Ag x.guards.length Acg, .slice Ar x.rules.length Acr, .slice Aw x.owns.length Acw, .slice Au x.routes.length Acu], .agg #[.string y.name, .slice Di y.ins.length Dci, .slice Do y.outs.length Dco, .slice Dg y.guards.length Dcg, .slice Dr y.rules.length Dcr, .slice Dw y.owns.length Dcw, .slice Du y.routes.length Dcu]] W3 (SayPost w0 Sb (l++portsS x y) W3)):=Lib.hid (s_ports x y _ _ B w0 W3 Sb l (hx0.keep (w':=W3) (Nat.le_refl _) (hT0.keeps h hB)) (hy0.keep (w':=W3) (Nat.le_refl _) (hT0.keeps h hB)) hB hT0.s hnm n1 n2 (by omega))
  have cG:Hid (∀ (L:List ByteArray) (W:World),BxAt w0 w Sb K L W→L.length+x.guards.length+y.guards.length≤100000→Calls Tryz.prog 29 #[.pointer (some ⟨Sb,0,none⟩), .agg #[.string x.name, .slice Ai x.ins.length Aci, .slice Ao x.outs.length Aco, .slice Ag x.guards.length Acg, .slice Ar x.rules.length Acr, .slice Aw x.owns.length Acw, .slice Au x.routes.length Acu], .agg #[.string y.name, .slice Di y.ins.length Dci, .slice Do y.outs.length Dco, .slice Dg y.guards.length Dcg, .slice Dr y.rules.length Dcr, .slice Dw y.owns.length Dcw, .slice Du y.routes.length Dcu]] W (SayPost w0 Sb (L++guardsS x y) W)):=Lib.hid fun L W hT hL=>s_guards x y _ _ B w0 W Sb L (hx0.keep (w':=W) (Nat.le_refl _) (hT.keeps h hB)) (hy0.keep (w':=W) (Nat.le_refl _) (hT.keeps h hB)) hB hT.s E hw hnm hgy hL
  have a1:=act_noRule x w.heap.size (w.heap.size+3) Sb B w0 K hKs (fun V k=>⟨(hcK V k).1,(hcK V k).2.2.2⟩) hat x.rules E hw hrx
  have a2:=act_adRule x w.heap.size (w.heap.size+1) Sb B w0 K hKs (fun V k=>⟨(hcK V k).1,(hcK V k).2.1.1⟩) hnm y.rules E hw hB hry
  have c1:Hid (∀ (L:List ByteArray) (W:World),BxAt w0 w Sb K L W→L.length+(x.rules.length+y.rules.length)≤1000000→Calls Tryz.prog 30 #[.slice Ar x.rules.length Acr, .slice Dr y.rules.length Dcr, .func (.func 31) #[] #[], .func (.func 32) #[] #[.pointer (some ⟨w.heap.size,0,none⟩), .pointer (some ⟨w.heap.size+3,0,none⟩)], .func (.func 33) #[] #[.pointer (some ⟨w.heap.size,0,none⟩), .pointer (some ⟨w.heap.size+1,0,none⟩)]] W (SayPost w0 Sb (L++turnS (eqRule un) (noRule x) (adRule x) x.rules y.rules) W)):=Lib.hid fun L W hT hL=>
    turn_rules un hU x y _ _ _ _ Sb K hKs B w0 W L (tr.keep (w':=W) (Nat.le_refl _) (hT.keeps h hB) fun _ _ g=>g.keep (Nat.le_refl _) (hT.keeps h hB)) (ur.keep (w':=W) (Nat.le_refl _) (hT.keeps h hB) fun _ _ g=>g.keep (Nat.le_refl _) (hT.keeps h hB)) hrx hry hB hT.s hT.k a1 a2 hL
  have c5:Hid (∀ (n8:Nat) (K8:World→Prop) (L:List ByteArray) (W:World),Steady Sb K8→(∀ V,K8 V→K V∧V.cell? ⟨n8,0,none⟩=some (.func (.func 36) #[] #[]))→BxAt w0 w Sb K8 L W→L.length+(x.owns.length+y.owns.length)≤1000000→Calls Tryz.prog 37 #[.slice Aw x.owns.length Acw, .slice Dw y.owns.length Dcw, .func (.func 35) #[] #[], .func (.func 38) #[] #[.pointer (some ⟨w.heap.size,0,none⟩), .pointer (some ⟨w.heap.size+3,0,none⟩), .pointer (some ⟨n8,0,none⟩)], .func (.func 39) #[] #[.pointer (some ⟨w.heap.size,0,none⟩), .pointer (some ⟨w.heap.size+1,0,none⟩)]] W (SayPost w0 Sb (L++turnS eqPref (noOwn x) (adOwn x) x.owns y.owns) W)):=Lib.hid fun n8 K8 L W hS8 h8 hT hL=>
    turn_owns x y _ _ _ _ Sb K8 hS8 B w0 W L (pureSl to_ (Nat.le_refl _) (hT.keeps h hB)) (pureSl uo (Nat.le_refl _) (hT.keeps h hB)) hB hT.s hT.k
      (act_noOwn x w.heap.size (w.heap.size+3) n8 Sb B w0 K8 hS8 (fun V k=>⟨(hcK V (h8 V k).1).1,(hcK V (h8 V k).1).2.2.2,(h8 V k).2⟩) hat x.owns E hw hox)
      (act_adOwn x w.heap.size (w.heap.size+1) Sb B w0 K8 hS8 (fun V k=>⟨(hcK V (h8 V k).1).1,(hcK V (h8 V k).1).2.1.1⟩) hnm y.owns E hw hB hoy) hL
  have c7:Hid (∀ (n8:Nat) (K8:World→Prop) (L:List ByteArray) (W:World),Steady Sb K8→(∀ V,K8 V→K V∧V.cell? ⟨n8,0,none⟩=some (.func (.func 36) #[] #[]))→BxAt w0 w Sb K8 L W→L.length+(x.routes.length+y.routes.length)≤1000000→Calls Tryz.prog 37 #[.slice Au x.routes.length Acu, .slice Du y.routes.length Dcu, .func (.func 35) #[] #[], .func (.func 40) #[] #[.pointer (some ⟨w.heap.size,0,none⟩), .pointer (some ⟨w.heap.size+3,0,none⟩), .pointer (some ⟨n8,0,none⟩)], .func (.func 41) #[] #[.pointer (some ⟨w.heap.size,0,none⟩), .pointer (some ⟨w.heap.size+1,0,none⟩)]] W (SayPost w0 Sb (L++turnS eqPref (noRoute x) (adRoute x) x.routes y.routes) W)):=Lib.hid fun n8 K8 L W hS8 h8 hT hL=>
    turn_routes x y _ _ _ _ Sb K8 hS8 B w0 W L (pureSl tu (Nat.le_refl _) (hT.keeps h hB)) (pureSl uu (Nat.le_refl _) (hT.keeps h hB)) hB hT.s hT.k
      (act_noRoute x w.heap.size (w.heap.size+3) n8 Sb B w0 K8 hS8 (fun V k=>⟨(hcK V (h8 V k).1).1,(hcK V (h8 V k).1).2.2.2,(h8 V k).2⟩) hat x.routes E hw hux)
      (act_adRoute x w.heap.size (w.heap.size+1) Sb B w0 K8 hS8 (fun V k=>⟨(hcK V (h8 V k).1).1,(hcK V (h8 V k).1).2.1.1⟩) hnm y.routes E hw hB huy) hL
  have hpl:=portsS_len x y
  have hgl:=guardsS_len x y
  have hrl:=turnS_len (eqRule un) (noRule x) (adRule x) x.rules y.rules
  have hol:=turnS_len eqPref (noOwn x) (adOwn x) x.owns y.owns
  have hL1:Hid ((l++portsS x y).length+x.guards.length+y.guards.length≤100000):=Lib.hid (by rw [List.length_append];omega)
  have hL2:Hid (((l++portsS x y)++guardsS x y).length+(x.rules.length+y.rules.length)≤1000000):=Lib.hid (by rw [List.length_append,List.length_append];omega)
  have hL3:Hid ((((l++portsS x y)++guardsS x y)++turnS (eqRule un) (noRule x) (adRule x) x.rules y.rules).length+(x.owns.length+y.owns.length)≤1000000):=Lib.hid (by rw [List.length_append,List.length_append,List.length_append];omega)
  have hL4:Hid (((((l++portsS x y)++guardsS x y)++turnS (eqRule un) (noRule x) (adRule x) x.rules y.rules)++turnS eqPref (noOwn x) (adOwn x) x.owns y.owns).length+(x.routes.length+y.routes.length)≤1000000):=Lib.hid (by rw [List.length_append,List.length_append,List.length_append,List.length_append];omega)
  have hF:Hid (l++boxS un x y=((((l++portsS x y)++guardsS x y)++turnS (eqRule un) (noRule x) (adRule x) x.rules y.rules)++turnS eqPref (noOwn x) (adOwn x) x.owns y.owns)++turnS eqPref (noRoute x) (adRoute x) x.routes y.routes):=Lib.hid (by unfold boxS;simp only [List.append_assoc])
  generalize l++boxS un x y=RR at *
  replace hT0:=Lib.hid hT0
  replace hKs:=Lib.hid hKs
  replace hcK:=Lib.hid hcK
  clear hk3 b0 b1 b2 b3 b23 b13 b03 hx hy hpl hgl hrl hol a1 a2 tr to_ tu ur uo uu hx0 hy0
  go_enter Tryz.func11,Tryz.ntmps11
  go_upto_region 7 with (first
    | (go_at_call 30;(with_reducible refine (c1.out _ _ hT2.out hL2.out).mono ?_);rintro e wa hZ;obtain ⟨⟨va,rfl⟩,hSc⟩:=hZ;have hT3:=Lib.hid (hM.out _ _ _ _ hT2.out hSc.1 hSc.2.1 hSc.2.2);obtain ⟨e0,⟨x0,x1,x2,x3,x4,x5,x6⟩,⟨y0,y1,y2,y3,y4,y5,y6⟩,e3⟩:=hcK.out _ hT3.out.k;clear hSc)
    | (go_at_call 29;(with_reducible refine (cG.out _ _ hT1.out hL1.out).mono ?_);rintro e wz hZ;obtain ⟨⟨vz,rfl⟩,hSc⟩:=hZ;have hT2:=Lib.hid (hM.out _ _ _ _ hT1.out hSc.1 hSc.2.1 hSc.2.2);obtain ⟨e0,⟨x0,x1,x2,x3,x4,x5,x6⟩,⟨y0,y1,y2,y3,y4,y5,y6⟩,e3⟩:=hcK.out _ hT2.out.k;clear hSc)
    | (go_at_call 28;(with_reducible refine (cP.out).mono ?_);rintro e wy hZ;obtain ⟨⟨vy,rfl⟩,hSc⟩:=hZ;have hT1:=Lib.hid (hM.out _ _ _ _ hT0.out hSc.1 hSc.2.1 hSc.2.2);obtain ⟨e0,⟨x0,x1,x2,x3,x4,x5,x6⟩,⟨y0,y1,y2,y3,y4,y5,y6⟩,e3⟩:=hcK.out _ hT1.out.k;clear hSc))
  obtain ⟨W8,hW8⟩:∃ W8,wa.alloc (.cells #[.func (.func 36) #[] #[]] 81 (0,0))=W8:=⟨_,rfl⟩
  obtain ⟨K8,hS8,h8K,hT8⟩:∃ K8:World→Prop,Hid (Steady Sb K8)∧Hid (∀ V,K8 V→K V∧V.cell? ⟨wa.heap.size,0,none⟩=some (.func (.func 36) #[] #[]))∧Hid (BxAt w0 w Sb K8 (((l++portsS x y)++guardsS x y)++turnS (eqRule un) (noRule x) (adRule x) x.rules y.rules) W8):=
    ⟨fun V=>K V∧Mine Sb wa.heap.size (.cells #[.func (.func 36) #[] #[]] 81 (0,0)) V,Lib.hid (Steady.more hKs.out),Lib.hid (fun V k=>⟨k.1,cell_of_one k.2.1⟩),Lib.hid (by rw [← hW8];exact hT3.out.more hKs.out _)⟩
  have hM8:=Lib.hid fun (L L':List ByteArray) (W W':World) (hT:BxAt w0 w Sb K8 L W) (h1:ScA w0 Sb L' W') (h2:KeepX Sb W W') h3=>hT.moved hS8.out h1 h2 h3
  obtain ⟨e0,⟨x0,x1,x2,x3,x4,x5,x6⟩,⟨y0,y1,y2,y3,y4,y5,y6⟩,e3⟩:=hcK.out _ (h8K.out _ hT8.out.k).1
  rw [hW8]
  go_wp2_with (first
    | (go_at_call 37;(with_reducible refine (c7.out _ _ _ _ hS8.out h8K.out hT5.out hL4.out).mono ?_);rintro e wd hZ;obtain ⟨⟨vd,rfl⟩,hSc⟩:=hZ;have hT7:=Lib.hid (hM8.out _ _ _ _ hT5.out hSc.1 hSc.2.1 hSc.2.2);clear hSc)
    | (go_at_call 37;(with_reducible refine (c5.out _ _ _ _ hS8.out h8K.out hT8.out hL3.out).mono ?_);rintro e wc hZ;obtain ⟨⟨vc,rfl⟩,hSc⟩:=hZ;have hT5:=Lib.hid (hM8.out _ _ _ _ hT8.out hSc.1 hSc.2.1 hSc.2.2);obtain ⟨e0,⟨x0,x1,x2,x3,x4,x5,x6⟩,⟨y0,y1,y2,y3,y4,y5,y6⟩,e3⟩:=hcK.out _ (h8K.out _ hT5.out.k).1;clear hSc))
  refine bodyPost_end (v:=.tuple #[]) ?_ ?_ ?_
  · exact results_none (by rfl) _ _ _
  · rfl
  rw [hF.out]
  exact ⟨⟨_,rfl⟩,hT7.out.s,hT7.out.x,hT7.out.z⟩
end Go.Proofs.YtdhehcobnbcmdaaGreatDoor
