/- A part of the proof of DeltaLines: LwA LwB LwD. -/
import Derived.Test.YtdhehcobnbcmdaaGreatDoorPCp
import Derived.Maps.AppendAt
set_option linter.all false
namespace Go.Proofs.YtdhehcobnbcmdaaGreatDoor
open Go.RowKit
section
variable {w w' W W':World} {base n:Nat} {v u:Value} {l:List ByteArray} {xs:List Value}
theorem run_app (t ty e : TypeId) (i : TypeInfo) (z : Value) (ht : Tryz.prog.underlying t = some (.slice e)) (hi : Tryz.prog.info? e = some i) (hz : i.zero = some z) (hs : i.size = 1) (hzs : z.cells.size = 1)
    (hown:w.ownsRow base e 1 v n xs) (a:Addr) (m c:Nat) (news:List Value) (hl:news.length=m) (hm:0<m) (hnews:∀ j u,news[j]?=some u→w.cell? (a.add j)=some u) (h1:∀ u∈news,u.oneCell'=true)
    (h63:n+m≤maxLen) (hbytes:(n+m)*i.bytes≤140737488355328) (hbase:base≤w.heap.size) :
    ∃ g cap w', (Builtin.append_ #[t, t] ty #[v, .slice (some a) m c]).run Tryz.prog w = .ok (.slice (some ⟨g, 0, none⟩) (n + m) cap) w' ∧ w'.ownsRow base e 1 (.slice (some ⟨g, 0, none⟩) (n + m) cap) (n + m) (xs ++ news) ∧ w.grownBy w' v.ownBlock ∧
      (v.ownBlock=some g∨g=w.heap.size)∧(∀ b,v.ownBlock=some b→∀ j u,xs[j]?=some u→w'.cell? ⟨b,j,none⟩=some u):=by
  obtain ⟨v',w',hr,r1,r2,_,r4⟩:=run_append_own_at (P:=Tryz.prog) w base t ty e i z 1 i.bytes ht hi hz hs rfl hzs (by decide) v n xs hown a m c news (by omega) hnews h1 h63 hbytes hbase
  obtain ⟨g,cap,rfl⟩:∃ g cap,v'=.slice (some ⟨g,0,none⟩) (n+m) cap:=by
    rcases r1.2 with ⟨_,h0⟩|⟨g,cap,_,h,_⟩
    · omega
    · exact ⟨g,cap,h⟩
  refine ⟨g,cap,w',hr,r1,r2,by rcases r4 with e|e;exact .inl e.symm;exact .inr (by simpa [Value.ownBlock] using e),fun b hb j u hu=>?_⟩
  have hadd:(⟨b,0,none⟩:Addr).add j=⟨b,j,none⟩:=by unfold Addr.add;split<;>simp_all
  rcases r4 with eo|eo
  · have:=World.ownsRow.cells r1 (g:=b) (eo.trans hb) j u (by rw [List.getElem?_append_left (List.getElem?_eq_some_iff.1 hu).1];exact hu)
    rwa [hadd] at this
  · have hg:g=w.heap.size:=by simpa [Value.ownBlock] using eo
    rcases hown.2 with ⟨rfl,_⟩|⟨g',cap',cur,rfl,hbg,hgb,hnc,hcm,hcs,htake⟩
    · simp [Value.ownBlock] at hb
    · have hb':g'=b:=by simpa [Value.ownBlock] using hb
      subst hb'
      have hlt:=(Array.getElem?_eq_some_iff.1 hgb).1
      by_cases hroom:n+m≤cap'
      · have hq:=run_append_room (P:=Tryz.prog) w t ty e i ht hi g' n cap' cur hgb a m c news (by rw [hs];omega) hnews h1 hroom (by rw [hs,hcs];omega)
        have e1:=(Result.ok.inj (hq.symm.trans hr)).1
        have e2:=(Value.slice.inj e1).1
        have e3:g'=g:=by simpa using e2
        omega
      · have hq:=run_append_grow (P:=Tryz.prog) w t ty e i z ht hi hz ⟨g',0,none⟩ n cap' xs (by rw [hs];have:=hown.1;omega) (World.ownsRow.cells hown rfl) a m c news (by rw [hs];omega) hnews (by omega) (by simp only [maxLen] at h63;omega) (growslice_fits (by omega) hbytes)
        have e1:=(Result.ok.inj (hq.symm.trans hr)).2
        subst e1
        have h9:=World.ownsRow.cells hown (g:=g') rfl j u hu
        rw [hadd] at h9
        rw [World.cell?_of_block (a:=⟨g',j,none⟩) (w:=w) (heap_alloc_old w.drew _ (show g'<w.drew.heap.size from hlt))]
        exact h9
theorem wp_app {ops:Array Oper}{rest:List Oper}{o:Oper}{a:Act}{Q:Exit→Act→World→Prop}{T e:TypeId}{bytes:Nat}(E:ElT T e bytes)(hgd:o.guard=none)(s x:Operand)
    (ho:o.op=.call { callee:=.builtin .append,args:=#[s,x],argTypes:=#[T,T] }) (base:Nat) (v:Value) (n:Nat) (xs:List Value) (hs:a.eval s=v) (hown:w.ownsRow base e 1 v n xs)
    (ad:Addr) (m c:Nat) (news:List Value) (hx:a.eval x=.slice (some ad) m c) (hl:news.length=m) (hm:0<m) (hnews:∀ j u,news[j]?=some u→w.cell? (ad.add j)=some u) (h1:∀ u∈news,u.oneCell'=true)
    (h63:n+m≤maxLen) (hbytes:(n+m)*bytes≤140737488355328) (hbase:base≤w.heap.size) (H:Nat) (hH:w.heap.size=H)
    (h:∀ g cap w',w'.ownsRow base e 1 (.slice (some ⟨g,0,none⟩) (n+m) cap) (n+m) (xs++news)→w.grownBy w' v.ownBlock→(v.ownBlock=some g∨g=H)→(∀ b,v.ownBlock=some b→∀ j u,xs[j]?=some u→w'.cell? ⟨b,j,none⟩=some u)→wpList Tryz.prog ops Q rest (a.put o.dst (.slice (some ⟨g,0,none⟩) (n+m) cap)) w') :
    wpList Tryz.prog ops Q (o::rest) a w:=by
  subst hH
  obtain ⟨i,z,h2,h3,h4,h5,h6⟩:=E.hi
  subst h5
  refine wpList_plain hgd fun K hK=>?_
  obtain ⟨g,cap,w',hr,r1,r2,r3,r4⟩:=run_app (w:=w) T o.type e i z E.ht h2 h3 h4 h6 hown ad m c news hl hm hnews h1 h63 hbytes hbase
  unfold Oper.wp execOp
  simp only [ho,resolve,invoke,builtin,Sem.run_bind,Sem.run_pure,Result.andThen_ok,List.map_toArray,List.map_cons,List.map_nil,hs,hx,hr]
  exact hK _ _ (h g cap w' r1 r2 r3 r4)
theorem rows_ne {b1 b2 k m:Nat}{e1 e2:TypeId}{ys:List Value}(h1:W.ownsRow b1 e1 1 v k xs)(h2:W.ownsRow b2 e2 1 u m ys)(he:e1≠e2){g:Nat}(hv:v.ownBlock=some g):u.ownBlock≠some g:=fun hu=>by
  rcases h1.2 with ⟨rfl,_⟩|⟨g1,_,_,rfl,_,hg1,_⟩
  · simp [Value.ownBlock] at hv
  · rcases h2.2 with ⟨rfl,_⟩|⟨g2,_,_,rfl,_,hg2,_⟩
    · simp [Value.ownBlock] at hu
    · have hv':g1=g:=by simpa [Value.ownBlock] using hv
      have hu':g2=g:=by simpa [Value.ownBlock] using hu
      subst hv'
      subst hu'
      rw [hg1] at hg2
      injection hg2 with hg2
      injection hg2 with _ hg2 _
      exact he hg2
theorem row_block {e:TypeId}(h:w.ownsRow base e 1 v n xs)(hk:∀ g,v.ownBlock=some g→w'.heap[g]?=w.heap[g]?):w'.ownsRow base e 1 v n xs:=by
  refine ⟨h.1,?_⟩
  rcases h.2 with hn|⟨g,cap,cur,rfl,hb,hg,rest⟩
  · exact .inl hn
  · exact .inr ⟨g,cap,cur,rfl,hb,(hk g rfl).trans hg,rest⟩
def Reads (w:World)(v:Value)(l:List ByteArray):Prop:=∃ A c,v=.slice A l.length c∧l.length≤c∧∀ (k:Nat) (s:ByteArray),l[k]?=some s→∃ b,A=some ⟨b,0,none⟩∧w.cell? ⟨b,k,none⟩=some (.string s)
theorem reads_of (h:TextsR w base v l):Reads w v l:=by
  rcases h.2 with ⟨rfl,h0⟩|⟨g,cap,cur,rfl,hb,hg,hn,_,_,ht⟩
  · have:l=[]:=List.eq_nil_of_length_eq_zero h0
    subst this
    exact ⟨none,0,rfl,Nat.le_refl _,fun k s hk=>by simp at hk⟩
  · exact ⟨_,cap,rfl,hn,fun k s hk=>⟨g,rfl,row_cell h (by rw [List.getElem?_map,hk];rfl)⟩⟩
theorem Reads.block (h:Reads w v l)(hk:∀ g,v.ownBlock=some g→w'.heap[g]?=w.heap[g]?):Reads w' v l:=by
  obtain ⟨A,c,rfl,h1,h2⟩:=h
  refine ⟨A,c,rfl,h1,fun k s hs=>?_⟩
  obtain ⟨b,rfl,hc⟩:=h2 k s hs
  exact ⟨b,rfl,(World.cell?_of_block (a:=⟨b,k,none⟩) (hk b rfl)).trans hc⟩
theorem Reads.below (h:Reads w v l)(hb:Below w.heap.size w w'):Reads w' v l:=by
  obtain ⟨A,c,rfl,h1,h2⟩:=h
  refine ⟨A,c,rfl,h1,fun k s hs=>?_⟩
  obtain ⟨b,rfl,hc⟩:=h2 k s hs
  have hlt:b<w.heap.size:=by
    refine Nat.lt_of_not_le fun hle=>?_
    simp [World.cell?,Array.getElem?_eq_none hle] at hc
  exact ⟨b,rfl,((bcell hb).1 b k hlt).trans hc⟩
end
def Apart (vs:List Value):Prop:=∀ (i j:Nat) (v u:Value) (g:Nat),i≠j→vs[i]?=some v→vs[j]?=some u→v.ownBlock=some g→u.ownBlock≠some g
theorem Apart.push {vs:List Value}{v:Value}(h:Apart vs)(hv:∀ u∈vs,∀ g,v.ownBlock=some g→u.ownBlock≠some g):Apart (vs++[v]):=by
  have hv':∀ u∈vs,∀ g,u.ownBlock=some g→v.ownBlock≠some g:=fun u hu g h1 h2=>hv u hu g h2 h1
  intro i j x y g hij hi hj
  rcases Nat.lt_trichotomy i vs.length with h1|h1|h1
  · rw [List.getElem?_append_left h1] at hi
    rcases Nat.lt_trichotomy j vs.length with h2|h2|h2
    · rw [List.getElem?_append_left h2] at hj
      exact h i j x y g hij hi hj
    · rw [h2,List.getElem?_append_right (Nat.le_refl _),Nat.sub_self] at hj
      injection hj with hj
      subst hj
      exact hv' x (List.mem_of_getElem? hi) g
    · rw [List.getElem?_eq_none (by simp;omega)] at hj;cases hj
  · rw [h1,List.getElem?_append_right (Nat.le_refl _),Nat.sub_self] at hi
    injection hi with hi
    subst hi
    rcases Nat.lt_trichotomy j vs.length with h2|h2|h2
    · rw [List.getElem?_append_left h2] at hj
      exact hv y (List.mem_of_getElem? hj) g
    · omega
    · rw [List.getElem?_eq_none (by simp;omega)] at hj;cases hj
  · rw [List.getElem?_eq_none (by simp;omega)] at hi;cases hi
def markT (s:ByteArray)(i k:Nat):ByteArray:=((s++itoaB i)++ba [46])++itoaB k
set_option maxHeartbeats 4000000 in
set_option maxRecDepth 100000 in
theorem k_mark (s:ByteArray)(i k:Nat)(w:World)(hs:s.size≤100)(hi:i≤1000000)(hk:k≤1000000)(E:Env w):Calls Tryz.prog 7 #[.string s, .int .i64 (i:Int), .int .i64 (k:Int)] w (StrW (markT s i k) w):=by
  have c1:=Lib.hid fun W (hb:Below w.heap.size w W)=>itoa_w (i:Int) W (by omega) (by omega) (E.below hb)
  have c2:=Lib.hid fun W (hb:Below w.heap.size w W)=>itoa_w (k:Int) W (by omega) (by omega) (E.below hb)
  have z1:(itoaB (i:Int)).size≤100:=itoaB_le _ (by omega) (by omega)
  have z2:(itoaB (k:Int)).size≤100:=itoaB_le _ (by omega) (by omega)
  have hN:Hid (markT s i k=((s++itoaB i)++ba [46])++itoaB k):=Lib.hid rfl
  generalize markT s i k=N at *
  generalize itoaB (i:Int)=T1 at *
  generalize itoaB (k:Int)=T2 at *
  have g1:¬ 9223372036854775807<s.size+T1.size:=by omega
  have g2:¬ 9223372036854775807<s.size+T1.size+1:=by omega
  have g3:¬ 9223372036854775807<s.size+T1.size+1+T2.size:=by omega
  have hd:=Lib.hid (Below.refl w.heap.size w)
  clear z1 z2
  go_enter Tryz.func7,Tryz.ntmps7
  go_wp2_with (first
    | (go_at_call 21;(with_reducible refine (c2.out _ hbk).mono ?_);rintro e wz ⟨rfl,hbC⟩;have hbk2:=hbk.trans (hbC.mono hbk.size))
    | (go_at_call 21;(with_reducible refine (c1.out _ hd.out).mono ?_);rintro e wy ⟨rfl,hbB⟩;have hbk:=hd.out.trans (hbB.mono hd.out.size)))
  go_ret
  exact ⟨by rw [hN.out];rfl,hbk2⟩
set_option maxHeartbeats 4000000 in
set_option maxRecDepth 100000 in
theorem k_texts (l:List ByteArray)(v u:Value)(w:World)(hv:Reads w v l)(hu:Reads w u l)(hl:l.length≤1000000):Calls Tryz.prog 6 #[v,u] w (BoolW true w):=by
  obtain ⟨A,c,rfl,hc,hA⟩:=hv
  obtain ⟨B,d,rfl,hd,hB⟩:=hu
  have hb0:=Lib.hid (Below.refl w.heap.size w)
  replace hA:=Lib.hid hA
  replace hB:=Lib.hid hB
  have hlt0:Hid (∀ b o x,w.cell? ⟨b,o,none⟩=some x→b<w.heap.size):=Lib.hid fun b o x hc=>Nat.lt_of_not_le fun hle=>by simp [World.cell?,Array.getElem?_eq_none hle] at hc
  go_enter Tryz.func6,Tryz.ntmps6
  go_wp2_with fail
  go_loopw [5] (fun i wr=>∃ k:Nat,k≤l.length∧i=.int .i64 k∧Hid (Below w.heap.size w wr)) (fun i _=>l.length-(intOf i).toNat)
  case atStart=>exact ⟨0,Nat.zero_le _,rfl,hb0⟩
  case round=>
    obtain ⟨k,hk,rfl,hbw⟩:=hrel
    obtain ⟨wo,rfl⟩:∃ wo,wo=wr:=⟨_,rfl⟩
    clear hb0
    by_cases hlt:k<l.length
    · have hx:l[k]?=some l[k]:=List.getElem?_eq_getElem hlt
      obtain ⟨b1,rfl,e1⟩:=hA.out k _ hx
      obtain ⟨b2,rfl,e2⟩:=hB.out k _ hx
      replace e1:=((bcell hbw.out).1 b1 k (hlt0.out _ _ _ e1)).trans e1
      replace e2:=((bcell hbw.out).1 b2 k (hlt0.out _ _ _ e2)).trans e2
      have hbd:=Lib.hid fun n=>below_drewN hbw.out n
      have i1:(k:Int)<(l.length:Int):=by omega
      generalize l[k]=x at *
      clear hx
      go_upto_region 6 with fail
      go_quiet (fail)
      go_wp2_with fail
      go_roundw
      case rel=>exact ⟨k+1,by omega,by go_num,hbd.out _⟩
      case measure=>simp [intOf];omega
    · go_wp2_with fail
      go_ret
      exact ⟨rfl,hbw.out⟩
def lawL (L1 L2:List ByteArray)(i:Nat):List ByteArray:=if i % 2=0 then L1 else L2
def mkS (L1 L2:List ByteArray)(i:Nat):List ByteArray:=(List.range (lawL L1 L2 i).length).map (markT (ba [97]) i)
def moX (i:Nat):ByteArray:=markT (ba [109]) i 0
def moS (L1 L2:List ByteArray)(i:Nat):List ByteArray:=mkS L1 L2 i++List.replicate 64 (moX i)
theorem mkS_len (L1 L2:List ByteArray)(i:Nat):(mkS L1 L2 i).length=(lawL L1 L2 i).length:=by unfold mkS;rw [List.length_map,List.length_range]
theorem moS_len (L1 L2:List ByteArray)(i:Nat):(moS L1 L2 i).length=(lawL L1 L2 i).length+64:=by unfold moS;rw [List.length_append,mkS_len,List.length_replicate]
theorem mkS_at {L1 L2:List ByteArray}{i k:Nat}(h:k<(lawL L1 L2 i).length):(mkS L1 L2 i)[k]?=some (markT (ba [97]) i k):=by
  unfold mkS
  rw [List.getElem?_map,List.getElem?_range h]
  rfl
theorem moS_lo {L1 L2:List ByteArray}{i k:Nat}(h:k<(lawL L1 L2 i).length):(moS L1 L2 i)[k]?=some (markT (ba [97]) i k):=by
  unfold moS
  rw [List.getElem?_append_left (by rw [mkS_len];exact h)]
  exact mkS_at h
theorem moS_hi {L1 L2:List ByteArray}{i k:Nat}(h:(lawL L1 L2 i).length≤k)(h2:k<(lawL L1 L2 i).length+64):(moS L1 L2 i)[k]?=some (moX i):=by
  unfold moS
  rw [List.getElem?_append_right (by rw [mkS_len];exact h),mkS_len,List.getElem?_replicate,if_pos (by omega)]
def partS (L1 L2:List ByteArray)(i k:Nat):List ByteArray:=(mkS L1 L2 i).take k++(lawL L1 L2 i).drop k
theorem partS_zero (L1 L2:List ByteArray)(i:Nat):partS L1 L2 i 0=lawL L1 L2 i:=by unfold partS;simp
theorem partS_all (L1 L2:List ByteArray)(i:Nat):partS L1 L2 i (lawL L1 L2 i).length=mkS L1 L2 i:=by
  unfold partS
  rw [List.take_of_length_le (by rw [mkS_len];exact Nat.le_refl _),List.drop_length,List.append_nil]
theorem partS_len {L1 L2:List ByteArray}{i k:Nat}(h:k≤(lawL L1 L2 i).length):(partS L1 L2 i k).length=(lawL L1 L2 i).length:=by
  unfold partS
  rw [List.length_append,List.length_take,List.length_drop,mkS_len]
  omega
theorem partS_set {L1 L2:List ByteArray}{i k:Nat}(h:k<(lawL L1 L2 i).length):(partS L1 L2 i k).set k (markT (ba [97]) i k)=partS L1 L2 i (k+1):=by
  apply List.ext_getElem?
  intro j
  have hm:=mkS_at (L1:=L1) (L2:=L2) (i:=i) h
  have hl:=mkS_len L1 L2 i
  unfold partS
  rw [List.getElem?_set]
  have e1:((mkS L1 L2 i).take k).length=k:=by rw [List.length_take];omega
  have e2:((mkS L1 L2 i).take (k+1)).length=k+1:=by rw [List.length_take];omega
  by_cases hj:k=j
  · subst hj
    rw [if_pos rfl,if_pos (by rw [List.length_append,e1,List.length_drop];omega),List.getElem?_append_left (by omega),List.getElem?_take_of_lt (Nat.lt_succ_self _),hm]
  · rw [if_neg hj]
    rcases Nat.lt_or_ge j k with h1|h1
    · rw [List.getElem?_append_left (by omega),List.getElem?_append_left (by omega),List.getElem?_take_of_lt h1,List.getElem?_take_of_lt (by omega)]
    · rw [List.getElem?_append_right (by omega),List.getElem?_append_right (by omega),e1,e2,List.getElem?_drop,List.getElem?_drop]
      congr 1
      omega
section
variable {w1 W W':World} {gw:Nat} {u1 u2 vl:Value} {L1 L2:List ByteArray} {vs:List Value} {ls:List (List ByteArray)}
structure PhA (w1:World)(gw:Nat)(u1 u2:Value)(L1 L2:List ByteArray)(vl:Value)(vs:List Value)(ls:List (List ByteArray))(W:World):Prop where
  b:Below w1.heap.size w1 W
  was:W.heap[gw]?=some (.cells #[u1,u2] 29 (0,0))
  hgw:w1.heap.size≤gw
  r1:TextsR W w1.heap.size u1 L1
  r2:TextsR W w1.heap.size u2 L2
  o:W.ownsRow w1.heap.size 29 1 vl vs.length vs
  og:vl.ownBlock≠some gw
  len:vs.length=ls.length
  r:∀ (j:Nat) (v:Value) (l:List ByteArray),vs[j]?=some v→ls[j]?=some l→TextsR W w1.heap.size v l
  ap:Apart (u1::u2::vs)
theorem PhA.below (h:PhA w1 gw u1 u2 L1 L2 vl vs ls W)(hb:Below W.heap.size W W'):PhA w1 gw u1 u2 L1 L2 vl vs ls W':=
  ⟨h.b.trans (hb.mono h.b.size),(hb.block _ (Array.getElem?_eq_some_iff.1 h.was).1).trans h.was,h.hgw,row_below h.r1 hb (Nat.le_refl _),row_below h.r2 hb (Nat.le_refl _),row_below h.o hb (Nat.le_refl _),h.og,h.len,fun j v l hv hl=>row_below (h.r j v l hv hl) hb (Nat.le_refl _),h.ap⟩
theorem PhA.lt (h:PhA w1 gw u1 u2 L1 L2 vl vs ls W):∀ v∈u1::u2::vs,∀ b,v.ownBlock=some b→b<W.heap.size:=fun v hv b hb=>by
  rcases List.mem_cons.1 hv with rfl|hv
  · exact (h.r1.lt b hb).2
  rcases List.mem_cons.1 hv with rfl|hv
  · exact (h.r2.lt b hb).2
  obtain ⟨j,hj⟩:=List.getElem?_of_mem hv
  have hjl:=(List.getElem?_eq_some_iff.1 hj).1
  exact ((h.r j v _ hj (List.getElem?_eq_getElem (by have:=h.len;omega))).lt b hb).2
theorem ty_ne:9≠29:=by decide
theorem PhA.push2 (h : PhA w1 gw u1 u2 L1 L2 vl vs ls W) {v1 v2 : Value} {l1 l2 : List ByteArray} {n1 n2 : Nat} (h1 : TextsR W n1 v1 l1) (h2 : TextsR W n2 v2 l2) (hb1 : w1.heap.size ≤ n1) (hb2 : n1 ≤ n2)
    (f1:∀ v∈u1::u2::vs,∀ b,v.ownBlock=some b→b<n1) (f2:∀ b,v1.ownBlock=some b→b<n2) {tmp:Obj} {g cap:Nat}
    (hg:(W.alloc tmp).grownBy W' vl.ownBlock) (hor:vl.ownBlock=some g∨g=W.heap.size+1) (ho:W'.ownsRow w1.heap.size 29 1 (.slice (some ⟨g,0,none⟩) (vs.length+2) cap) (vs.length+2) (vs++[v1,v2])) :
    PhA w1 gw u1 u2 L1 L2 (.slice (some ⟨g,0,none⟩) (vs.length+2) cap) (vs++[v1,v2]) (ls++[l1,l2]) W':=by
  have hgl:=(Array.getElem?_eq_some_iff.1 h.was).1
  have hk:∀ {n m:Nat} {v:Value} {l:List ByteArray},TextsR W n v l→TextsR W' n v l:=fun {n m v l} ht=>by
    refine World.ownsRow.kept (World.ownsRow.alloc ht tmp) hg ?_
    by_cases e:v.ownBlock=none
    · exact .inl e
    · refine .inr fun e2=>?_
      cases hv:v.ownBlock with
      | none=>exact e hv
      | some b=>exact rows_ne ht h.o ty_ne hv (e2.symm.trans hv)
  have hl:(vs++[v1,v2]).length=vs.length+2:=by simp
  refine ⟨h.b.trans ((((Below.refl w1.heap.size W).alloc h.b.size tmp)).grown hg (by simp;have:=h.b.size;omega) fun k e=>(h.o.lt k e).1),?_,h.hgw,hk (m:=0) h.r1,hk (m:=0) h.r2,by rw [hl];exact ho,?_,by rw [List.length_append,List.length_append,h.len];rfl,?_,?_⟩
  · exact (hg.block gw (by simp;omega) fun e=>h.og e.symm).trans ((heap_alloc_old W tmp hgl).trans h.was)
  · intro e
    have e:g=gw:=by simpa [Value.ownBlock] using e
    rcases hor with e2|e2
    · exact h.og (by rw [e2,e])
    · omega
  · intro j v l hv hl'
    rcases Nat.lt_or_ge j vs.length with hj|hj
    · rw [List.getElem?_append_left hj] at hv
      rw [List.getElem?_append_left (by have:=h.len;omega)] at hl'
      exact hk (m:=0) (h.r j v l hv hl')
    · rw [List.getElem?_append_right hj] at hv
      rw [List.getElem?_append_right (by have:=h.len;omega),← h.len] at hl'
      generalize j-vs.length=q at hv hl'
      match q,hv,hl' with
      | 0, hv, hl' =>
        injection hv with hv;injection hl' with hl';subst hv hl'
        exact row_base_le (hk (m:=0) h1) hb1
      | 1, hv, hl' =>
        injection hv with hv;injection hl' with hl';subst hv hl'
        exact row_base_le (hk (m:=0) h2) (Nat.le_trans hb1 hb2)
      | q+2,hv,_=>simp at hv
  · have e:u1::u2::(vs++[v1,v2])=((u1::u2::vs)++[v1])++[v2]:=by simp
    rw [e]
    refine (h.ap.push fun u hu g hv hg'=>?_).push fun u hu g hv hg'=>?_
    · have:=(h1.lt g hv).1
      have:=f1 u hu g hg'
      omega
    · have e3:=(h2.lt g hv).1
      rcases List.mem_append.1 hu with hu|hu
      · have:=f1 u hu g hg'
        omega
      · rw [List.mem_singleton.1 hu] at hg'
        have:=f2 g hg'
        omega
theorem Apart.fst (h:Apart (u1::u2::vs)){i:Nat}{v:Value}(hv:vs[i]?=some v){g:Nat}(hg:v.ownBlock=some g):u1.ownBlock≠some g:=h (i+2) 0 v u1 g (by omega) hv rfl hg
theorem Apart.snd (h:Apart (u1::u2::vs)){i:Nat}{v:Value}(hv:vs[i]?=some v){g:Nat}(hg:v.ownBlock=some g):u2.ownBlock≠some g:=h (i+2) 1 v u2 g (by omega) hv rfl hg
theorem Apart.two (h:Apart (u1::u2::vs)){i j:Nat}{v u:Value}(hij:i≠j)(hv:vs[i]?=some v)(hu:vs[j]?=some u){g:Nat}(hg:v.ownBlock=some g):u.ownBlock≠some g:=h (i+2) (j+2) v u g (by omega) hv hu hg
theorem PhA.set (h:PhA w1 gw u1 u2 L1 L2 vl vs ls W){i k g cp:Nat}{l:List ByteArray}(hv:vs[i]?=some (.slice (some ⟨g,0,none⟩) l.length cp))(hl:ls[i]?=some l)(s:ByteArray) :
    PhA w1 gw u1 u2 L1 L2 vl vs (ls.set i (l.set k s)) (W.setCell ⟨g,k,none⟩ (.string s)):=by
  have ht:=h.r i _ l hv hl
  have hgl:=ht.lt g rfl
  have hob:(Value.slice (some ⟨g,0,none⟩) l.length cp).ownBlock=some g:=rfl
  have hk:∀ c,c≠g→(W.setCell ⟨g,k,none⟩ (.string s)).heap[c]?=W.heap[c]?:=fun c hc=>Below.heap_setCell W ⟨g,k,none⟩ (.string s) c hc
  have hks:∀ {v:Value},v.ownBlock≠some g→∀ b,v.ownBlock=some b→(W.setCell ⟨g,k,none⟩ (.string s)).heap[b]?=W.heap[b]?:=fun hn b hb=>hk b fun e=>hn (e▸hb)
  refine ⟨h.b.setCell (p:=⟨g,k,none⟩) hgl.1 _,(hk gw fun e=>?_).trans h.was,h.hgw,row_block h.r1 (hks (h.ap.fst hv hob)),row_block h.r2 (hks (h.ap.snd hv hob)),row_block h.o (hks (rows_ne ht h.o ty_ne hob)),h.og,by rw [List.length_set];exact h.len,fun j v m hj hm=>?_,h.ap⟩
  · rcases ht.2 with ⟨e2,_⟩|⟨g',_,_,e2,_,hg',_⟩
    · cases e2
    · have e3:g=g':=by simpa using (Value.slice.inj e2).1
      rw [← e3,← e,h.was] at hg'
      exact ty_ne (Obj.cells.inj (Option.some.inj hg')).2.1.symm
  · by_cases hij:i=j
    · subst hij
      rw [hv] at hj
      injection hj with hj
      subst hj
      rw [List.getElem?_set_self (List.getElem?_eq_some_iff.1 hl).1] at hm
      injection hm with hm
      subst hm
      have:=row_set ht k (.string s)
      unfold TextsR
      rw [List.length_set,List.map_set]
      exact this
    · rw [List.getElem?_set_ne hij] at hm
      exact row_block (h.r j v m hj hm) (hks (h.ap.two hij hv hj hob))
structure PhD (w1:World)(S0 gw:Nat)(u1 u2:Value)(L1 L2:List ByteArray)(vl:Value)(vs:List Value)(vm:Value)(gs:List Value)(W:World):Prop where
  b:Below w1.heap.size w1 W
  was:W.heap[gw]?=some (.cells #[u1,u2] 29 (0,0))
  hgw:w1.heap.size≤gw∧gw<S0
  r1:TextsR W w1.heap.size u1 L1
  r2:TextsR W w1.heap.size u2 L2
  o:W.ownsRow w1.heap.size 29 1 vl vs.length vs
  os:∀ g,vl.ownBlock=some g→g<S0
  m:W.ownsRow S0 29 1 vm gs.length gs
  vT:∀ (j:Nat) (v:Value),gs.length≤j→vs[j]?=some v→TextsR W w1.heap.size v (mkS L1 L2 j)
  vR:∀ (j:Nat) (v:Value),vs[j]?=some v→Reads W v (mkS L1 L2 j)
  gT:∀ (j:Nat) (g:Value),gs[j]?=some g→TextsR W w1.heap.size g (moS L1 L2 j)
  gB:∀ (j:Nat) (g:Value) (b:Nat),gs[j]?=some g→g.ownBlock=some b→(∃ v,vs[j]?=some v∧v.ownBlock=some b)∨S0≤b
  ap:Apart (u1::u2::vs)
  lt:∀ v∈u1::u2::vs,∀ b,v.ownBlock=some b→b<S0
  sz:S0≤W.heap.size∧w1.heap.size≤S0
structure Lane (w1 Wi:World)(L1 L2:List ByteArray)(i:Nat)(v g:Value)(k:Nat)(W:World):Prop where
  b:Below w1.heap.size w1 W
  sz:Wi.heap.size≤W.heap.size
  K:∀ c,c<Wi.heap.size→v.ownBlock≠some c→W.heap[c]?=Wi.heap[c]?
  t:TextsR W w1.heap.size g (mkS L1 L2 i++List.replicate k (moX i))
  gq:∀ b,g.ownBlock=some b→v.ownBlock=some b∨Wi.heap.size≤b
  r:Reads W v (mkS L1 L2 i)
variable {S0:Nat} {vm:Value} {gs:List Value} {Wi:World} {i k:Nat} {v g:Value}
theorem PhD.below (h:PhD w1 S0 gw u1 u2 L1 L2 vl vs vm gs W)(hb:Below W.heap.size W W'):PhD w1 S0 gw u1 u2 L1 L2 vl vs vm gs W':=
  ⟨h.b.trans (hb.mono h.b.size),(hb.block _ (Array.getElem?_eq_some_iff.1 h.was).1).trans h.was,h.hgw,row_below h.r1 hb (Nat.le_refl _),row_below h.r2 hb (Nat.le_refl _),row_below h.o hb (Nat.le_refl _),h.os,row_below h.m hb (Nat.le_refl _),
    fun j v hj hv=>row_below (h.vT j v hj hv) hb (Nat.le_refl _),fun j v hv=>(h.vR j v hv).below hb,fun j g hg=>row_below (h.gT j g hg) hb (Nat.le_refl _),h.gB,h.ap,h.lt,Nat.le_trans h.sz.1 hb.size,h.sz.2⟩
theorem PhD.start (h:PhA w1 gw u1 u2 L1 L2 vl vs ((List.range vs.length).map (mkS L1 L2)) W):PhD w1 W.heap.size gw u1 u2 L1 L2 vl vs (.slice none 0 0) [] W:=by
  have ht:∀ (j:Nat) (v:Value),vs[j]?=some v→TextsR W w1.heap.size v (mkS L1 L2 j):=fun j v hv=>h.r j v _ hv (by rw [List.getElem?_map,List.getElem?_range (List.getElem?_eq_some_iff.1 hv).1];rfl)
  exact ⟨h.b,h.was,⟨h.hgw,(Array.getElem?_eq_some_iff.1 h.was).1⟩,h.r1,h.r2,h.o,fun g hg=>(h.o.lt g hg).2,World.ownsRow_nil _ _ _ _,fun j v _ hv=>ht j v hv,fun j v hv=>reads_of (ht j v hv),fun j g hg=>by simp at hg,fun j g b hg=>by simp at hg,h.ap,h.lt,Nat.le_refl _,h.b.size⟩
theorem Lane.start (h:PhD w1 S0 gw u1 u2 L1 L2 vl vs vm gs W)(hv:vs[gs.length]?=some v):Lane w1 W L1 L2 gs.length v v 0 W:=
  ⟨h.b,Nat.le_refl _,fun _ _ _=>rfl,by simpa using h.vT _ v (Nat.le_refl _) hv,fun b hb=>.inl hb,h.vR _ v hv⟩
theorem Lane.below (h:Lane w1 Wi L1 L2 i v g k W)(hb:Below W.heap.size W W'):Lane w1 Wi L1 L2 i v g k W':=
  ⟨h.b.trans (hb.mono h.b.size),Nat.le_trans h.sz hb.size,fun c hc hn=>(hb.block c (Nat.lt_of_lt_of_le hc h.sz)).trans (h.K c hc hn),row_below h.t hb (Nat.le_refl _),h.gq,h.r.below hb⟩
theorem Lane.push (h : Lane w1 Wi L1 L2 i v g k W) {tmp : Obj} {g' cap : Nat} (hg : (W.alloc tmp).grownBy W' g.ownBlock) (hor : g.ownBlock = some g' ∨ g' = W.heap.size + 1)
    (ho:W'.ownsRow w1.heap.size 9 1 (.slice (some ⟨g',0,none⟩) ((mkS L1 L2 i++List.replicate k (moX i)).length+1) cap) ((mkS L1 L2 i++List.replicate k (moX i)).length+1) ((mkS L1 L2 i++List.replicate k (moX i)).map Value.string++[.string (moX i)]))
    (hc:∀ b,g.ownBlock=some b→∀ j u,((mkS L1 L2 i++List.replicate k (moX i)).map Value.string)[j]?=some u→W'.cell? ⟨b,j,none⟩=some u) :
    Lane w1 Wi L1 L2 i v (.slice (some ⟨g',0,none⟩) ((mkS L1 L2 i++List.replicate k (moX i)).length+1) cap) (k+1) W':=by
  have hsz:=h.sz
  have hgs:=hg.size
  rw [World.size_alloc] at hgs
  refine ⟨h.b.trans (((((Below.refl w1.heap.size W).alloc h.b.size tmp)).grown hg (by simp;have:=h.b.size;omega) fun b e=>(h.t.lt b e).1)),by omega,fun c hcl hn=>?_,?_,fun b hb=>?_,?_⟩
  · refine (hg.block c (by simp;omega) fun e=>?_).trans ((heap_alloc_old W tmp (by omega)).trans (h.K c hcl hn))
    rcases h.gq c e.symm with e2|e2
    · exact hn e2
    · omega
  · have e:mkS L1 L2 i++List.replicate (k+1) (moX i)=(mkS L1 L2 i++List.replicate k (moX i))++[moX i]:=by rw [List.replicate_succ',List.append_assoc]
    rw [e]
    have hl:((mkS L1 L2 i++List.replicate k (moX i))++[moX i]).length=(mkS L1 L2 i++List.replicate k (moX i)).length+1:=List.length_append
    have hm:((mkS L1 L2 i++List.replicate k (moX i))++[moX i]).map Value.string=(mkS L1 L2 i++List.replicate k (moX i)).map Value.string++[.string (moX i)]:=List.map_append
    unfold TextsR
    rw [hl,hm]
    exact ho
  · have e:g'=b:=by simpa [Value.ownBlock] using hb
    subst e
    rcases hor with e|e
    · exact h.gq g' e
    · right;omega
  · obtain ⟨A,c,rfl,h1,h2⟩:=h.r
    refine ⟨A,c,rfl,h1,fun j s hs=>?_⟩
    obtain ⟨b,rfl,hcell⟩:=h2 j s hs
    refine ⟨b,rfl,?_⟩
    by_cases e:g.ownBlock=some b
    · refine hc b e j _ ?_
      rw [List.getElem?_map,List.getElem?_append_left (List.getElem?_eq_some_iff.1 hs).1,hs]
      rfl
    · have hlt:b<W.heap.size:=by
        refine Nat.lt_of_not_le fun hle=>?_
        simp [World.cell?,Array.getElem?_eq_none hle] at hcell
      exact (World.cell?_of_block (a:=⟨b,j,none⟩) ((hg.block b (by simp;omega) fun e2=>e e2.symm).trans (heap_alloc_old W tmp hlt))).trans hcell
theorem Lane.keep (hL:Lane w1 Wi L1 L2 i v g k W){u:Value}{e:TypeId}{base n:Nat}{xs:List Value}(hu:Wi.ownsRow base e 1 u n xs)(hn:∀ b,u.ownBlock=some b→v.ownBlock≠some b):W.ownsRow base e 1 u n xs:=
  row_block hu fun b hb=>hL.K b (hu.lt b hb).2 (hn b hb)
theorem Lane.m (h:PhD w1 S0 gw u1 u2 L1 L2 vl vs vm gs Wi)(hv:vs[i]?=some v)(hL:Lane w1 Wi L1 L2 i v g k W):W.ownsRow S0 29 1 vm gs.length gs:=
  hL.keep h.m fun b hb e=>by
    have:=(h.m.lt b hb).1
    have:=h.lt v (List.mem_cons_of_mem _ (List.mem_cons_of_mem _ (List.mem_of_getElem? hv))) b e
    omega
theorem PhD.next (h : PhD w1 S0 gw u1 u2 L1 L2 vl vs vm gs Wi) (hv : vs[gs.length]? = some v) (hL : Lane w1 Wi L1 L2 gs.length v g 64 W) {tmp : Obj} {g' cap : Nat} (hg : (W.alloc tmp).grownBy W' vm.ownBlock) (hor : vm.ownBlock = some g' ∨ g' = W.heap.size + 1)
    (ho:W'.ownsRow S0 29 1 (.slice (some ⟨g',0,none⟩) (gs.length+1) cap) (gs.length+1) (gs++[g])):PhD w1 S0 gw u1 u2 L1 L2 vl vs (.slice (some ⟨g',0,none⟩) (gs.length+1) cap) (gs++[g]) W':=by
  have hvm:=List.mem_cons_of_mem u1 (List.mem_cons_of_mem u2 (List.mem_of_getElem? hv))
  have hmW:=Lane.m h hv hL
  have hsz:=hL.sz
  have hgs:=hg.size
  rw [World.size_alloc] at hgs
  have hs0:=h.sz.1
  have hk:∀ c,c<Wi.heap.size→v.ownBlock≠some c→vm.ownBlock≠some c→W'.heap[c]?=Wi.heap[c]?:=fun c hc h1 h2=>
    (hg.block c (by simp;omega) fun e=>h2 e.symm).trans ((heap_alloc_old W tmp (by omega)).trans (hL.K c hc h1))
  have hms:∀ c,c<S0→vm.ownBlock≠some c:=fun c hc e=>by have:=(h.m.lt c e).1;omega
  have hgT:TextsR W' w1.heap.size g (moS L1 L2 gs.length):=row_block hL.t fun b hb=>(hg.block b (by simp;have:=(hL.t.lt b hb).2;omega) fun e=>rows_ne hL.t hmW ty_ne hb e.symm).trans (heap_alloc_old W tmp (hL.t.lt b hb).2)
  have hrow:∀ {u:Value} {l:List ByteArray} {n:Nat},TextsR Wi n u l→(∀ b,u.ownBlock=some b→v.ownBlock≠some b)→TextsR W' n u l:=fun ht hn=>
    row_block ht fun b hb=>hk b (ht.lt b hb).2 (hn b hb) (rows_ne ht h.m ty_ne hb)
  refine ⟨hL.b.trans ((((Below.refl w1.heap.size W).alloc hL.b.size tmp)).grown hg (by simp;have:=hL.b.size;omega) fun b e=>Nat.le_trans h.sz.2 (h.m.lt b e).1),?_,h.hgw,hrow h.r1 fun b hb e=>?_,hrow h.r2 fun b hb e=>?_,?_,h.os,by rw [List.length_append];exact ho,fun j u hj hu=>?_,fun j u hu=>?_,fun j u hu=>?_,fun j u b hu hb=>?_,h.ap,h.lt,by omega,h.sz.2⟩
  · refine (hk gw (by have:=h.hgw.2;omega) (fun e=>?_) (hms gw h.hgw.2)).trans h.was
    have ht:=h.vT _ v (Nat.le_refl _) hv
    rcases ht.2 with ⟨e2,_⟩|⟨q,_,_,e2,_,hq,_⟩
    · rw [e2] at e;simp [Value.ownBlock] at e
    · rw [e2] at e
      have e3:q=gw:=by simpa [Value.ownBlock] using e
      rw [e3,h.was] at hq
      exact ty_ne (Obj.cells.inj (Option.some.inj hq)).2.1.symm
  · exact h.ap.fst hv e hb
  · exact h.ap.snd hv e hb
  · exact row_block h.o fun b hb=>hk b (h.o.lt b hb).2 (fun e=>rows_ne (h.vT _ v (Nat.le_refl _) hv) h.o ty_ne e hb) (hms b (h.os b hb))
  · rw [List.length_append] at hj
    have hj':gs.length+1≤j:=hj
    exact hrow (h.vT j u (by omega) hu) fun b hb e=>h.ap.two (by omega) hv hu e hb
  · by_cases e:j=gs.length
    · subst e
      rw [hv] at hu
      injection hu with hu
      subst hu
      have hr:=hL.r
      refine hr.block fun b hb=>?_
      have hbl:=h.lt v hvm b hb
      exact (hg.block b (by simp;omega) fun e=>hms b hbl e.symm).trans (heap_alloc_old W tmp (by omega))
    · refine (h.vR j u hu).block fun b hb=>?_
      have hbl:=h.lt u (List.mem_cons_of_mem _ (List.mem_cons_of_mem _ (List.mem_of_getElem? hu))) b hb
      exact hk b (by omega) (h.ap.two e hu hv hb) (hms b hbl)
  · rcases Nat.lt_trichotomy j gs.length with hj|hj|hj
    · rw [List.getElem?_append_left hj] at hu
      refine hrow (h.gT j u hu) fun b hb e=>?_
      rcases h.gB j u b hu hb with ⟨v',hv',hb'⟩|h3
      · exact h.ap.two (by omega) hv hv' e hb'
      · have:=h.lt v hvm b e
        omega
    · rw [hj,List.getElem?_append_right (Nat.le_refl _),Nat.sub_self] at hu
      injection hu with hu
      subst hu hj
      exact hgT
    · rw [List.getElem?_eq_none (by simp;omega)] at hu;cases hu
  · rcases Nat.lt_trichotomy j gs.length with hj|hj|hj
    · rw [List.getElem?_append_left hj] at hu
      exact h.gB j u b hu hb
    · rw [hj,List.getElem?_append_right (Nat.le_refl _),Nat.sub_self] at hu
      injection hu with hu
      subst hu hj
      rcases hL.gq b hb with e|e
      · exact .inl ⟨v,hv,e⟩
      · right;omega
    · rw [List.getElem?_eq_none (by simp;omega)] at hu;cases hu
end
end Go.Proofs.YtdhehcobnbcmdaaGreatDoor
