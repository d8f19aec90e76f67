/- A part of the proof of DeltaLines: Del1 Del2 Del3 Eql. -/
import Derived.Test.YtdhehcobnbcmdaaGreatDoorPP5
import Derived.Lib.SplitLaws
import Derived.Lib.CountLaws
import Derived.Test.YtdhehcobnbcmdaaGreatDoorPMo6
import Derived.Laws.StructEq
set_option linter.all false
namespace Go.Proofs.YtdhehcobnbcmdaaGreatDoor
open Go.RowKit
def nlB:ByteArray:=⟨#[10]⟩
def piecesL (L:Bytes):List ByteArray:=Lib.splitB nlB 0 (Lib.countB ⟨L.toArray⟩ nlB) ⟨L.toArray⟩
def lineTx (L:Bytes)(n:Nat):ByteArray:=⟨(Lib.trimSpaceD ((piecesL L)[n]?.getD ⟨#[]⟩).data.toList).toArray⟩
theorem piece_le (sep : ByteArray) (save : Nat) : ∀ (k : Nat) (s : ByteArray), ∀ x ∈ Lib.splitB sep save k s, x.size ≤ s.size
  | 0, s, x, hx => by
    rw [Lib.splitB_zero] at hx
    rw [List.mem_singleton.1 hx]
    exact Nat.le_refl _
  | k + 1, s, x, hx => by
    unfold Lib.splitB at hx
    split at hx
    · rw [List.mem_singleton.1 hx];exact Nat.le_refl _
    · rcases List.mem_cons.1 hx with h|h
      · rw [h,ByteArray.size_extract];omega
      · have:=piece_le sep save k _ x h
        rw [ByteArray.size_extract] at this
        omega
theorem trimL_le:∀ (n:Nat)(l:Bytes),(Lib.trimLeftD n l).length≤l.length:=by
  intro n
  induction n with
  | zero=>intro l;unfold Lib.trimLeftD;exact Nat.le_refl _
  | succ n ih =>
    intro l
    unfold Lib.trimLeftD
    repeat' split
    all_goals first
      | exact Nat.le_refl _
      | exact Nat.zero_le _
      | (refine Nat.le_trans (ih _) ?_;rw [List.length_drop];omega)
theorem trimR_le:∀ (n:Nat)(l:Bytes),(Lib.trimRightD n l).length≤l.length:=by
  intro n
  induction n with
  | zero=>intro l;unfold Lib.trimRightD;exact Nat.le_refl _
  | succ n ih =>
    intro l
    unfold Lib.trimRightD
    repeat' split
    all_goals first
      | exact Nat.le_refl _
      | exact Nat.zero_le _
      | (refine Nat.le_trans (ih _) ?_;rw [List.length_take];omega)
theorem lineTx_le (L:Bytes)(n:Nat):(lineTx L n).size≤L.length:=by
  have h1:(lineTx L n).size=(Lib.trimSpaceD ((piecesL L)[n]?.getD ⟨#[]⟩).data.toList).length:=by simp [lineTx,ByteArray.size]
  rw [h1]
  unfold Lib.trimSpaceD
  refine Nat.le_trans (trimR_le _ _) (Nat.le_trans (trimL_le _ _) ?_)
  cases h:(piecesL L)[n]? with
  | none=>exact Nat.zero_le _
  | some x =>
    have:=piece_le nlB 0 _ _ x (List.mem_of_getElem? h)
    exact this
theorem pieces_len (L:Bytes):(piecesL L).length=Lib.countB ⟨L.toArray⟩ nlB+1:=Lib.splitB_all nlB (by decide) 0 _ _ rfl
set_option maxHeartbeats 4000000 in
set_option maxRecDepth 100000 in
theorem d_printed (bxs:List BoxS)(lks:List LinkS)(sls:List SliceS)(Af:Option Addr)(cf:Nat)(vb vl vs:Value)(n B:Nat)(w:World)(hb:SlOf 7 BoxC w B vb bxs)(hl:SlOf 3 LinkC w B vl lks)(hs:SlOf 3 SliceC w B vs sls)(hB:B≤w.heap.size)(E:Env w)
    (wB:∀ b∈bxs,WrB b) (wL:∀ x∈lks,WrL x) (wS:∀ s∈sls,WrS s) (hlen:(allL bxs lks sls).length≤16384) (hne:allL bxs lks sls≠[]) (hn:n<(piecesL (allL bxs lks sls)).length) :
    Calls Tryz.prog 16 #[.agg #[.string ⟨#[]⟩, .slice Af 0 cf, .string ⟨#[]⟩, .bool false,vb,vl,vs], .int .i64 n] w (StrW (lineTx (allL bxs lks sls) n) w):=by
  obtain ⟨Ab,cb,rfl,_,_⟩:=SlOf.form hb
  obtain ⟨Al,cl,rfl,_,_⟩:=SlOf.form hl
  obtain ⟨As,cs,rfl,_,_⟩:=SlOf.form hs
  obtain ⟨W,hW⟩:∃ W,w.alloc (.cells #[.string ⟨#[]⟩, .slice Af 0 cf, .string ⟨#[]⟩, .bool false, .slice Ab bxs.length cb, .slice Al lks.length cl, .slice As sls.length cs] 27 (0,0))=W:=⟨_,rfl⟩
  have hbW:=Lib.hid (show Below w.heap.size w W by rw [← hW];exact (Below.refl w.heap.size w).alloc (Nat.le_refl _) _)
  have hX:W.heap[w.heap.size]?=some (.cells #[.string ⟨#[]⟩, .slice Af 0 cf, .string ⟨#[]⟩, .bool false, .slice Ab bxs.length cb, .slice Al lks.length cl, .slice As sls.length cs] 27 (0,0)):=by rw [← hW];exact heap_alloc_new w _
  obtain ⟨x0,x1,x2,x3,x4,x5,x6⟩:=cells7 hX
  have kk:=keepB hbW.out hB
  have cP:=Lib.hid (c_Print bxs lks sls Af cf _ _ _ B W (hb.keep (Nat.le_refl _) kk fun _ _ h=>h.keep (Nat.le_refl _) kk) (pureSl hl (Nat.le_refl _) kk) (hs.keep (Nat.le_refl _) kk fun _ _ h=>h.keep (Nat.le_refl _) kk) (Nat.le_trans hB hbW.out.size) (E.below hbW.out) wB wL wS hlen hne)
  have hpl:=pieces_len (allL bxs lks sls)
  obtain ⟨L,hL⟩:∃ L,L=allL bxs lks sls:=⟨_,rfl⟩
  rw [← hL] at cP hlen hn hpl ⊢
  have hE:=Lib.hid fun W' (hb:Below W.heap.size W W')=>E.below (hbW.out.trans (hb.mono hbW.out.size))
  have hz:=Lib.hid fun W' (hb:Below W.heap.size W W')=>hbW.out.trans (hb.mono hbW.out.size)
  obtain ⟨px,hpx⟩:∃ px,(piecesL L)[n]?=some px:=⟨_,List.getElem?_eq_getElem hn⟩
  have hLT:Hid ((⟨(Lib.trimSpaceD px.data.toList).toArray⟩:ByteArray)=lineTx L n):=Lib.hid (by unfold lineTx;rw [hpx];rfl)
  have eL:(⟨L.toArray⟩:ByteArray).size=L.length:=by simp [ByteArray.size]
  have hpz:px.size≤16384:=by
    have:=piece_le nlB 0 _ _ px (List.mem_of_getElem? hpx)
    omega
  have cS:=Lib.hid fun W' (hb:Below W.heap.size W W')=>(hE.out W' hb).maxlen
  have hsz:(⟨L.toArray⟩:ByteArray).size<4294967281:=by omega
  have cT:=Lib.hid fun W' (hb:Below W.heap.size W W')=>Tryz.strings_TrimSpace_any px W' (by omega) (hE.out W' hb).asp (hE.out W' hb).u8 (hE.out W' hb).wht
  rw [hLT.out] at cT
  obtain ⟨N,hN⟩:∃ N,N=Lib.countB (⟨L.toArray⟩:ByteArray) nlB:=⟨_,rfl⟩
  have hnN:n<N+1:=by omega
  have hcell:Hid (∀ W':World,(W'.alloc (.cells ((piecesL L).map Value.string).toArray 9)).cell? ⟨W'.heap.size,n,none⟩=some (.string px)):=Lib.hid fun W'=>by
    rw [cell_of_row _ _ _ _ _ _ (heap_alloc_new W' _)]
    simp [hpx]
  have cSp:=Lib.hid fun W' m (hm:W'.cell? ⟨5,0,none⟩=some (.int .i64 m))=>Tryz.strings_Split ⟨L.toArray⟩ nlB m W' hsz hm (by decide)
  rw [← hN] at cSp
  have hpc:Hid (Lib.splitB nlB 0 N ⟨L.toArray⟩=piecesL L):=Lib.hid (by rw [hN];rfl)
  rw [hpc.out] at cSp
  generalize lineTx L n=R at *
  clear hX hb hl hs kk E wB wL wS hlen hne hL hpl hpx hLT hpc hN hn hsz eL
  go_enter Tryz.func16,Tryz.ntmps16
  go_wp2_with (first
    | (go_at_call 45;refine cP.out.mono ?_;rintro e w2 ⟨rfl,hb⟩;obtain ⟨m,hm⟩:=cS.out _ hb;have cSp2:=Lib.hid (cSp.out w2 m hm);have hb2:=Lib.hid hb;have hc9:=hcell.out w2;have hb3:=Lib.hid (hb.trans (((Below.refl w2.heap.size w2).alloc (Nat.le_refl _) (.cells ((piecesL L).map Value.string).toArray 9)).mono hb.size));clear hb hm cS cSp cP)
    | (go_at_call 47;refine cSp2.out.mono ?_;rintro e w3 ⟨rfl,rfl⟩;have cT2:=Lib.hid (cT.out _ hb3.out);clear cSp2 cT)
    | (go_at_call 46;refine cT2.out.mono ?_;rintro e w4 ⟨rfl,hb⟩;have hb4:=Lib.hid (hz.out _ (hb3.out.trans (hb.mono hb3.out.size)));clear hb cT2))
  go_ret
  exact ⟨rfl,hb4.out⟩
structure ScA (w0:World)(Sb:Nat)(l:List ByteArray)(W:World):Prop where
  c:∃ v,W.heap[Sb]?=some (.cells #[v] 58 (0,0))∧TextsR W (Sb+1) v l
  b:Below Sb w0 W
def Own (Sb:Nat)(w:World)(g:Nat):Prop:=∃ v T fr,w.heap[Sb]?=some (.cells #[v] T fr)∧v.ownBlock=some g
def KeepX (Sb:Nat)(w w':World):Prop:=∀ g o,w.heap[g]?=some o→g≠Sb→¬ Own Sb w g→w'.heap[g]?=some o∧¬ Own Sb w' g
section
variable {w0 W W':World} {Sb:Nat} {l:List ByteArray}
theorem ScA.lt (h:ScA w0 Sb l W):Sb<W.heap.size:=by obtain ⟨v,hv,_⟩:=h.c;exact (Array.getElem?_eq_some_iff.1 hv).1
theorem ScA.below (h:ScA w0 Sb l W)(hb:Below W.heap.size W W'):ScA w0 Sb l W':=by
  have hlt:=h.lt
  obtain ⟨v,hv,hr⟩:=h.c
  exact ⟨⟨v,(hb.block _ hlt).trans hv,row_below hr hb (Nat.le_refl _)⟩,h.b.trans (hb.mono (Nat.le_of_lt hlt))⟩
theorem ownB_below (hs:Sb<W.heap.size)(hb:Below W.heap.size W W'){g:Nat}(h:Own Sb W' g):Own Sb W g:=by
  obtain ⟨v,T,fr,h1,h2⟩:=h
  exact ⟨v,T,fr,(hb.block _ hs).symm.trans h1,h2⟩
theorem KeepX.of_below (hs:Sb<W.heap.size)(hb:Below W.heap.size W W'):KeepX Sb W W':=fun _ _ hk _ ho=>⟨(hb.block _ (Array.getElem?_eq_some_iff.1 hk).1).trans hk,fun h=>ho (ownB_below hs hb h)⟩
theorem KeepX.trans {W'':World}(h:KeepX Sb W W')(k:KeepX Sb W' W''):KeepX Sb W W'':=fun g o hk hg ho=>by
  obtain ⟨h1,h2⟩:=h g o hk hg ho
  exact k g o h1 hg h2
def Mine (Sb:Nat)(g:Nat)(o:Obj)(w:World):Prop:=w.heap[g]?=some o∧g≠Sb∧¬ Own Sb w g
theorem Mine.keep {g:Nat}{o:Obj}(h:Mine Sb g o W)(hk:KeepX Sb W W'):Mine Sb g o W':=by
  obtain ⟨h1,h2,h3⟩:=h
  obtain ⟨h4,h5⟩:=hk g o h1 h2 h3
  exact ⟨h4,h2,h5⟩
theorem ScA.not_own (h:ScA w0 Sb l W){g:Nat}(hg:g≤Sb∨W.heap.size≤g):¬ Own Sb W g:=by
  rintro ⟨v,T,fr,h1,h2⟩
  obtain ⟨v',hv,hr⟩:=h.c
  rw [hv] at h1
  obtain rfl:v'=v:=by injection h1 with h1;injection h1 with h1 _ _;injection h1 with h1;injection h1
  have:=hr.lt g h2
  omega
theorem ScA.mine (h:ScA w0 Sb l W){o:Obj}(hb:Below (W.alloc o).heap.size (W.alloc o) W'):Mine Sb W.heap.size o W':=by
  have hlt:=h.lt
  refine ⟨(below_boxed hb).1,by omega,fun ho=>?_⟩
  exact h.not_own (g:=W.heap.size) (.inr (Nat.le_refl _)) (ownB_below hlt (below_boxed hb).2 ho)
def SayPost (w0:World)(Sb:Nat)(l:List ByteArray)(w:World)(e:Ending)(w':World):Prop:=(∃ v,e=.returned v)∧ScA w0 Sb l w'∧KeepX Sb w w'∧w.heap.size≤w'.heap.size
set_option maxHeartbeats 2000000 in
set_option maxRecDepth 100000 in
theorem d_say (s:ByteArray)(h:ScA w0 Sb l W)(hl:l.length≤1000000):Calls Tryz.prog 10 #[.pointer (some ⟨Sb,0,none⟩), .string s] W (SayPost w0 Sb (l++[s]) W):=by
  have hlt:=h.lt
  obtain ⟨v,hv,hr⟩:=h.c
  have hb:=Lib.hid h.b
  obtain ⟨A,cap,rfl,hc1,hc2⟩:=row_form hr
  have c0:=cell_of_one hv
  obtain ⟨i0,z0,h1,h2,h3,h4,h5⟩:=elText.hi
  have h1:=Lib.hid h1;have h2:=Lib.hid h2;have h3:=Lib.hid h3;have h4:=Lib.hid h4;have h5:=Lib.hid h5
  replace hv:=Lib.hid hv
  replace hr:=Lib.hid hr
  have hK:Hid (∀ w4 u g' c',(W.alloc (.cells #[.string s] 9 (0,0))).grownBy w4 (Value.slice A l.length cap).ownBlock→((Value.slice A l.length cap).ownBlock=some g'∨g'=W.heap.size+1)→w4.heap[Sb]?=some (.cells #[.slice A l.length cap] 58 (0,0))→u=.slice (some ⟨g',0,none⟩) (l.length+1) c'→KeepX Sb W (w4.setCell ⟨Sb,0,none⟩ u)):=Lib.hid fun w4 u g' c' hg ho hs4 hu g o hgo hgs hn=>by
    have hgl:=(Array.getElem?_eq_some_iff.1 hgo).1
    have hne:(Value.slice A l.length cap).ownBlock≠some g:=fun e=>hn ⟨_,_,_,hv.out,e⟩
    have h4:w4.heap[g]?=some o:=(hg.block g (by simp;omega) fun e=>hne e.symm).trans ((((Below.refl W.heap.size W).alloc (Nat.le_refl _) _).block g hgl).trans hgo)
    refine ⟨?_,?_⟩
    · exact (Below.heap_setCell w4 ⟨Sb,0,none⟩ u g hgs).trans h4
    · rintro ⟨v',T',fr',h1,h2⟩
      rw [one_setCell hs4] at h1
      obtain rfl:u=v':=by injection h1 with h1;injection h1 with h1 _ _;injection h1 with h1;injection h1
      subst hu
      have e':g'=g:=by injection h2
      subst e'
      rcases ho with ho|ho
      · exact hne ho
      · omega
  have hblk:Hid (∀ w4,(W.alloc (.cells #[.string s] 9 (0,0))).grownBy w4 (Value.slice A l.length cap).ownBlock→w4.heap[Sb]?=some (.cells #[.slice A l.length cap] 58 (0,0))∧Below Sb w0 w4∧W.heap.size≤w4.heap.size):=Lib.hid fun w4 hg=>by
    have ho:∀ g,(Value.slice A l.length cap).ownBlock=some g→Sb+1≤g:=fun g e=>(hr.out.lt g e).1
    refine ⟨(hg.block Sb (by simp;omega) fun e=>by have:=ho Sb e.symm;omega).trans ((((Below.refl W.heap.size W).alloc (Nat.le_refl _) _).block Sb hlt).trans hv.out),?_,?_⟩
    · exact hb.out.trans (((Below.refl Sb W).alloc (Nat.le_of_lt hlt) _).grown hg (by simp;omega) fun k e=>by have:=ho k e;omega)
    · have:=hg.size;simp at this;omega
  clear h
  go_enter Tryz.func10,Tryz.ntmps10
  go_wp2_with (at_builtin;refine wpList_append_lies _ rfl (.tmp 8) (.tmp 10) _ rfl (Sb+1) 9 i0 z0 1 16 elText.ht h1.out h2.out h3.out h4.out h5.out (by decide) (.slice A l.length cap) l.length _ rfl (hr.out.alloc _) ⟨W.heap.size,0,none⟩ 1 1 [.string s] rfl rfl (World.news_of_block (heap_alloc_new W _)) (by intro u hu;simp only [List.mem_cons,List.not_mem_nil,or_false] at hu;subst hu;rfl) (by decide) (by unfold maxLen;omega) (by omega) (by simp;omega) (W.heap.size+1) (by simp) ?_;intro g' cap' w4 ho4 hg4 hor4 _;obtain ⟨hb4,hbl4,hsz4⟩:=hblk.out _ hg4;have a4:=cell_of_one hb4;have f4:=free_of_one hb4;have K4:=Lib.hid (hK.out w4 (.slice (some ⟨g',0,none⟩) (l.length+1) cap') g' cap' hg4 hor4 hb4 rfl);have H4:=Lib.hid hb4;have o4:=Lib.hid ho4;have B4:=Lib.hid hbl4;have S4:=Lib.hid hsz4;clear ho4 hg4 hb4 hbl4 hsz4 hor4)
  go_end0
  refine ⟨⟨_,rfl⟩,⟨⟨_,one_setCell H4.out,?_⟩,B4.out.setCell (p:=⟨Sb,0,none⟩) (Nat.le_refl _) _⟩,K4.out,by rw [World.size_setCell];exact S4.out⟩
  have h9:=ownsRow_setCell_other (a:=⟨Sb,0,none⟩) o4.out (by intro e;have:=(o4.out.lt Sb e).1;omega) (.slice (some ⟨g',0,none⟩) (l.length+1) cap')
  unfold TextsR
  rw [List.length_append,List.map_append]
  exact h9
end
theorem slOf_one {α : Type}{size:Nat}{R:World→Nat→List Value→α→Prop}{w:World}{B g:Nat}{cs:Array Value}{T:TypeId}{fr:Nat×Nat}{x : α}(h:w.heap[g]?=some (.cells cs T fr))(hs:cs.size=size)(hg:g<B)(hR:R w B cs.toList x):SlOf size R w B (.slice (some ⟨g,0,none⟩) 1 1) [x]:=by
  refine ⟨[cs.toList],rfl,fun c hc=>by rw [List.mem_singleton.1 hc];simpa using hs,⟨_,_,rfl,Nat.le_refl _,⟨by decide,by simp⟩,by simp [hs],fun _=>⟨g,0,rfl,hg,fun j u hj=>?_⟩⟩,fun i c y hc hy=>?_⟩
  · have hj':cs[j]?=some u:=by simpa using hj
    rw [Nat.zero_add,cell_of_row w g j cs T fr h,hj']
  · cases i with
    | zero =>
      simp at hc hy
      subst hc hy
      exact hR
    | succ i=>simp at hc
theorem slOf_nil {α : Type}{size:Nat}{R:World→Nat→List Value→α→Prop}{w:World}{B:Nat}:SlOf size R w B (.slice none 0 0) ([]:List α):=
  ⟨[],rfl,fun c hc=>by simp at hc,⟨none,0,rfl,Nat.le_refl _,⟨by decide,Nat.zero_le _⟩,by simp,fun h=>absurd h (Nat.lt_irrefl 0)⟩,fun i c x hc _=>by simp at hc⟩
theorem ixb_has:∀ (L:Bytes)(c:UInt8),c∈L→¬ Lib.indexByte L c = -1
  | [],_,h=>by simp at h
  | x :: r, c, h => by
    show ¬ (if x == c then 0 else if Lib.indexByte r c == -1 then -1 else Lib.indexByte r c+1)=(-1:Int)
    by_cases e:x=c
    · rw [if_pos (by simpa using e)];decide
    · have h1:=ixb_has r c (by rcases List.mem_cons.1 h with h|h;exact absurd h.symm e;exact h)
      have h2:=Lib.indexByte_ge r c
      rw [if_neg (by simpa using e),if_neg (by simpa using h1)]
      omega
theorem pieces_two {L:Bytes}(h:(10:UInt8)∈L):1<(piecesL L).length:=by
  rw [pieces_len]
  have h1:=ixb_has L 10 h
  have h2:=Lib.indexByte_ge L 10
  have h3:Lib.indexB ⟨L.toArray⟩ nlB=Lib.indexByte L 10:=by
    show Lib.index L [10]=_
    exact Lib.index_one L 10
  have h4:=Lib.countB_hit (⟨L.toArray⟩:ByteArray) nlB (Lib.indexByte L 10).toNat (by decide) (by rw [h3];omega)
  omega
def bodyT (x:BoxS):ByteArray:=((ba [97,116,32]++x.name)++ba [32])++lineTx (allL [x] [] []) 1
theorem allL_box (x:BoxS):(10:UInt8)∈allL [x] [] []:=by
  unfold allL boxL linesL
  simp
set_option maxHeartbeats 4000000 in
set_option maxRecDepth 100000 in
theorem d_body (x:BoxS)(cs:List Value)(B:Nat)(w:World)(h:BoxC w B cs x)(hB:B≤w.heap.size)(E:Env w)(wB:WrB x)(hlen:(allL [x] [] []).length≤16384) :
    Calls Tryz.prog 34 #[.agg cs.toArray] w (StrW (bodyT x) w):=by
  have hc:=h
  obtain ⟨Ai,ci,Ao,co,Ag,cg,Ar,cr,Aw,cw,Au,cu,rfl,_,hxn,_⟩:=box_form h
  obtain ⟨W,hW⟩:∃ W,w.alloc (boxO (.string x.name) (.slice Ai x.ins.length ci) (.slice Ao x.outs.length co) (.slice Ag x.guards.length cg) (.slice Ar x.rules.length cr) (.slice Aw x.owns.length cw) (.slice Au x.routes.length cu))=W:=⟨_,rfl⟩
  have hbW:=Lib.hid (show Below w.heap.size w W by rw [← hW];exact (Below.refl w.heap.size w).alloc (Nat.le_refl _) _)
  have hX:W.heap[w.heap.size]?=some (boxO (.string x.name) (.slice Ai x.ins.length ci) (.slice Ao x.outs.length co) (.slice Ag x.guards.length cg) (.slice Ar x.rules.length cr) (.slice Aw x.owns.length cw) (.slice Au x.routes.length cu)):=by rw [← hW];exact heap_alloc_new w _
  have hlt:w.heap.size<W.heap.size:=by rw [← hW];simp
  obtain ⟨x0,x1,x2,x3,x4,x5,x6⟩:=cells7 hX
  have hcx:=Lib.hid fun W' (hb:Below W.heap.size W W')=>cells7 ((hb.block _ hlt).trans hX)
  have hz:=Lib.hid fun W' (hb:Below W.heap.size W W')=>hbW.out.trans (hb.mono hbW.out.size)
  have cP:Hid (∀ (W2:World),Below W.heap.size W W2→W2.heap[W.heap.size]?=some (boxO (.string x.name) (.slice Ai x.ins.length ci) (.slice Ao x.outs.length co) (.slice Ag x.guards.length cg) (.slice Ar x.rules.length cr) (.slice Aw x.owns.length cw) (.slice Au x.routes.length cu))→Calls Tryz.prog 16 #[.agg #[.string ⟨#[]⟩, .slice none 0 0, .string ⟨#[]⟩, .bool false, .slice (some ⟨W.heap.size,0,none⟩) 1 1, .slice none 0 0, .slice none 0 0], .int .i64 1] W2 (StrW (lineTx (allL [x] [] []) 1) W2)):=Lib.hid fun W2 hb hn=>by
    have hb2:=hz.out W2 hb
    have hl2:=(Array.getElem?_eq_some_iff.1 hn).1
    refine d_printed [x] [] [] none 0 _ _ _ 1 (W.heap.size+1) _ (slOf_one hn rfl (Nat.lt_succ_self _) ?_) slOf_nil slOf_nil (by omega) (E.below hb2) (by intro b hb;rw [List.mem_singleton.1 hb];exact wB) (by simp) (by simp) hlen (fun e=>by have:=allL_box x;rw [e] at this;simp at this) (pieces_two (allL_box x))
    exact hc.keep (by have:=hbW.out.size;omega) (keepB hb2 hB)
  have hnew:=Lib.hid (show (W.alloc (boxO (.string x.name) (.slice Ai x.ins.length ci) (.slice Ao x.outs.length co) (.slice Ag x.guards.length cg) (.slice Ar x.rules.length cr) (.slice Aw x.owns.length cw) (.slice Au x.routes.length cu))).drew.heap[W.heap.size]?=some (boxO (.string x.name) (.slice Ai x.ins.length ci) (.slice Ao x.outs.length co) (.slice Ag x.guards.length cg) (.slice Ar x.rules.length cr) (.slice Aw x.owns.length cw) (.slice Au x.routes.length cu)) from heap_alloc_new W _)
  have hbnew:=Lib.hid (show Below W.heap.size W (W.alloc (boxO (.string x.name) (.slice Ai x.ins.length ci) (.slice Ao x.outs.length co) (.slice Ag x.guards.length cg) (.slice Ar x.rules.length cr) (.slice Aw x.owns.length cw) (.slice Au x.routes.length cu))).drew from ((Below.refl W.heap.size W).alloc (Nat.le_refl _) _).drew)
  have hN:=Lib.hid (show bodyT x=((ba [97,116,32]++x.name)++ba [32])++lineTx (allL [x] [] []) 1 from rfl)
  have zl:=lineTx_le (allL [x] [] []) 1
  generalize lineTx (allL [x] [] []) 1=T at *
  generalize bodyT x=P at *
  have hs47:x.name.size≤140737488355328:=hxn
  have g1:¬ 9223372036854775807<3+x.name.size:=by omega
  have g2:¬ 9223372036854775807<3+x.name.size+1:=by omega
  have g3:¬ 9223372036854775807<3+x.name.size+1+T.size:=by omega
  have hd:=Lib.hid (Below.refl W.heap.size W).drew
  clear hX h hc
  go_enter Tryz.func34,Tryz.ntmps34
  go_upto_region 1 with fail
  clear hW
  go_region_held3 (fun W'=>W'.cell? ⟨w.heap.size,0,none⟩=some (.string x.name)∧W'.cell? ⟨w.heap.size,1,none⟩=some (.slice Ai x.ins.length ci)∧W'.cell? ⟨w.heap.size,2,none⟩=some (.slice Ao x.outs.length co)∧W'.cell? ⟨w.heap.size,3,none⟩=some (.slice Ag x.guards.length cg)∧W'.cell? ⟨w.heap.size,4,none⟩=some (.slice Ar x.rules.length cr)∧W'.cell? ⟨w.heap.size,5,none⟩=some (.slice Aw x.owns.length cw)∧W'.cell? ⟨w.heap.size,6,none⟩=some (.slice Au x.routes.length cu))
    (first|exact hHeld|go_keep|exact hcx.out _ hbk)
    ((go_at_call 16;(with_reducible refine (cP.out _ hbnew.out hnew.out).mono ?_);rintro e wy ⟨rfl,hbB⟩;have hbk:=hbnew.out.trans (hbB.mono hbnew.out.size)))
  all_goals
    go_wp2_with fail
    go_ret
    exact ⟨by rw [hN.out];rfl,hz.out _ hbk⟩
def eqL {α : Type}(e : α→α→Bool):List α→List α→Bool
  | [],[]=>true
  | x::r,y::q=>e x y && eqL e r q
  | _,_=>false
theorem eqL_len {α : Type}{e : α→α→Bool}:∀ {l m:List α},l.length≠m.length→eqL e l m=false
  | [],[],h=>absurd rfl h
  | [],_::_,_=>rfl
  | _::_,[],_=>rfl
  | x :: r, y :: q, h => by
    unfold eqL
    rw [eqL_len (l:=r) (m:=q) (fun e=>h (by simp [e])),Bool.and_false]
theorem eqL_drop {α : Type}{e : α→α→Bool}{l m:List α}{k:Nat}{x y : α}(hx:l[k]?=some x)(hy:m[k]?=some y):eqL e (l.drop k) (m.drop k)=(e x y && eqL e (l.drop (k+1)) (m.drop (k+1))):=by rw [drop_at hx,drop_at hy];rfl
theorem neq_of {P:Program}{t:TypeId}{xs ys:Array Value}{b:Bool}{w:World}(h:(binOp .eql t (.agg xs) (.agg ys)).run P w=.ok (.bool b) w):(binOp .neq t (.agg xs) (.agg ys)).run P w=.ok (.bool (!b)) w:=by
  rw [run_neq_struct]
  rw [run_eql_struct] at h
  generalize (Op.equalIn 10000 t (.agg xs) (.agg ys)).run P w=r at *
  cases r with
  | ok c w1=>simp only [Result.andThen_ok] at h ⊢;injection h with h1 h2;injection h1 with h1;rw [h1,h2]
  | halt c w1=>cases h
abbrev vField (x:FieldS):Array Value:=#[.string x.name, .int .i64 x.bits]
def eqField (x y:FieldS):Bool:=(x.name.toList == y.name.toList) && (x.bits == y.bits)
set_option maxHeartbeats 2000000 in
theorem ee_Field (x y:FieldS)(w:World):(binOp .eql 38 (.agg (vField x)) (.agg (vField y))).run Tryz.prog w=.ok (.bool (eqField x y)) w:=by
  have u3:=Tryz.underlying3
  have u9:=Tryz.underlying9
  have a3:=Tryz.isAgg3
  have a9:=Tryz.isAgg9
  have z3:=Tryz.sizeOf3
  have z9:=Tryz.sizeOf9
  have hS:Tryz.prog.underlying 38=some (.struct (Tryz.prog.fieldsOf 38)):=by kernel_rfl
  have hp:Tryz.prog.stoodInHeld 38=false:=by kernel_rfl
  unfold eqField
  rw [run_eql_struct,show (10000:Nat)=9999+1 from rfl,run_equalIn_agg w 9999 38 _ _ hS hp]
  simp only [Program.fieldsOf,Tryz.underlying38]
  go_simp
  by_cases h0:x.name.toList=y.name.toList<;>by_cases h1:x.bits=y.bits<;>simp [h0,h1]
abbrev vNode (x:NodeS):Array Value:=#[.int .i64 x.kind, .string x.test.field, .int .i64 x.test.op, .int .i64 x.test.form, .int .i64 x.test.lo, .int .i64 x.test.hi, .int .i64 x.test.len, .string x.test.pat]
def eqNode (x y:NodeS):Bool:=(x.kind == y.kind) && (x.test.field.toList == y.test.field.toList) && (x.test.op == y.test.op) && (x.test.form == y.test.form) && (x.test.lo == y.test.lo) && (x.test.hi == y.test.hi) && (x.test.len == y.test.len) && (x.test.pat.toList == y.test.pat.toList)
set_option maxHeartbeats 2000000 in
theorem ee_Node (x y:NodeS)(w:World):(binOp .eql 47 (.agg (vNode x)) (.agg (vNode y))).run Tryz.prog w=.ok (.bool (eqNode x y)) w:=by
  have u3:=Tryz.underlying3
  have u9:=Tryz.underlying9
  have a3:=Tryz.isAgg3
  have a9:=Tryz.isAgg9
  have z3:=Tryz.sizeOf3
  have z9:=Tryz.sizeOf9
  have hS:Tryz.prog.underlying 47=some (.struct (Tryz.prog.fieldsOf 47)):=by kernel_rfl
  have hp:Tryz.prog.stoodInHeld 47=false:=by kernel_rfl
  unfold eqNode
  rw [run_eql_struct,show (10000:Nat)=9999+1 from rfl,run_equalIn_agg w 9999 47 _ _ hS hp]
  simp only [Program.fieldsOf,Tryz.underlying47]
  go_simp
  by_cases h0:x.kind=y.kind<;>by_cases h1:x.test.field.toList=y.test.field.toList<;>by_cases h2:x.test.op=y.test.op<;>by_cases h3:x.test.form=y.test.form<;>by_cases h4:x.test.lo=y.test.lo<;>by_cases h5:x.test.hi=y.test.hi<;>by_cases h6:x.test.len=y.test.len<;>by_cases h7:x.test.pat.toList=y.test.pat.toList<;>simp [h0,h1,h2,h3,h4,h5,h6,h7]
abbrev vSet (x:SetS):Array Value:=#[.string x.field, .int .i64 x.value]
def eqSet (x y:SetS):Bool:=(x.field.toList == y.field.toList) && (x.value == y.value)
set_option maxHeartbeats 2000000 in
theorem ee_Set (x y:SetS)(w:World):(binOp .eql 123 (.agg (vSet x)) (.agg (vSet y))).run Tryz.prog w=.ok (.bool (eqSet x y)) w:=by
  have u3:=Tryz.underlying3
  have u9:=Tryz.underlying9
  have a3:=Tryz.isAgg3
  have a9:=Tryz.isAgg9
  have z3:=Tryz.sizeOf3
  have z9:=Tryz.sizeOf9
  have hS:Tryz.prog.underlying 123=some (.struct (Tryz.prog.fieldsOf 123)):=by kernel_rfl
  have hp:Tryz.prog.stoodInHeld 123=false:=by kernel_rfl
  unfold eqSet
  rw [run_eql_struct,show (10000:Nat)=9999+1 from rfl,run_equalIn_agg w 9999 123 _ _ hS hp]
  simp only [Program.fieldsOf,Tryz.underlying123]
  go_simp
  by_cases h0:x.field.toList=y.field.toList<;>by_cases h1:x.value=y.value<;>simp [h0,h1]
abbrev vLink (x:LinkS):Array Value:=#[.string x.frm, .string x.dst, .int .i64 x.cost]
def eqLink (x y:LinkS):Bool:=(x.frm.toList == y.frm.toList) && (x.dst.toList == y.dst.toList) && (x.cost == y.cost)
set_option maxHeartbeats 2000000 in
theorem ee_Link (x y:LinkS)(w:World):(binOp .eql 63 (.agg (vLink x)) (.agg (vLink y))).run Tryz.prog w=.ok (.bool (eqLink x y)) w:=by
  have u3:=Tryz.underlying3
  have u9:=Tryz.underlying9
  have a3:=Tryz.isAgg3
  have a9:=Tryz.isAgg9
  have z3:=Tryz.sizeOf3
  have z9:=Tryz.sizeOf9
  have hS:Tryz.prog.underlying 63=some (.struct (Tryz.prog.fieldsOf 63)):=by kernel_rfl
  have hp:Tryz.prog.stoodInHeld 63=false:=by kernel_rfl
  unfold eqLink
  rw [run_eql_struct,show (10000:Nat)=9999+1 from rfl,run_equalIn_agg w 9999 63 _ _ hS hp]
  simp only [Program.fieldsOf,Tryz.underlying63]
  go_simp
  by_cases h0:x.frm.toList=y.frm.toList<;>by_cases h1:x.dst.toList=y.dst.toList<;>by_cases h2:x.cost=y.cost<;>simp [h0,h1,h2]
abbrev vPref (x:PrefS):Array Value:=#[.int .i64 x.value, .int .i64 x.len, .string x.dst]
def eqPref (x y:PrefS):Bool:=(x.value == y.value) && (x.len == y.len) && (x.dst.toList == y.dst.toList)
set_option maxHeartbeats 2000000 in
theorem ee_Pref (x y:PrefS)(w:World):(binOp .eql 79 (.agg (vPref x)) (.agg (vPref y))).run Tryz.prog w=.ok (.bool (eqPref x y)) w:=by
  have u3:=Tryz.underlying3
  have u9:=Tryz.underlying9
  have a3:=Tryz.isAgg3
  have a9:=Tryz.isAgg9
  have z3:=Tryz.sizeOf3
  have z9:=Tryz.sizeOf9
  have hS:Tryz.prog.underlying 79=some (.struct (Tryz.prog.fieldsOf 79)):=by kernel_rfl
  have hp:Tryz.prog.stoodInHeld 79=false:=by kernel_rfl
  unfold eqPref
  rw [run_eql_struct,show (10000:Nat)=9999+1 from rfl,run_equalIn_agg w 9999 79 _ _ hS hp]
  simp only [Program.fieldsOf,Tryz.underlying79]
  go_simp
  by_cases h0:x.value=y.value<;>by_cases h1:x.len=y.len<;>by_cases h2:x.dst.toList=y.dst.toList<;>simp [h0,h1,h2]
set_option maxHeartbeats 2000000 in
set_option maxRecDepth 100000 in
theorem q_Field (l m : List FieldS) (v u : Value) (B : Nat) (w : World) (hl : Fields w B v l) (hm : Fields w B u m) (hB : B ≤ w.heap.size) : Calls Tryz.prog 9 #[v, u] w (BoolW (eqL eqField l m) w) := by
  obtain ⟨A,ca,rfl,ha1,ha2⟩:=SlOf.form hl
  obtain ⟨D,cd,rfl,hd1,hd2⟩:=SlOf.form hm
  have hb0:=Lib.hid (Below.refl w.heap.size w)
  by_cases hlen:l.length=m.length
  case neg=>
    have hR:=Lib.hid (eqL_len (e:=eqField) hlen)
    have hn:((l.length:Int) != (m.length:Int))=true:=by simp;omega
    generalize eqL eqField l m=R at *
    clear hl hm
    go_enter Tryz.func9,Tryz.ntmps9
    go_wp2_with fail
    go_ret
    exact ⟨by rw [hR.out];rfl,hb0.out⟩
  have hn:((l.length:Int) != (m.length:Int))=false:=by simp;omega
  have hR0:Hid (eqL eqField l m=eqL eqField (l.drop 0) (m.drop 0)):=Lib.hid rfl
  have hlh:=Lib.hid hlen
  generalize eqL eqField l m=R at *
  replace hl:=Lib.hid hl
  replace hm:=Lib.hid hm
  clear hlen
  go_enter Tryz.func9,Tryz.ntmps9
  go_wp2_with fail
  clear hn
  go_loopw [13] (fun i wr=>∃ k:Nat,k≤l.length∧i=.int .i64 k∧Hid (R=eqL eqField (l.drop k) (m.drop k))∧Hid (Below w.heap.size w wr)) (fun i _=>l.length-(intOf i).toNat)
  case atStart=>exact ⟨0,Nat.zero_le _,rfl,hR0,hb0⟩
  case round=>
    obtain ⟨k,hk,rfl,HR,hbw⟩:=hrel
    obtain ⟨wo,rfl⟩:∃ wo,wo=wr:=⟨_,rfl⟩
    clear hR0 hb0
    by_cases hlt:k<l.length
    · have hkm:k<m.length:=by have:=hlh.out;omega
      have h1:=hl.out.keep (w':=wo) (Nat.le_refl _) (keepB hbw.out hB) fun _ _ h=>h
      have h2:=hm.out.keep (w':=wo) (Nat.le_refl _) (keepB hbw.out hB) fun _ _ h=>h
      obtain ⟨b,off,rfl⟩:=SlOf.addr h1 (by omega)
      obtain ⟨b2,off2,rfl⟩:=SlOf.addr h2 (by omega)
      obtain ⟨_,c1,x,hx,hc1,hj1⟩:=SlOf.el h1 hlt
      obtain rfl:=hc1.1
      have e10:wo.cell? ⟨b,off+k*2,none⟩=some (.string x.name):=hj1 0 _ rfl
      have e11:wo.cell? ⟨b,off+k*2+1,none⟩=some (.int .i64 x.bits):=hj1 1 _ rfl
      clear hc1 hj1
      obtain ⟨_,c2,y,hy,hc2,hj2⟩:=SlOf.el h2 hkm
      obtain rfl:=hc2.1
      have e20:wo.cell? ⟨b2,off2+k*2,none⟩=some (.string y.name):=hj2 0 _ rfl
      have e21:wo.cell? ⟨b2,off2+k*2+1,none⟩=some (.int .i64 y.bits):=hj2 1 _ rfl
      clear hc2 hj2
      have HS:=Lib.hid (HR.out.trans (eqL_drop hx hy))
      have hbd:=Lib.hid fun n=>below_drewN hbw.out n
      have hb:=Lib.hid hbw.out
      have i1:(k:Int)<(m.length:Int):=by omega
      clear HR hx hy h1 h2
      have hne:=fun w=>neq_of (ee_Field x y w)
      cases heq:eqField x y
      · rw [heq] at hne HS
        have HF:=Lib.hid (show R=false from HS.out)
        go_upto_region 6 with fail
        go_quiet (fail)
        go_wp2_with fail
        go_ret
        exact ⟨by rw [HF.out];rfl,hbd.out _⟩
      · rw [heq] at hne HS
        have HF:=Lib.hid (show R=eqL eqField (l.drop (k+1)) (m.drop (k+1)) from HS.out)
        go_upto_region 6 with fail
        go_quiet (fail)
        go_wp2_with fail
        go_roundw
        case rel=>exact ⟨k+1,by omega,by go_num,HF,hbd.out _⟩
        case measure=>simp [intOf];omega
    · have HF:Hid (R=true):=Lib.hid (by rw [HR.out,List.drop_of_length_le (by omega),List.drop_of_length_le (by have:=hlh.out;omega)];rfl)
      clear HR
      go_wp2_with fail
      go_ret
      exact ⟨by rw [HF.out];rfl,hbw.out⟩
set_option maxHeartbeats 2000000 in
set_option maxRecDepth 100000 in
theorem q_Node (l m : List NodeS) (v u : Value) (B : Nat) (w : World) (hl : Nodes w B v l) (hm : Nodes w B u m) (hB : B ≤ w.heap.size) : Calls Tryz.prog 52 #[v, u] w (BoolW (eqL eqNode l m) w) := by
  obtain ⟨A,ca,rfl,ha1,ha2⟩:=SlOf.form hl
  obtain ⟨D,cd,rfl,hd1,hd2⟩:=SlOf.form hm
  have hb0:=Lib.hid (Below.refl w.heap.size w)
  by_cases hlen:l.length=m.length
  case neg=>
    have hR:=Lib.hid (eqL_len (e:=eqNode) hlen)
    have hn:((l.length:Int) != (m.length:Int))=true:=by simp;omega
    generalize eqL eqNode l m=R at *
    clear hl hm
    go_enter Tryz.func52,Tryz.ntmps52
    go_wp2_with fail
    go_ret
    exact ⟨by rw [hR.out];rfl,hb0.out⟩
  have hn:((l.length:Int) != (m.length:Int))=false:=by simp;omega
  have hR0:Hid (eqL eqNode l m=eqL eqNode (l.drop 0) (m.drop 0)):=Lib.hid rfl
  have hlh:=Lib.hid hlen
  generalize eqL eqNode l m=R at *
  replace hl:=Lib.hid hl
  replace hm:=Lib.hid hm
  clear hlen
  go_enter Tryz.func52,Tryz.ntmps52
  go_wp2_with fail
  clear hn
  go_loopw [13] (fun i wr=>∃ k:Nat,k≤l.length∧i=.int .i64 k∧Hid (R=eqL eqNode (l.drop k) (m.drop k))∧Hid (Below w.heap.size w wr)) (fun i _=>l.length-(intOf i).toNat)
  case atStart=>exact ⟨0,Nat.zero_le _,rfl,hR0,hb0⟩
  case round=>
    obtain ⟨k,hk,rfl,HR,hbw⟩:=hrel
    obtain ⟨wo,rfl⟩:∃ wo,wo=wr:=⟨_,rfl⟩
    clear hR0 hb0
    by_cases hlt:k<l.length
    · have hkm:k<m.length:=by have:=hlh.out;omega
      have h1:=hl.out.keep (w':=wo) (Nat.le_refl _) (keepB hbw.out hB) fun _ _ h=>h
      have h2:=hm.out.keep (w':=wo) (Nat.le_refl _) (keepB hbw.out hB) fun _ _ h=>h
      obtain ⟨b,off,rfl⟩:=SlOf.addr h1 (by omega)
      obtain ⟨b2,off2,rfl⟩:=SlOf.addr h2 (by omega)
      obtain ⟨_,c1,x,hx,hc1,hj1⟩:=SlOf.el h1 hlt
      obtain rfl:=hc1.1
      have e10:wo.cell? ⟨b,off+k*8,none⟩=some (.int .i64 x.kind):=hj1 0 _ rfl
      have e11:wo.cell? ⟨b,off+k*8+1,none⟩=some (.string x.test.field):=hj1 1 _ rfl
      have e12:wo.cell? ⟨b,off+k*8+2,none⟩=some (.int .i64 x.test.op):=hj1 2 _ rfl
      have e13:wo.cell? ⟨b,off+k*8+3,none⟩=some (.int .i64 x.test.form):=hj1 3 _ rfl
      have e14:wo.cell? ⟨b,off+k*8+4,none⟩=some (.int .i64 x.test.lo):=hj1 4 _ rfl
      have e15:wo.cell? ⟨b,off+k*8+5,none⟩=some (.int .i64 x.test.hi):=hj1 5 _ rfl
      have e16:wo.cell? ⟨b,off+k*8+6,none⟩=some (.int .i64 x.test.len):=hj1 6 _ rfl
      have e17:wo.cell? ⟨b,off+k*8+7,none⟩=some (.string x.test.pat):=hj1 7 _ rfl
      clear hc1 hj1
      obtain ⟨_,c2,y,hy,hc2,hj2⟩:=SlOf.el h2 hkm
      obtain rfl:=hc2.1
      have e20:wo.cell? ⟨b2,off2+k*8,none⟩=some (.int .i64 y.kind):=hj2 0 _ rfl
      have e21:wo.cell? ⟨b2,off2+k*8+1,none⟩=some (.string y.test.field):=hj2 1 _ rfl
      have e22:wo.cell? ⟨b2,off2+k*8+2,none⟩=some (.int .i64 y.test.op):=hj2 2 _ rfl
      have e23:wo.cell? ⟨b2,off2+k*8+3,none⟩=some (.int .i64 y.test.form):=hj2 3 _ rfl
      have e24:wo.cell? ⟨b2,off2+k*8+4,none⟩=some (.int .i64 y.test.lo):=hj2 4 _ rfl
      have e25:wo.cell? ⟨b2,off2+k*8+5,none⟩=some (.int .i64 y.test.hi):=hj2 5 _ rfl
      have e26:wo.cell? ⟨b2,off2+k*8+6,none⟩=some (.int .i64 y.test.len):=hj2 6 _ rfl
      have e27:wo.cell? ⟨b2,off2+k*8+7,none⟩=some (.string y.test.pat):=hj2 7 _ rfl
      clear hc2 hj2
      have HS:=Lib.hid (HR.out.trans (eqL_drop hx hy))
      have hbd:=Lib.hid fun n=>below_drewN hbw.out n
      have hb:=Lib.hid hbw.out
      have i1:(k:Int)<(m.length:Int):=by omega
      clear HR hx hy h1 h2
      have hne:=fun w=>neq_of (ee_Node x y w)
      cases heq:eqNode x y
      · rw [heq] at hne HS
        have HF:=Lib.hid (show R=false from HS.out)
        go_upto_region 6 with fail
        go_quiet (fail)
        go_wp2_with fail
        go_ret
        exact ⟨by rw [HF.out];rfl,hbd.out _⟩
      · rw [heq] at hne HS
        have HF:=Lib.hid (show R=eqL eqNode (l.drop (k+1)) (m.drop (k+1)) from HS.out)
        go_upto_region 6 with fail
        go_quiet (fail)
        go_wp2_with fail
        go_roundw
        case rel=>exact ⟨k+1,by omega,by go_num,HF,hbd.out _⟩
        case measure=>simp [intOf];omega
    · have HF:Hid (R=true):=Lib.hid (by rw [HR.out,List.drop_of_length_le (by omega),List.drop_of_length_le (by have:=hlh.out;omega)];rfl)
      clear HR
      go_wp2_with fail
      go_ret
      exact ⟨by rw [HF.out];rfl,hbw.out⟩
set_option maxHeartbeats 2000000 in
set_option maxRecDepth 100000 in
theorem q_Set (l m : List SetS) (v u : Value) (B : Nat) (w : World) (hl : SetsL w B v l) (hm : SetsL w B u m) (hB : B ≤ w.heap.size) : Calls Tryz.prog 71 #[v, u] w (BoolW (eqL eqSet l m) w) := by
  obtain ⟨A,ca,rfl,ha1,ha2⟩:=SlOf.form hl
  obtain ⟨D,cd,rfl,hd1,hd2⟩:=SlOf.form hm
  have hb0:=Lib.hid (Below.refl w.heap.size w)
  by_cases hlen:l.length=m.length
  case neg=>
    have hR:=Lib.hid (eqL_len (e:=eqSet) hlen)
    have hn:((l.length:Int) != (m.length:Int))=true:=by simp;omega
    generalize eqL eqSet l m=R at *
    clear hl hm
    go_enter Tryz.func71,Tryz.ntmps71
    go_wp2_with fail
    go_ret
    exact ⟨by rw [hR.out];rfl,hb0.out⟩
  have hn:((l.length:Int) != (m.length:Int))=false:=by simp;omega
  have hR0:Hid (eqL eqSet l m=eqL eqSet (l.drop 0) (m.drop 0)):=Lib.hid rfl
  have hlh:=Lib.hid hlen
  generalize eqL eqSet l m=R at *
  replace hl:=Lib.hid hl
  replace hm:=Lib.hid hm
  clear hlen
  go_enter Tryz.func71,Tryz.ntmps71
  go_wp2_with fail
  clear hn
  go_loopw [13] (fun i wr=>∃ k:Nat,k≤l.length∧i=.int .i64 k∧Hid (R=eqL eqSet (l.drop k) (m.drop k))∧Hid (Below w.heap.size w wr)) (fun i _=>l.length-(intOf i).toNat)
  case atStart=>exact ⟨0,Nat.zero_le _,rfl,hR0,hb0⟩
  case round=>
    obtain ⟨k,hk,rfl,HR,hbw⟩:=hrel
    obtain ⟨wo,rfl⟩:∃ wo,wo=wr:=⟨_,rfl⟩
    clear hR0 hb0
    by_cases hlt:k<l.length
    · have hkm:k<m.length:=by have:=hlh.out;omega
      have h1:=hl.out.keep (w':=wo) (Nat.le_refl _) (keepB hbw.out hB) fun _ _ h=>h
      have h2:=hm.out.keep (w':=wo) (Nat.le_refl _) (keepB hbw.out hB) fun _ _ h=>h
      obtain ⟨b,off,rfl⟩:=SlOf.addr h1 (by omega)
      obtain ⟨b2,off2,rfl⟩:=SlOf.addr h2 (by omega)
      obtain ⟨_,c1,x,hx,hc1,hj1⟩:=SlOf.el h1 hlt
      obtain rfl:=hc1.1
      have e10:wo.cell? ⟨b,off+k*2,none⟩=some (.string x.field):=hj1 0 _ rfl
      have e11:wo.cell? ⟨b,off+k*2+1,none⟩=some (.int .i64 x.value):=hj1 1 _ rfl
      clear hc1 hj1
      obtain ⟨_,c2,y,hy,hc2,hj2⟩:=SlOf.el h2 hkm
      obtain rfl:=hc2.1
      have e20:wo.cell? ⟨b2,off2+k*2,none⟩=some (.string y.field):=hj2 0 _ rfl
      have e21:wo.cell? ⟨b2,off2+k*2+1,none⟩=some (.int .i64 y.value):=hj2 1 _ rfl
      clear hc2 hj2
      have HS:=Lib.hid (HR.out.trans (eqL_drop hx hy))
      have hbd:=Lib.hid fun n=>below_drewN hbw.out n
      have hb:=Lib.hid hbw.out
      have i1:(k:Int)<(m.length:Int):=by omega
      clear HR hx hy h1 h2
      have hne:=fun w=>neq_of (ee_Set x y w)
      cases heq:eqSet x y
      · rw [heq] at hne HS
        have HF:=Lib.hid (show R=false from HS.out)
        go_upto_region 6 with fail
        go_quiet (fail)
        go_wp2_with fail
        go_ret
        exact ⟨by rw [HF.out];rfl,hbd.out _⟩
      · rw [heq] at hne HS
        have HF:=Lib.hid (show R=eqL eqSet (l.drop (k+1)) (m.drop (k+1)) from HS.out)
        go_upto_region 6 with fail
        go_quiet (fail)
        go_wp2_with fail
        go_roundw
        case rel=>exact ⟨k+1,by omega,by go_num,HF,hbd.out _⟩
        case measure=>simp [intOf];omega
    · have HF:Hid (R=true):=Lib.hid (by rw [HR.out,List.drop_of_length_le (by omega),List.drop_of_length_le (by have:=hlh.out;omega)];rfl)
      clear HR
      go_wp2_with fail
      go_ret
      exact ⟨by rw [HF.out];rfl,hbw.out⟩
def eqText (x y:ByteArray):Bool:=x.toList == y.toList
set_option maxHeartbeats 2000000 in
set_option maxRecDepth 100000 in
theorem q_Text (l m : List ByteArray) (v u : Value) (B : Nat) (w : World) (hl : Texts w B v l) (hm : Texts w B u m) (hB : B ≤ w.heap.size) : Calls Tryz.prog 51 #[v, u] w (BoolW (eqL eqText l m) w) := by
  obtain ⟨A,ca,rfl,ha1,ha2⟩:=SlOf.form hl
  obtain ⟨D,cd,rfl,hd1,hd2⟩:=SlOf.form hm
  have hb0:=Lib.hid (Below.refl w.heap.size w)
  by_cases hlen:l.length=m.length
  case neg=>
    have hR:=Lib.hid (eqL_len (e:=eqText) hlen)
    have hn:((l.length:Int) != (m.length:Int))=true:=by simp;omega
    generalize eqL eqText l m=R at *
    clear hl hm
    go_enter Tryz.func51,Tryz.ntmps51
    go_wp2_with fail
    go_ret
    exact ⟨by rw [hR.out];rfl,hb0.out⟩
  have hn:((l.length:Int) != (m.length:Int))=false:=by simp;omega
  have hR0:Hid (eqL eqText l m=eqL eqText (l.drop 0) (m.drop 0)):=Lib.hid rfl
  have hlh:=Lib.hid hlen
  generalize eqL eqText l m=R at *
  replace hl:=Lib.hid hl
  replace hm:=Lib.hid hm
  clear hlen
  go_enter Tryz.func51,Tryz.ntmps51
  go_wp2_with fail
  clear hn
  go_loopw [13] (fun i wr=>∃ k:Nat,k≤l.length∧i=.int .i64 k∧Hid (R=eqL eqText (l.drop k) (m.drop k))∧Hid (Below w.heap.size w wr)) (fun i _=>l.length-(intOf i).toNat)
  case atStart=>exact ⟨0,Nat.zero_le _,rfl,hR0,hb0⟩
  case round=>
    obtain ⟨k,hk,rfl,HR,hbw⟩:=hrel
    obtain ⟨wo,rfl⟩:∃ wo,wo=wr:=⟨_,rfl⟩
    clear hR0 hb0
    by_cases hlt:k<l.length
    · have hkm:k<m.length:=by have:=hlh.out;omega
      have h1:=hl.out.keep (w':=wo) (Nat.le_refl _) (keepB hbw.out hB)
      have h2:=hm.out.keep (w':=wo) (Nat.le_refl _) (keepB hbw.out hB)
      obtain ⟨b,off,rfl⟩:=SlOf.addr h1 (by omega)
      obtain ⟨b2,off2,rfl⟩:=SlOf.addr h2 (by omega)
      obtain ⟨_,x,hx,_,e1⟩:=texts_el h1 hlt
      obtain ⟨_,y,hy,_,e2⟩:=texts_el h2 hkm
      have HS:=Lib.hid (HR.out.trans (eqL_drop hx hy))
      have hbd:=Lib.hid fun n=>below_drewN hbw.out n
      have hb:=Lib.hid hbw.out
      have i1:(k:Int)<(m.length:Int):=by omega
      clear HR hx hy h1 h2
      have hne:(x.toList == y.toList)=eqText x y:=rfl
      cases heq:eqText x y
      · rw [heq] at hne HS
        have HF:=Lib.hid (show R=false from HS.out)
        go_upto_region 6 with fail
        go_quiet (fail)
        go_wp2_with fail
        go_ret
        exact ⟨by rw [HF.out];rfl,hbd.out _⟩
      · rw [heq] at hne HS
        have HF:=Lib.hid (show R=eqL eqText (l.drop (k+1)) (m.drop (k+1)) from HS.out)
        go_upto_region 6 with fail
        go_quiet (fail)
        go_wp2_with fail
        go_roundw
        case rel=>exact ⟨k+1,by omega,by go_num,HF,hbd.out _⟩
        case measure=>simp [intOf];omega
    · have HF:Hid (R=true):=Lib.hid (by rw [HR.out,List.drop_of_length_le (by omega),List.drop_of_length_le (by have:=hlh.out;omega)];rfl)
      clear HR
      go_wp2_with fail
      go_ret
      exact ⟨by rw [HF.out];rfl,hbw.out⟩
end Go.Proofs.YtdhehcobnbcmdaaGreatDoor
