/- A part of the proof of DeltaLines: Grd1 Grd2 Grd3. -/
import Derived.Test.YtdhehcobnbcmdaaGreatDoorPC3
set_option linter.all false
namespace Go.Proofs.YtdhehcobnbcmdaaGreatDoor
open Go.RowKit
section
variable {w:World} {B:Nat}
def eqLine (x y:LineS):Bool:=(x.port.toList == y.port.toList) && ((x.permit == y.permit) && eqL eqNode x.mat y.mat)
theorem lineC_form {c:List Value}{x:LineS}(h:LineC w B c x):∃ A k,c=[.string x.port, .bool x.permit, .slice A x.mat.length k]∧Sm x.port∧Nodes w B (.slice A x.mat.length k) x.mat:=by
  obtain ⟨v,hc,h1,h2⟩:=h
  obtain ⟨A,k,rfl,_,_⟩:=SlOf.form h2
  exact ⟨A,k,hc,h1,h2⟩
set_option maxHeartbeats 4000000 in
set_option maxRecDepth 100000 in
theorem s_Line (x y:LineS)(c d:List Value)(hx:LineC w B c x)(hy:LineC w B d y)(hB:B≤w.heap.size):Calls Tryz.prog 65 #[.agg c.toArray, .agg d.toArray] w (BoolW (eqLine x y) w):=by
  obtain ⟨Am,cm,rfl,_,tm⟩:=lineC_form hx
  obtain ⟨Dm,dm,rfl,_,um⟩:=lineC_form hy
  obtain ⟨W0,hW0⟩:∃ W0,w.alloc (.cells #[.string x.port, .bool x.permit, .slice Am x.mat.length cm] 116 (0,0))=W0:=⟨_,rfl⟩
  have hz0:W0.heap.size=w.heap.size+1:=by rw [← hW0];simp
  obtain ⟨W1,hW1⟩:∃ W1,W0.alloc (.cells #[.string y.port, .bool y.permit, .slice Dm y.mat.length dm] 116 (0,0))=W1:=⟨_,rfl⟩
  have hz1:W1.heap.size=w.heap.size+2:=by rw [← hW1];simp [hz0]
  have hb01:=Lib.hid (show Below w.heap.size w W1 by rw [← hW1,← hW0];exact ((Below.refl _ _).alloc (Nat.le_refl _) _).alloc (by simp) _)
  have hX:W1.heap[w.heap.size]?=some (.cells #[.string x.port, .bool x.permit, .slice Am x.mat.length cm] 116 (0,0)):=by
    rw [← hW1,← hW0]
    exact (((Below.refl (w.alloc _).heap.size (w.alloc _)).alloc (Nat.le_refl _) _).block w.heap.size (by simp)).trans (heap_alloc_new w _)
  have hY:W1.heap[w.heap.size+1]?=some (.cells #[.string y.port, .bool y.permit, .slice Dm y.mat.length dm] 116 (0,0)):=by
    rw [← hW1,← hz0]
    exact heap_alloc_new W0 _
  obtain ⟨a0,a1,a2⟩:=cellsAt3 hX
  obtain ⟨b0,b1,b2⟩:=cellsAt3 hY
  have hbz:=Lib.hid fun W (hb:Below W1.heap.size W1 W)=>hb01.out.trans (hb.mono (by omega))
  have c2:=Lib.hid fun W (hb:Below W1.heap.size W1 W)=>q_Node x.mat y.mat _ _ _ W (tm.below (hbz.out W hb) hB) (um.below (hbz.out W hb) hB) (hbz.out W hb).size
  have hd0:=Lib.hid (Below.refl W1.heap.size W1)
  have hR:Hid (eqLine x y=((x.port.toList == y.port.toList) && ((x.permit == y.permit) && eqL eqNode x.mat y.mat))):=Lib.hid rfl
  generalize eqLine x y=R at *
  clear hx hy hX hY tm um
  by_cases hn:x.port.toList=y.port.toList
  case neg=>
    have hn1:(x.port.toList == y.port.toList)=false:=beq_eq_false_iff_ne.2 hn
    have HF:=Lib.hid (show R=false by rw [hR.out,hn1];rfl)
    clear c2 hn
    go_enter Tryz.func65,Tryz.ntmps65
    go_wp2_with fail
    go_ret
    exact ⟨by rw [HF.out];rfl,hbz.out _ hd0.out⟩
  have hn1:(x.port.toList == y.port.toList)=true:=beq_iff_eq.2 hn
  rw [hn1,Bool.true_and] at hR
  clear hn
  generalize x.permit=p1 at *
  generalize y.permit=p2 at *
  cases p1<;>cases p2
  case false.true=>
    have HF:=Lib.hid (show R=false from hR.out)
    clear c2
    go_enter Tryz.func65,Tryz.ntmps65
    go_wp2_with fail
    go_ret
    exact ⟨by rw [HF.out];rfl,hbz.out _ hd0.out⟩
  case true.false=>
    have HF:=Lib.hid (show R=false from hR.out)
    clear c2
    go_enter Tryz.func65,Tryz.ntmps65
    go_wp2_with fail
    go_ret
    exact ⟨by rw [HF.out];rfl,hbz.out _ hd0.out⟩
  all_goals
    replace hR:=Lib.hid (show R=eqL eqNode x.mat y.mat from hR.out)
    go_enter Tryz.func65,Tryz.ntmps65
    go_wp2_with (go_at_call 52;(with_reducible refine (c2.out _ hd0.out).mono ?_);rintro e wz ⟨rfl,hbC⟩)
    go_ret
    exact ⟨by rw [hR.out];rfl,hbz.out _ hbC⟩
end
set_option maxHeartbeats 4000000 in
set_option maxRecDepth 100000 in
theorem q_Line (l m : List LineS) (v u : Value) (B : Nat) (w : World) (hl : SlOf 3 LineC w B v l) (hm : SlOf 3 LineC w B u m) (hB : B ≤ w.heap.size) :
    Calls Tryz.prog 64 #[v,u, .func (.func 65) #[] #[]] w (BoolW (eqL eqLine l m) w):=by
  obtain ⟨A,ca,rfl,ha1,ha2⟩:=SlOf.form hl
  obtain ⟨D,cd,rfl,hd1,hd2⟩:=SlOf.form hm
  have hb0:=Lib.hid (Below.refl w.heap.size w)
  by_cases hlen:l.length=m.length
  case neg=>
    have hR:=Lib.hid (eqL_len (e:=eqLine) hlen)
    have hn:((l.length:Int) != (m.length:Int))=true:=by simp;omega
    generalize eqL eqLine l m=R at *
    clear hl hm
    go_enter Tryz.func64,Tryz.ntmps64
    go_wp2_with fail
    go_ret
    exact ⟨by rw [hR.out];rfl,hb0.out⟩
  have hn:((l.length:Int) != (m.length:Int))=false:=by simp;omega
  have hR0:Hid (eqL eqLine l m=eqL eqLine (l.drop 0) (m.drop 0)):=Lib.hid rfl
  have hlh:=Lib.hid hlen
  generalize eqL eqLine l m=R at *
  replace hl:=Lib.hid hl
  replace hm:=Lib.hid hm
  clear hlen
  go_enter Tryz.func64,Tryz.ntmps64
  go_wp2_with fail
  clear hn
  go_loopw [17] (fun i wr=>∃ k:Nat,k≤l.length∧i=.int .i64 k∧Hid (R=eqL eqLine (l.drop k) (m.drop k))∧Hid (Below w.heap.size w wr)) (fun i _=>l.length-(intOf i).toNat)
  case atStart=>exact ⟨0,Nat.zero_le _,rfl,hR0,hb0⟩
  case round=>
    obtain ⟨k,hk,rfl,HR,hbw⟩:=hrel
    obtain ⟨wo,rfl⟩:∃ wo,wo=wr:=⟨_,rfl⟩
    clear hR0 hb0
    by_cases hlt:k<l.length
    · have hkm:k<m.length:=by have:=hlh.out;omega
      have hkb:=keepB hbw.out hB
      have h1:=hl.out.keep (w':=wo) (Nat.le_refl _) hkb fun _ _ h=>h.keep (Nat.le_refl _) hkb
      have h2:=hm.out.keep (w':=wo) (Nat.le_refl _) hkb fun _ _ h=>h.keep (Nat.le_refl _) hkb
      obtain ⟨b,off,rfl⟩:=SlOf.addr h1 (by omega)
      obtain ⟨b2,off2,rfl⟩:=SlOf.addr h2 (by omega)
      obtain ⟨hq1,c1,x,hx,hc1,hj1⟩:=SlOf.el h1 hlt
      obtain ⟨hq2,c2,y,hy,hc2,hj2⟩:=SlOf.el h2 hkm
      have hBo:=Nat.le_trans hB hbw.out.size
      obtain ⟨W1,hW1⟩:∃ W1,wo.alloc (.cells c1.toArray 116 (0,0))=W1:=⟨_,rfl⟩
      obtain ⟨W2,hW2⟩:∃ W2,W1.alloc (.cells c2.toArray 116 (0,0))=W2:=⟨_,rfl⟩
      have hz1:W1.heap.size=wo.heap.size+1:=by rw [← hW1];simp
      have hb1:Below wo.heap.size wo W1:=by rw [← hW1];exact (Below.refl _ _).alloc (Nat.le_refl _) _
      have hb2:Below W1.heap.size W1 W2:=by rw [← hW2];exact (Below.refl _ _).alloc (Nat.le_refl _) _
      have hb12:Below wo.heap.size wo W2:=hb1.trans (hb2.mono (by omega))
      have hX:W2.heap[wo.heap.size]?=some (.cells c1.toArray 116 (0,0)):=(hb2.block _ (by omega)).trans (by rw [← hW1];exact heap_alloc_new wo _)
      have hY:W2.heap[wo.heap.size+1]?=some (.cells c2.toArray 116 (0,0)):=by rw [← hz1,← hW2];exact heap_alloc_new W1 _
      have hk12:=keepB hb12 hBo
      have cS:=Lib.hid (s_Line x y c1 c2 (hc1.keep (w':=W2) (Nat.le_refl _) hk12) (hc2.keep (w':=W2) (Nat.le_refl _) hk12) (Nat.le_trans hBo hb12.size))
      have hY1:=hj2
      have hk1:=keepB hb1 hBo
      obtain ⟨Am,cm,rfl,_,_⟩:=lineC_form hc1
      obtain ⟨Dm,dm,rfl,_,_⟩:=lineC_form hc2
      have e10:wo.cell? ⟨b,off+k*3,none⟩=some (.string x.port):=hj1 0 _ rfl
      have e11:wo.cell? ⟨b,off+k*3+1,none⟩=some (.bool x.permit):=hj1 1 _ rfl
      have e12:wo.cell? ⟨b,off+k*3+2,none⟩=some (.slice Am x.mat.length cm):=hj1 2 _ rfl
      have e20:W1.cell? ⟨b2,off2+k*3,none⟩=some (.string y.port):=(hk1 _ _ hq2).trans (hj2 0 _ rfl)
      have e21:W1.cell? ⟨b2,off2+k*3+1,none⟩=some (.bool y.permit):=(hk1 _ _ hq2).trans (hj2 1 _ rfl)
      have e22:W1.cell? ⟨b2,off2+k*3+2,none⟩=some (.slice Dm y.mat.length dm):=(hk1 _ _ hq2).trans (hj2 2 _ rfl)
      obtain ⟨x0,x1,x2⟩:=cellsAt3 hX
      obtain ⟨y0,y1,y2⟩:=cellsAt3 hY
      have HS:=Lib.hid (HR.out.trans (eqL_drop hx hy))
      have hbo:=Lib.hid (hbw.out.trans (hb12.mono hbw.out.size))
      have hzw:=Lib.hid hbw.out.size
      have hz2:=Lib.hid hb12.size
      have i1:(k:Int)<(m.length:Int):=by omega
      clear HR hx hy h1 h2 hc1 hc2 hj1 hj2 hY1 hX hY hb1 hb2 hb12 hk12 hk1 hkb hBo
      cases heq:eqLine x y
      · rw [heq] at cS HS
        have HF:=Lib.hid (show R=false from HS.out)
        go_wp2_with (go_at_call 65;(with_reducible refine (cS.out).mono ?_);rintro e wy ⟨rfl,hbC⟩)
        go_ret
        exact ⟨by rw [HF.out];rfl,hbo.out.trans (hbC.mono (Nat.le_trans hzw.out hz2.out))⟩
      · rw [heq] at cS HS
        have HF:=Lib.hid (show R=eqL eqLine (l.drop (k+1)) (m.drop (k+1)) from HS.out)
        go_wp2_with (go_at_call 65;(with_reducible refine (cS.out).mono ?_);rintro e wy ⟨rfl,hbC⟩)
        go_roundw
        case rel=>exact ⟨k+1,by omega,by go_num,HF,Lib.hid (hbo.out.trans (hbC.mono (Nat.le_trans hzw.out hz2.out)))⟩
        case measure=>simp [intOf];omega
    · have HF:Hid (R=true):=Lib.hid (by rw [HR.out,List.drop_of_length_le (by omega),List.drop_of_length_le (by have:=hlh.out;omega)];rfl)
      clear HR
      go_wp2_with fail
      go_ret
      exact ⟨by rw [HF.out];rfl,hbw.out⟩
set_option maxHeartbeats 2000000 in
set_option maxRecDepth 100000 in
theorem ix_Text (l : List ByteArray) (v : Value) (s : ByteArray) (B : Nat) (w : World) (hl : Texts w B v l) (hB : B ≤ w.heap.size) :
    Calls Tryz.prog 102 #[v, .string s] w fun e w'=>e=.returned (.int .i64 (ixL (eqText s) l 0))∧Below w.heap.size w w':=by
  obtain ⟨A,ca,rfl,ha1,ha2⟩:=SlOf.form hl
  have hb0:=Lib.hid (Below.refl w.heap.size w)
  have hR0:Hid (ixL (eqText s) l 0=ixL (eqText s) (l.drop 0) 0):=Lib.hid rfl
  generalize ixL (eqText s) l 0=R at *
  replace hl:=Lib.hid hl
  go_enter Tryz.func102,Tryz.ntmps102
  go_wp2_with fail
  go_loopw [8] (fun i wr=>∃ k:Nat,k≤l.length∧i=.int .i64 k∧Hid (R=ixL (eqText s) (l.drop k) k)∧Hid (Below w.heap.size w wr)) (fun i _=>l.length-(intOf i).toNat)
  case atStart=>exact ⟨0,Nat.zero_le _,rfl,hR0,hb0⟩
  case round=>
    obtain ⟨k,hk,rfl,HR,hbw⟩:=hrel
    obtain ⟨wo,rfl⟩:∃ wo,wo=wr:=⟨_,rfl⟩
    clear hR0 hb0
    by_cases hlt:k<l.length
    · have h1:=hl.out.keep (w':=wo) (Nat.le_refl _) (keepB hbw.out hB)
      obtain ⟨b,off,rfl⟩:=SlOf.addr h1 (by omega)
      obtain ⟨_,x,hx,_,e1⟩:=texts_el h1 hlt
      have HS:=Lib.hid (HR.out.trans (ixL_drop hx))
      have hbd:=Lib.hid fun n=>below_drewN hbw.out n
      clear HR hx h1
      have hne:(s.toList == x.toList)=eqText s x:=rfl
      cases heq:eqText s x
      · rw [heq] at hne HS
        replace HS:=Lib.hid (show R=ixL (eqText s) (l.drop (k+1)) (k+1) from HS.out)
        go_wp2_with fail
        go_roundw
        case rel=>exact ⟨k+1,by omega,by go_num,HS,hbw⟩
        case measure=>simp [intOf];omega
      · rw [heq] at hne HS
        replace HS:=Lib.hid (show R=(k:Int) from HS.out)
        go_wp2_with fail
        go_ret
        exact ⟨by rw [HS.out];rfl,hbw.out⟩
    · have HF:Hid (R = -1):=Lib.hid (by rw [HR.out,List.drop_of_length_le (by omega)];rfl)
      clear HR
      go_wp2_with fail
      go_ret
      exact ⟨by rw [HF.out];rfl,hbw.out⟩
theorem has_Text (l:List ByteArray)(v:Value)(s:ByteArray)(B:Nat)(w:World)(hl:Texts w B v l)(hB:B≤w.heap.size) :
    Calls Tryz.prog 66 #[v, .string s] w (BoolW (l.any (eqText s)) w):=by
  have c:=Lib.hid (ix_Text l v s B w hl hB)
  have hR:=Lib.hid (ixL_any (eqText s) l 0)
  generalize l.any (eqText s)=R at *
  generalize ixL (eqText s) l 0=I at *
  obtain ⟨A,ca,rfl,ha1,ha2⟩:=SlOf.form hl
  clear hl
  go_enter Tryz.func66,Tryz.ntmps66
  go_wp2_with (go_at_call 102;(with_reducible refine (c.out).mono ?_);rintro e wy ⟨rfl,hbB⟩)
  go_ret
  exact ⟨by rw [← hR.out];rfl,hbB⟩
theorem flatten_one:∀ (l:List ByteArray),(l.map fun x=>[Value.string x]).flatten=l.map Value.string
  | []=>rfl
  | x::r=>by simp [flatten_one r]
theorem texts_of_row {w:World}{base:Nat}{v:Value}{l:List ByteArray}(h:TextsR w base v l)(hs:∀ x∈l,Sm x)(hl:l.length≤1000000):Texts w w.heap.size v l:=by
  refine ⟨l.map fun x=>[Value.string x],by simp,by simp,?_,?_⟩
  · rw [flatten_one]
    rcases h.2 with ⟨rfl,h0⟩|⟨g,cap,cur,rfl,_,hg,h1,h2,_⟩
    · have:l=[]:=List.length_eq_zero_iff.1 h0
      subst this
      exact ⟨none,0,rfl,Nat.le_refl _,⟨by decide,by simp⟩,by simp,fun h=>absurd h (Nat.lt_irrefl 0)⟩
    · refine ⟨_,cap,rfl,h1,⟨by unfold maxLen at h2;omega,by omega⟩,by simp,fun _=>⟨g,0,rfl,(Array.getElem?_eq_some_iff.1 hg).1,fun j u hj=>?_⟩⟩
      rw [Nat.zero_add]
      exact row_cell h hj
  · intro i c x hc hx
    rw [List.getElem?_map,hx] at hc
    injection hc with hc
    exact ⟨hc.symm,hs x (List.mem_of_getElem? hx)⟩
structure Row2 (Sb base:Nat)(v:Value)(l:List ByteArray)(W:World):Prop where
  r:TextsR W base v l
  o:∀ g,v.ownBlock=some g→g≠Sb∧¬ Own Sb W g
section
variable {w0 W W':World} {Sb base:Nat} {v:Value} {l L:List ByteArray}
theorem Row2.keep (h:Row2 Sb base v l W)(hk:KeepX Sb W W'):Row2 Sb base v l W':=by
  obtain ⟨⟨h1,h2⟩,ho⟩:=h
  rcases h2 with h2|⟨g,cap,cur,rfl,hb,hg,h3⟩
  · refine ⟨⟨h1, .inl h2⟩,fun g hg=>?_⟩
    obtain ⟨rfl,_⟩:=h2
    simp [Value.ownBlock] at hg
  · obtain ⟨n1,n2⟩:=ho g rfl
    obtain ⟨k1,k2⟩:=hk g _ hg n1 n2
    refine ⟨⟨h1, .inr ⟨g,cap,cur,rfl,hb,k1,h3⟩⟩,fun g' hg'=>?_⟩
    have e:g=g':=by injection hg'
    exact e▸⟨n1,k2⟩
theorem Row2.nil (W:World)(Sb base:Nat):Row2 Sb base (.slice none 0 0) [] W:=⟨World.ownsRow_nil W base _ 1,fun g hg=>by simp [Value.ownBlock] at hg⟩
theorem grown_script (h:ScA w0 Sb L W)(hr:Row2 Sb base v l W)(hb:Sb<base)(hg:W.grownBy W' v.ownBlock):ScA w0 Sb L W'∧∀ g,Own Sb W' g↔Own Sb W g:=by
  have hlt:=h.lt
  have hne:some Sb≠v.ownBlock:=fun e=>(hr.o Sb e.symm).1 rfl
  have hS:=hg.block Sb hlt hne
  obtain ⟨u,hu,hrow⟩:=h.c
  refine ⟨⟨⟨u,hS.trans hu,hrow.kept hg ?_⟩,h.b.grown hg (Nat.le_of_lt hlt) fun k e=>?_⟩,fun g=>?_⟩
  · cases hq:u.ownBlock with
    | none=>exact .inl rfl
    | some g=>exact .inr fun e=>(hr.o g e.symm).2 ⟨u,_,_,hu,hq⟩
  · have:=(hr.r.lt k e).1
    omega
  · constructor
    · rintro ⟨a,T,fr,h1,h2⟩;exact ⟨a,T,fr,hS.symm.trans h1,h2⟩
    · rintro ⟨a,T,fr,h1,h2⟩;exact ⟨a,T,fr,hS.trans h1,h2⟩
theorem grown_keeps (h:ScA w0 Sb L W)(hr:Row2 Sb base v l W)(hb:Sb<base)(hg:W.grownBy W' v.ownBlock){w:World}(hw:w.heap.size≤base)(hk:KeepX Sb w W):KeepX Sb w W':=by
  intro g o hgo hgs hn
  obtain ⟨h1,h2⟩:=hk g o hgo hgs hn
  have hlt:=(Array.getElem?_eq_some_iff.1 hgo).1
  exact ⟨(hg.block g (Array.getElem?_eq_some_iff.1 h1).1 fun e=>by have:=(hr.r.lt g e.symm).1;omega).trans h1,fun h9=>h2 (((grown_script h hr hb hg).2 g).1 h9)⟩
theorem grown_mine (h:ScA w0 Sb L W)(hr:Row2 Sb base v l W)(hb:Sb<base)(hg:W.grownBy W' v.ownBlock){n:Nat}{o:Obj}(hn:n<base)(hm:Mine Sb n o W):Mine Sb n o W':=
  ⟨(hg.block n (Array.getElem?_eq_some_iff.1 hm.1).1 fun e=>by have:=(hr.r.lt n e.symm).1;omega).trans hm.1,hm.2.1,fun h9=>hm.2.2 (((grown_script h hr hb hg).2 n).1 h9)⟩
theorem grown_row2 (h:ScA w0 Sb L W)(hr:Row2 Sb base v l W)(hb:Sb<base)(hg:W.grownBy W' v.ownBlock){g:Nat}(hor:v.ownBlock=some g∨g=W.heap.size){u:Value}{l':List ByteArray}(hu:u.ownBlock=some g)(ho:TextsR W' base u l'):Row2 Sb base u l' W':=by
  refine ⟨ho,fun g' hg'=>?_⟩
  obtain rfl:g=g':=by rw [hu] at hg';injection hg'
  have hlt:=h.lt
  rcases hor with e|e
  · exact ⟨(hr.o g e).1,fun h9=>(hr.o g e).2 (((grown_script h hr hb hg).2 g).1 h9)⟩
  · exact ⟨by omega,fun h9=>h.not_own (.inr (by omega)) (((grown_script h hr hb hg).2 g).1 h9)⟩
end
def goneL:List ByteArray→List LineS→List ByteArray
  | gl,[]=>gl
  | gl,u::r=>goneL (if gl.any (eqText u.port)=true then gl else gl++[u.port]) r
theorem goneL_snoc:∀ (l:List LineS)(gl:List ByteArray)(u:LineS),goneL gl (l++[u])=if (goneL gl l).any (eqText u.port)=true then goneL gl l else goneL gl l++[u.port]
  | [],gl,u=>rfl
  | x::r,gl,u=>goneL_snoc r _ u
theorem goneL_take {l:List LineS}{k:Nat}{u:LineS}(h:l[k]?=some u):goneL [] (l.take (k+1))=if (goneL [] (l.take k)).any (eqText u.port)=true then goneL [] (l.take k) else goneL [] (l.take k)++[u.port]:=by
  rw [List.take_add_one,h];exact goneL_snoc _ _ _
theorem goneL_len:∀ (l:List LineS)(gl:List ByteArray),(goneL gl l).length≤gl.length+l.length
  | [],gl=>Nat.le_refl _
  | u :: r, gl => by
    refine Nat.le_trans (goneL_len r _) ?_
    split
    · rw [List.length_cons];omega
    · rw [List.length_append,List.length_cons,List.length_cons,List.length_nil];omega
theorem goneL_in:∀ (l:List LineS)(gl:List ByteArray),(∀ x∈gl,Sm x)→(∀ u∈l,Sm u.port)→∀ x∈goneL gl l,Sm x
  | [],gl,h,_=>h
  | u :: r, gl, h, hl => by
    refine goneL_in r _ ?_ fun y hy=>hl y (by simp [hy])
    split
    · exact h
    · intro x hx
      rcases List.mem_append.1 hx with hx|hx
      · exact h x hx
      · rw [List.mem_singleton.1 hx];exact hl u (by simp)
def noGuard (x:BoxS)(q:ByteArray):ByteArray:=((ba [110,111,32,97,116,32]++x.name)++ba [32,103,117,97,114,100,32])++q
def adGuard (x:BoxS)(u:LineS):ByteArray:=bodyT ⟨x.name,[],[],[u],[],[],[]⟩
def guardsS (x y:BoxS):List ByteArray:=if eqL eqLine x.guards y.guards=true then [] else (goneL [] x.guards).map (noGuard x)++y.guards.map (adGuard x)
structure GdAt (w0 w:World)(Sb n0:Nat)(oA oB:Obj)(L gl:List ByteArray)(v:Value)(W:World):Prop where
  s:ScA w0 Sb L W
  x:KeepX Sb w W
  a:Mine Sb n0 oA W
  b:Mine Sb (n0+1) oB W
  z:n0+2≤W.heap.size
  r:Row2 Sb (n0+2) v gl W
section
variable {w0 w W W':World} {Sb n0:Nat} {oA oB:Obj} {L L' gl:List ByteArray} {v:Value}
theorem GdAt.moved (h:GdAt w0 w Sb n0 oA oB L gl v W)(hs:ScA w0 Sb L' W')(hx:KeepX Sb W W')(hz:W.heap.size≤W'.heap.size):GdAt w0 w Sb n0 oA oB L' gl v W':=
  ⟨hs,h.x.trans hx,h.a.keep hx,h.b.keep hx,Nat.le_trans h.z hz,h.r.keep hx⟩
theorem GdAt.below (h:GdAt w0 w Sb n0 oA oB L gl v W)(hb:Below W.heap.size W W'):GdAt w0 w Sb n0 oA oB L gl v W':=
  h.moved (h.s.below hb) (KeepX.of_below h.s.lt hb) hb.size
theorem GdAt.grown (h:GdAt w0 w Sb n0 oA oB L gl v W)(hw:w.heap.size=n0)(hS:Sb<n0)(hg:W.grownBy W' v.ownBlock){g c n:Nat}(hor:v.ownBlock=some g∨g=W.heap.size){l':List ByteArray}(ho:TextsR W' (n0+2) (.slice (some ⟨g,0,none⟩) n c) l'):GdAt w0 w Sb n0 oA oB L l' (.slice (some ⟨g,0,none⟩) n c) W':=
  ⟨(grown_script h.s h.r (by omega) hg).1,grown_keeps h.s h.r (by omega) hg (by omega) h.x,grown_mine h.s h.r (by omega) hg (by omega) h.a,grown_mine h.s h.r (by omega) hg (by omega) h.b,Nat.le_trans h.z hg.size,grown_row2 h.s h.r (by omega) hg hor rfl ho⟩
theorem GdAt.keeps (h:GdAt w0 w Sb n0 oA oB L gl v W){l:List ByteArray}(hw:ScA w0 Sb l w){B:Nat}(hB:B≤Sb):∀ b off,b<B→W.cell? ⟨b,off,none⟩=w.cell? ⟨b,off,none⟩:=
  fun b off hb=>(keepB h.s.b hB b off hb).trans (keepB hw.b hB b off hb).symm
end
set_option maxHeartbeats 8000000 in
set_option maxRecDepth 100000 in
theorem s_guards (x y : BoxS) (cx cy : List Value) (B : Nat) (w0 w : World) (Sb : Nat) (l : List ByteArray) (hx : BoxC w B cx x) (hy : BoxC w B cy y) (hB : B ≤ Sb) (h : ScA w0 Sb l w) (E : Env w0) (hw : w0.heap.size ≤ Sb) (hnm : goodN x.name = true) (hgy : ∀ u ∈ y.guards, WrG u)
    (hll:l.length+x.guards.length+y.guards.length≤100000):Calls Tryz.prog 29 #[.pointer (some ⟨Sb,0,none⟩), .agg cx.toArray, .agg cy.toArray] w (SayPost w0 Sb (l++guardsS x y) w):=by
  obtain ⟨Ai,Aci,Ao,Aco,Ag,Acg,Ar,Acr,Aw,Acw,Au,Acu,rfl,_,hxn,_,_,tg,_⟩:=box_form hx
  obtain ⟨Di,Dci,Do,Dco,Dg,Dcg,Dr,Dcr,Dw,Dcw,Du,Dcu,rfl,_,hyn,_,_,ug,_⟩:=box_form hy
  obtain ⟨OX,hOX⟩:∃ O,boxO (.string x.name) (.slice Ai x.ins.length Aci) (.slice Ao x.outs.length Aco) (.slice Ag x.guards.length Acg) (.slice Ar x.rules.length Acr) (.slice Aw x.owns.length Acw) (.slice Au x.routes.length Acu)=O:=⟨_,rfl⟩
  obtain ⟨OY,hOY⟩:∃ O,boxO (.string y.name) (.slice Di y.ins.length Dci) (.slice Do y.outs.length Dco) (.slice Dg y.guards.length Dcg) (.slice Dr y.rules.length Dcr) (.slice Dw y.owns.length Dcw) (.slice Du y.routes.length Dcu)=O:=⟨_,rfl⟩
  obtain ⟨W1,hW1⟩:∃ W1,w.alloc (boxO (.string x.name) (.slice Ai x.ins.length Aci) (.slice Ao x.outs.length Aco) (.slice Ag x.guards.length Acg) (.slice Ar x.rules.length Acr) (.slice Aw x.owns.length Acw) (.slice Au x.routes.length Acu))=W1:=⟨_,rfl⟩
  obtain ⟨W2,hW2⟩:∃ W2,W1.alloc (boxO (.string y.name) (.slice Di y.ins.length Dci) (.slice Do y.outs.length Dco) (.slice Dg y.guards.length Dcg) (.slice Dr y.rules.length Dcr) (.slice Dw y.owns.length Dcw) (.slice Du y.routes.length Dcu))=W2:=⟨_,rfl⟩
  have hz1:W1.heap.size=w.heap.size+1:=by rw [← hW1];simp
  have hz2:W2.heap.size=w.heap.size+2:=by rw [← hW2];simp [hz1]
  have hb1:Below w.heap.size w W1:=by rw [← hW1];exact (Below.refl _ _).alloc (Nat.le_refl _) _
  have hb2:Below W1.heap.size W1 W2:=by rw [← hW2];exact (Below.refl _ _).alloc (Nat.le_refl _) _
  have hb12:Below w.heap.size w W2:=hb1.trans (hb2.mono (by omega))
  have hSz:=h.lt
  have mX:Mine Sb w.heap.size OX W2:=(h.mine (by rw [← hOX,hW1];exact Below.refl _ _)).keep (KeepX.of_below (by omega) hb2)
  have mY:Mine Sb (w.heap.size+1) OY W2:=by
    have:=(h.below hb1).mine (o:=OY) (W':=W2) (by rw [← hOY,hW2];exact Below.refl _ _)
    rw [hz1] at this
    exact this
  have hcX:Hid (∀ W,Mine Sb w.heap.size OX W→W.cell? ⟨w.heap.size,0,none⟩=some (.string x.name)∧W.cell? ⟨w.heap.size,3,none⟩=some (.slice Ag x.guards.length Acg)):=Lib.hid fun W hm=>by
    have hc:=hm.1
    rw [← hOX] at hc
    obtain ⟨a0,_,_,a3,_⟩:=cells7 hc
    exact ⟨a0,a3⟩
  have hcY:Hid (∀ W,Mine Sb (w.heap.size+1) OY W→W.cell? ⟨w.heap.size+1,3,none⟩=some (.slice Dg y.guards.length Dcg)):=Lib.hid fun W hm=>by
    have hc:=hm.1
    rw [← hOY] at hc
    obtain ⟨_,_,_,a3,_⟩:=cells7 hc
    exact a3
  have hT0:GdAt w0 w Sb w.heap.size OX OY l [] (.slice none 0 0) W2:=⟨h.below hb12,KeepX.of_below hSz hb12,mX,mY,by omega,Row2.nil _ _ _⟩
  have hTW:Hid (∀ W,Below W2.heap.size W2 W→GdAt w0 w Sb w.heap.size OX OY l [] (.slice none 0 0) W):=Lib.hid fun W hb=>hT0.below hb
  have hBw:B≤w.heap.size:=by omega
  have hk12:=keepB hb12 hBw
  have c1:=Lib.hid (q_Line x.guards y.guards _ _ _ W2 (tg.keep (Nat.le_refl _) hk12 fun _ _ h=>h.keep (Nat.le_refl _) hk12) (ug.keep (Nat.le_refl _) hk12 fun _ _ h=>h.keep (Nat.le_refl _) hk12) (Nat.le_trans hBw hb12.size))
  obtain ⟨_,x3⟩:=hcX.out _ mX
  have y3:=hcY.out _ mY
  have hfin:Hid (∀ L gl v W,GdAt w0 w Sb w.heap.size OX OY L gl v W→L=l++guardsS x y→∀ v,SayPost w0 Sb (l++guardsS x y) w (.returned v) W):=Lib.hid fun L _ _ W hT hL v=>hL▸⟨⟨v,rfl⟩,hT.s,hT.x,by have:=hT.z;omega⟩
  have hnz:x.name.size≤24:=(goodN_le hnm).2
  have hpz:Hid (∀ u∈x.guards,Sm u.port):=Lib.hid fun u hu=>by
    obtain ⟨cs,hcl,_,_,hR⟩:=tg
    obtain ⟨i,hi⟩:=List.getElem?_of_mem hu
    have hil:=(List.getElem?_eq_some_iff.1 hi).1
    obtain ⟨_,_,h9,_⟩:=hR i cs[i] u (List.getElem?_eq_getElem (by omega)) hi
    exact h9
  have hlg:x.guards.length≤100000:=by omega
  have hlh:y.guards.length≤100000:=by omega
  replace hll:=Lib.hid hll
  replace h:=Lib.hid h
  replace tg:=Lib.hid tg
  replace ug:=Lib.hid ug
  replace hgy:=Lib.hid hgy
  replace hnm:=Lib.hid hnm
  have hF:Hid (guardsS x y=if eqL eqLine x.guards y.guards=true then [] else (goneL [] x.guards).map (noGuard x)++y.guards.map (adGuard x)):=Lib.hid rfl
  generalize guardsS x y=PP at *
  have hd0:=Lib.hid (Below.refl W2.heap.size W2)
  clear hx hy hb1 hb2 hb12 mX mY hT0 hBw hk12 hOX hOY
  cases hp:eqL eqLine x.guards y.guards
  case true=>
    rw [hp] at c1 hF
    clear hp
    go_enter Tryz.func29,Tryz.ntmps29
    go_wp2_with (go_at_call 64;(with_reducible refine (c1.out).mono ?_);rintro e wz ⟨rfl,hbC⟩;have hT:=Lib.hid (hTW.out _ hbC))
    go_end0
    exact hfin.out _ _ _ _ hT.out (by rw [hF.out];simp) _
  rw [hp] at c1 hF
  clear hp
  go_enter Tryz.func29,Tryz.ntmps29
  go_wp2_with (go_at_call 64;(with_reducible refine (c1.out).mono ?_);rintro e wz ⟨rfl,hbC⟩;have hT:=Lib.hid (hTW.out _ hbC);obtain ⟨xn0,x30⟩:=hcX.out _ hT.out.a;have y30:=hcY.out _ hT.out.b)
  clear c1 hTW hz1 hz2 hW1 hW2 x3 y3 hd0
  obtain ⟨i0,z0,h1,h2,h3,h4,h5⟩:=elText.hi
  have h1:=Lib.hid h1;have h2:=Lib.hid h2;have h3:=Lib.hid h3;have h4:=Lib.hid h4;have h5:=Lib.hid h5
  go_loopw [7,21] (fun gv i wr=>∃ k:Nat,k≤x.guards.length∧i=.int .i64 k∧Hid (GdAt w0 w Sb w.heap.size OX OY (l++(goneL [] (x.guards.take k)).map (noGuard x)) (goneL [] (x.guards.take k)) gv wr)) (fun _ i _=>x.guards.length-(intOf i).toNat)
  case atStart=>exact ⟨0,Nat.zero_le _,rfl,Lib.hid (by rw [List.take_zero];show GdAt w0 w Sb w.heap.size OX OY (l++[]) [] _ _;rw [List.append_nil];exact hT.out)⟩
  case round=>
    obtain ⟨k,hk,rfl,HT⟩:=hrel
    obtain ⟨wo,rfl⟩:∃ wo,wo=wr:=⟨_,rfl⟩
    clear hT xn0 x30 y30
    by_cases hlt:k<x.guards.length
    · have hkw:=HT.out.keeps h.out hB
      have tk:=tg.out.keep (w':=wo) (Nat.le_refl _) hkw fun _ _ h=>h.keep (Nat.le_refl _) hkw
      obtain ⟨b,off,rfl⟩:=SlOf.addr tk (by omega)
      obtain ⟨_,c,u,hu,hc,hj⟩:=SlOf.el tk hlt
      have hum:=List.mem_of_getElem? hu
      obtain ⟨Am,cm,rfl,hps,_⟩:=lineC_form hc
      have e10:wo.cell? ⟨b,off+k*3,none⟩=some (.string u.port):=hj 0 _ rfl
      have e11:wo.cell? ⟨b,off+k*3+1,none⟩=some (.bool u.permit):=hj 1 _ rfl
      have e12:wo.cell? ⟨b,off+k*3+2,none⟩=some (.slice Am u.mat.length cm):=hj 2 _ rfl
      obtain ⟨W3,hW3⟩:∃ W3,wo.alloc (.cells #[.string u.port, .bool u.permit, .slice Am u.mat.length cm] 116 (0,0))=W3:=⟨_,rfl⟩
      have hb3:Below wo.heap.size wo W3:=by rw [← hW3];exact (Below.refl _ _).alloc (Nat.le_refl _) _
      have hz3:W3.heap.size=wo.heap.size+1:=by rw [← hW3];simp
      have hT3:=HT.out.below hb3
      have hn3:W3.heap[wo.heap.size]?=some (.cells #[.string u.port, .bool u.permit, .slice Am u.mat.length cm] 116 (0,0)):=by rw [← hW3];exact heap_alloc_new wo _
      obtain ⟨q0,q1,q2⟩:=cellsAt3 hn3
      have hgs:∀ z∈goneL [] (x.guards.take k),Sm z:=goneL_in _ _ (by simp) fun z hz=>hpz.out z (List.mem_of_mem_take hz)
      have hgl:(goneL [] (x.guards.take k)).length≤k:=by have:=goneL_len (x.guards.take k) [];rw [List.length_take] at this;simp at this;omega
      obtain ⟨Ar,cr,rfl,hr1,hr2⟩:=row_form hT3.r.r
      have cC:=Lib.hid (has_Text (goneL [] (x.guards.take k)) _ u.port _ W3 (texts_of_row hT3.r.r hgs (by omega)) (Nat.le_refl _))
      have hst:=goneL_take hu
      generalize goneL [] (x.guards.take k)=gl at *
      have hTb:=Lib.hid fun W hb=>hT3.below (W':=W) hb
      have hqb:=Lib.hid fun W (hb:Below W3.heap.size W3 W)=>cellsAt3 ((hb.block wo.heap.size (by omega)).trans hn3)
      have hlz:=Lib.hid hT3.s.lt
      have hz3':=Lib.hid hz3
      have hro:=Lib.hid fun g e=>(HT.out.r.r.lt g e).2
      clear hkw tk hc hj hum HT hb3 hz3 hT3 hn3 hgs hu
      cases ha:gl.any (eqText u.port)
      · rw [ha] at cC
        replace hst:=Lib.hid (show goneL [] (x.guards.take (k+1))=gl++[u.port] by rw [hst,ha];rfl)
        clear ha
        have hlen:(l++gl.map (noGuard x)).length≤1000000:=by have:=hll.out;rw [List.length_append,List.length_map];omega
        have hpp:u.port.size≤140737488355328:=hps
        have g1:¬ 9223372036854775807<6+x.name.size:=by omega
        have g2:¬ 9223372036854775807<6+x.name.size+7:=by omega
        have g3:¬ 9223372036854775807<6+x.name.size+7+u.port.size:=by omega
        have hgl0:=Lib.hid hgl
        have hA:Hid (∀ (wy w4:World) (g' cap':Nat),GdAt w0 w Sb w.heap.size OX OY (l++gl.map (noGuard x)) gl (.slice Ar gl.length cr) wy→Below W3.heap.size W3 wy→w4.ownsRow (w.heap.size+2) 9 1 (.slice (some ⟨g',0,none⟩) (gl.length+1) cap') (gl.length+1) (gl.map Value.string++[.string u.port])→(wy.alloc (.cells #[.string u.port] 9 (0,0))).grownBy w4 (Value.slice Ar gl.length cr).ownBlock→((Value.slice Ar gl.length cr).ownBlock=some g'∨g'=wy.heap.size+1) →
            GdAt w0 w Sb w.heap.size OX OY (l++gl.map (noGuard x)) (gl++[u.port]) (.slice (some ⟨g',0,none⟩) (gl.length+1) cap') w4∧w4.cell? ⟨wo.heap.size,0,none⟩=some (.string u.port)):=Lib.hid fun wy w4 g' cap' hTy hby ho hg hor=>by
          have hTa:=hTy.below (W':=wy.alloc (.cells #[.string u.port] 9 (0,0))) ((Below.refl _ _).alloc (Nat.le_refl _) _)
          refine ⟨hTa.grown rfl hSz hg (by simpa using hor) (by unfold TextsR;rw [List.length_append,List.map_append];exact ho),?_⟩
          have hlo:wo.heap.size<wy.heap.size:=by have:=hby.size;have:=hz3'.out;omega
          have hbk:w4.heap[wo.heap.size]?=wy.heap[wo.heap.size]?:=(hg.block wo.heap.size (by simp;omega) fun e=>by have:=hro.out _ e.symm;omega).trans (((Below.refl wy.heap.size wy).alloc (Nat.le_refl _) _).block _ hlo)
          exact (World.cell?_of_block hbk).trans (hqb.out _ hby).1
        clear hpp
        go_wp2_with (first
          | (go_at_call 10;(with_reducible refine (cS.out _).mono ?_);rintro e wz hZ;obtain ⟨⟨vz,rfl⟩,hSc⟩:=hZ;have hT9:=Lib.hid (hT4.out.moved hSc.1 hSc.2.1 hSc.2.2);clear hSc)
          | (go_at_call 66;(with_reducible refine (cC.out).mono ?_);rintro e wy ⟨rfl,hbC⟩;obtain ⟨q0,q1,q2⟩:=hqb.out _ hbC;have hTy:=Lib.hid (hTb.out _ hbC);have hby:=Lib.hid hbC;clear hbC)
          | (at_builtin;go_loud (refine wpList_append_lies _ rfl (.tmp 30) (.tmp 33) _ rfl (w.heap.size+2) 9 i0 z0 1 16 elText.ht h1.out h2.out h3.out h4.out h5.out (by decide) (.slice Ar gl.length cr) gl.length _ rfl (hTy.out.r.r.alloc _) ⟨wy.heap.size,0,none⟩ 1 1 [.string u.port] rfl rfl (World.news_of_block (heap_alloc_new wy _)) (by intro u hu;simp only [List.mem_cons,List.not_mem_nil,or_false] at hu;subst hu;rfl) (by decide) (by unfold maxLen;omega) (by omega) (by have:=hTy.out.z;simp;omega) (wy.heap.size+1) (by simp) ?_;intro g' cap' w4 ho4 hg4 hor4 _;obtain ⟨hT4',q4⟩:=hA.out wy w4 g' cap' hTy.out hby.out ho4 hg4 hor4;obtain ⟨x40,_⟩:=hcX.out _ hT4'.a;have hT4:=Lib.hid hT4';have cS:=Lib.hid fun s=>d_say s hT4'.s hlen;clear ho4 hg4 hor4 hT4')))
        go_roundw
        case rel=>exact ⟨k+1,by omega,by go_num,Lib.hid (by rw [hst.out,List.map_append,← List.append_assoc];exact hT9.out)⟩
        case measure=>simp [intOf];omega
      · rw [ha] at cC
        replace hst:=Lib.hid (show goneL [] (x.guards.take (k+1))=gl by rw [hst,ha];rfl)
        clear ha
        go_wp2_with (go_at_call 66;(with_reducible refine (cC.out).mono ?_);rintro e wy ⟨rfl,hbC⟩;have hTy:=Lib.hid (hTb.out _ hbC))
        go_roundw
        case rel=>exact ⟨k+1,by omega,by go_num,Lib.hid (by rw [hst.out];exact hTy.out)⟩
        case measure=>simp [intOf];omega
    · have hlG:=goneL_len x.guards []
      have hT:Hid (GdAt w0 w Sb w.heap.size OX OY (l++(goneL [] x.guards).map (noGuard x)) (goneL [] x.guards) u7 wo):=Lib.hid (by rw [List.take_of_length_le (by omega)] at HT;exact HT.out)
      clear HT
      replace hlG:(goneL [] x.guards).length≤x.guards.length:=by simpa using hlG
      generalize goneL [] x.guards=GG at *
      obtain ⟨xn0,x30⟩:=hcX.out _ hT.out.a
      have y30:=hcY.out _ hT.out.b
      have hL1:Hid ((l++GG.map (noGuard x)).length+y.guards.length≤100000):=Lib.hid (by have:=hll.out;rw [List.length_append,List.length_map];omega)
      replace hF:=Lib.hid (show l++PP=(l++GG.map (noGuard x))++y.guards.map (adGuard x) by rw [hF.out,List.append_assoc];rfl)
      generalize l++GG.map (noGuard x)=L1 at *
      go_wp2_with fail
      go_loopw [48] (fun i wr=>∃ k:Nat,k≤y.guards.length∧i=.int .i64 k∧Hid (GdAt w0 w Sb w.heap.size OX OY (L1++(y.guards.take k).map (adGuard x)) GG u7 wr)) (fun i _=>y.guards.length-(intOf i).toNat)
      case atStart=>exact ⟨0,Nat.zero_le _,rfl,Lib.hid (by rw [List.take_zero,List.map_nil,List.append_nil];exact hT.out)⟩
      case round=>
        obtain ⟨k,hk,rfl,HT⟩:=hrel
        obtain ⟨wo,rfl⟩:∃ wo,wo=wr:=⟨_,rfl⟩
        clear hT xn0 x30 y30
        by_cases hlt:k<y.guards.length
        · have hkw:=HT.out.keeps h.out hB
          have tk:=ug.out.keep (w':=wo) (Nat.le_refl _) hkw fun _ _ h=>h.keep (Nat.le_refl _) hkw
          obtain ⟨b,off,rfl⟩:=SlOf.addr tk (by omega)
          obtain ⟨_,c,u,hu,hc,hj⟩:=SlOf.el tk hlt
          have hum:=List.mem_of_getElem? hu
          have hwu:=hgy.out u hum
          have hc0:=hc
          obtain ⟨Am,cm,rfl,hps,_⟩:=lineC_form hc
          have e10:wo.cell? ⟨b,off+k*3,none⟩=some (.string u.port):=hj 0 _ rfl
          have e11:wo.cell? ⟨b,off+k*3+1,none⟩=some (.bool u.permit):=hj 1 _ rfl
          have e12:wo.cell? ⟨b,off+k*3+2,none⟩=some (.slice Am u.mat.length cm):=hj 2 _ rfl
          obtain ⟨W3,hW3⟩:∃ W3,wo.alloc (.cells #[.string u.port, .bool u.permit, .slice Am u.mat.length cm] 116 (0,0))=W3:=⟨_,rfl⟩
          have hb3:Below wo.heap.size wo W3:=by rw [← hW3];exact (Below.refl _ _).alloc (Nat.le_refl _) _
          have hz3:W3.heap.size=wo.heap.size+1:=by rw [← hW3];simp
          have hT3:=HT.out.below hb3
          have hn3:W3.heap[wo.heap.size]?=some (.cells #[.string u.port, .bool u.permit, .slice Am u.mat.length cm] 116 (0,0)):=by rw [← hW3];exact heap_alloc_new wo _
          obtain ⟨q0,q1,q2⟩:=cellsAt3 hn3
          obtain ⟨xn0,_⟩:=hcX.out _ hT3.a
          obtain ⟨W4,hW4⟩:∃ W4,W3.alloc (.cells #[.string u.port, .bool u.permit, .slice Am u.mat.length cm] 116 (0,0))=W4:=⟨_,rfl⟩
          have hb4:Below W3.heap.size W3 W4:=by rw [← hW4];exact (Below.refl _ _).alloc (Nat.le_refl _) _
          have hn4:W4.heap[W3.heap.size]?=some (.cells #[.string u.port, .bool u.permit, .slice Am u.mat.length cm] 116 (0,0)):=by rw [← hW4];exact heap_alloc_new W3 _
          have hz4:W4.heap.size=W3.heap.size+1:=by rw [← hW4];simp
          have hSo:=HT.out.s.lt
          have hlen:(allL [⟨x.name,[],[],[u],[],[],[]⟩] [] []).length≤16384:=by
            have h2:(lineT u).size≤4400:=lineT_le hwu
            simp [allL,linesL,boxL,ba_size]
            omega
          have cB:Hid (Calls Tryz.prog 34 #[.agg #[.string x.name, .slice none 0 0, .slice none 0 0, .slice (some ⟨W3.heap.size,0,none⟩) 1 1, .slice none 0 0, .slice none 0 0, .slice none 0 0]] W4 (StrW (adGuard x u) W4)):=Lib.hid (by
            have hE4:=E.below (((hT3.below hb4).s.b).mono hw)
            have h9:LineC W4 (W3.heap.size+1) [.string u.port, .bool u.permit, .slice Am u.mat.length cm] u:=hc0.keep (by omega) fun b o hbb=>(keepB hb4 (by omega) b o hbb).trans (keepB hb3 (by omega) b o hbb)
            exact d_body ⟨x.name,[],[],[u],[],[],[]⟩ _ (W3.heap.size+1) W4 ⟨_,_,_,_,_,_,rfl,hxn,slOf_nil,slOf_nil,slOf_one hn4 rfl (Nat.lt_succ_self _) h9,slOf_nil,slOf_nil,slOf_nil⟩ (by omega) hE4 ⟨rfl,rfl,hnm.out,by intro v hv;rw [List.mem_singleton.1 hv];exact hwu,by simp,by simp,by simp⟩ hlen)
          have hts:Hid ((y.guards.take (k+1)).map (adGuard x)=(y.guards.take k).map (adGuard x)++[adGuard x u]):=Lib.hid (by rw [List.take_add_one,hu];simp)
          have hlen2:(L1++(y.guards.take k).map (adGuard x)).length≤1000000:=by have:=hL1.out;have h3:=List.length_take_le k y.guards;rw [List.length_append,List.length_map];omega
          have hTW:=Lib.hid fun W (hb:Below W4.heap.size W4 W)=>hT3.below (hb4.trans (hb.mono (by omega)))
          have cS:=Lib.hid fun W hb=>fun s=>d_say s (hTW.out W hb).s hlen2
          clear hkw tk hc hc0 hj hum HT hb3 hz3 hT3 hn3 hu hwu hlen hn4 hz4 hb4 hSo
          generalize adGuard x u=TX at *
          go_wp2_with (first
            | (go_at_call 10;(with_reducible refine (cS.out _ hbB _).mono ?_);rintro e wz hZ;obtain ⟨⟨vz,rfl⟩,hSc⟩:=hZ;have hT9:=Lib.hid ((hTW.out _ hbB).moved hSc.1 hSc.2.1 hSc.2.2);clear hSc)
            | (go_at_call 34;(with_reducible refine (cB.out).mono ?_);rintro e wy ⟨rfl,hbB⟩))
          go_roundw
          case rel=>exact ⟨k+1,by omega,by go_num,Lib.hid (by rw [hts.out,← List.append_assoc];exact hT9.out)⟩
          case measure=>simp [intOf];omega
        · have hT:Hid (GdAt w0 w Sb w.heap.size OX OY (L1++y.guards.map (adGuard x)) GG u7 wo):=Lib.hid (by rw [List.take_of_length_le (by omega)] at HT;exact HT.out)
          clear HT
          go_wp2_with fail
          go_end0
          exact hfin.out _ _ _ _ hT.out hF.out.symm _
end Go.Proofs.YtdhehcobnbcmdaaGreatDoor
