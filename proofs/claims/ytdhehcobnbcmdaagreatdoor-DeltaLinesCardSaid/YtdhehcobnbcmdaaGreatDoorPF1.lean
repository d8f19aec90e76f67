/- A part of the proof of DeltaLines: Fld1 RowL EnvD. -/
import Derived.Test.YtdhehcobnbcmdaaGreatDoorPCf
import Derived.Test.YtdhehcobnbcmdaaGreatDoorPNm
import Derived.Lib.OthersKept
import Derived.StillTailTactics
import Derived.Deep.RegionHeld3
import Derived.Deep.DrawnRows
import Derived.KernelRfl
import Derived.Deep.AppendLies
import Derived.Laws.OwnMore
import Derived.Laws.BytesArg
import Derived.Lib.SmallJoins
import Derived.Deep.OwnRows
import Derived.Test.YtdhehcobnbcmdaaGreatDoorPSh
import Derived.Shelf.Strings.SlTrimAscii
import Derived.Lib.AppendIntMem
set_option linter.all false
namespace Go.Proofs.YtdhehcobnbcmdaaGreatDoor
open Go.RowKit
theorem w64 {n:Int}(h : -9223372036854775808≤n∧n≤9223372036854775807):wrap64 n=n:=by unfold wrap64;omega
set_option maxHeartbeats 1600000 in
theorem f_find (l : List FieldS) (nm : ByteArray) (v : Value) (B : Nat) (w : World) (h : Fields w B v l) (hB : B ≤ w.heap.size) :
    Calls Tryz.prog 94 #[v, .string nm] w fun e w'=>e=.returned (.int .i64 (findF l nm))∧Below w.heap.size w w':=by
  obtain ⟨A,cap,rfl,hcl,hcap⟩:=SlOf.form h
  have hf:=Lib.hid h
  have HR0:Hid (findF l nm=findFrom nm 0 (l.drop 0)):=Lib.hid rfl
  have hb0:=Lib.hid (Below.refl w.heap.size w)
  generalize findF l nm=R at *
  clear h
  go_enter Tryz.func94,Tryz.ntmps94
  go_wp2_with fail
  go_loopw [5,6,9] (fun _ _ i wr=>∃ k:Nat,k≤l.length∧i=.int .i64 k∧Hid (R=findFrom nm k (l.drop k))∧Hid (Below w.heap.size w wr)) (fun _ _ i _=>l.length-(intOf i).toNat)
  case atStart=>exact ⟨0,Nat.zero_le _,rfl,HR0,hb0⟩
  case round=>
    obtain ⟨k,hk,rfl,HR,hbw⟩:=hrel
    by_cases hlt:k<l.length
    · have hF:=Fields.below hf.out hbw.out hB
      obtain ⟨b,off,rfl⟩:=SlOf.addr hF (by omega)
      obtain ⟨hb,c,x,hx,⟨hc,_⟩,hj⟩:=SlOf.el hF hlt
      subst hc
      have e0:wr.cell? ⟨b,off+k*2,none⟩=some (.string x.name):=hj 0 _ rfl
      have e1:wr.cell? ⟨b,off+k*2+1,none⟩=some (.int .i64 x.bits):=hj 1 _ rfl
      have HS:Hid (R=if x.name=nm then (k:Int) else findFrom nm (k+1) (l.drop (k+1))):=Lib.hid (by rw [HR.out,drop_at hx];rfl)
      have hbw1:=Lib.hid fun o=>hbw.out.alloc hbw.out.size o
      clear HR hj hF hbw hx
      by_cases he:x.name=nm
      · have HF:Hid (R=k):=Lib.hid (by rw [HS.out,if_pos he])
        have hbe:(x.name.toList == nm.toList)=true:=by rw [ba_beq,decide_eq_true he]
        clear HS he
        go_wp2_with fail
        go_ret
        exact ⟨ret_int HF.out.symm,hbw1.out _⟩
      · have HF:Hid (R=findFrom nm (k+1) (l.drop (k+1))):=Lib.hid (by rw [HS.out,if_neg he])
        have hbe:(x.name.toList == nm.toList)=false:=by rw [ba_beq,decide_eq_false he]
        clear HS he
        go_wp2_with fail
        go_roundw
        case rel=>exact ⟨k+1,by omega,by go_num,HF,hbw1.out _⟩
        case measure=>simp [intOf];omega
    · have HF:Hid (R = -1):=Lib.hid (by rw [HR.out,drop_end hlt];rfl)
      clear HR
      go_wp2_with fail
      go_ret
      exact ⟨ret_int HF.out.symm,hbw.out⟩
theorem widthF_add:∀ (l:List FieldS)(k:Nat)(x:FieldS),l[k]?=some x→widthF (l.take (k+1))=widthF (l.take k)+x.bits
  | [],k,x,h=>by simp at h
  | f::r,0,x,h=>by simp at h;subst h;simp [widthF]
  | f :: r, k + 1, x, h => by
    have:=widthF_add r k x (by simpa using h)
    simp only [List.take_succ_cons,widthF] at this ⊢
    omega
set_option maxHeartbeats 1600000 in
theorem f_width (l:List FieldS)(v:Value)(B:Nat)(w:World)(h:Fields w B v l)(hB:B≤w.heap.size)(hg:∀ k,0≤widthF (l.take k)∧widthF (l.take k)≤256) :
    Calls Tryz.prog 160 #[v] w fun e w'=>e=.returned (.int .i64 (widthF l))∧Below w.heap.size w w':=by
  obtain ⟨A,cap,rfl,hcl,hcap⟩:=SlOf.form h
  have hf:=Lib.hid h
  have HR0:Hid ((0:Int)=widthF (l.take 0)):=Lib.hid rfl
  have hb0:=Lib.hid (Below.refl w.heap.size w)
  have hg:=Lib.hid hg
  clear h
  go_enter Tryz.func160,Tryz.ntmps160
  go_wp2_with fail
  go_loopw [3,5,8] (fun s _ i wr=>∃ (k:Nat) (sm:Int),k≤l.length∧i=.int .i64 k∧s=.int .i64 sm∧Hid (sm=widthF (l.take k))∧Hid (Below w.heap.size w wr)) (fun _ _ i _=>l.length-(intOf i).toNat)
  case atStart=>exact ⟨0,0,Nat.zero_le _,rfl,rfl,HR0,hb0⟩
  case round=>
    obtain ⟨k,sm,hk,rfl,rfl,HR,hbw⟩:=hrel
    by_cases hlt:k<l.length
    · have hF:=Fields.below hf.out hbw.out hB
      obtain ⟨b,off,rfl⟩:=SlOf.addr hF (by omega)
      obtain ⟨hb,c,x,hx,⟨hc,_⟩,hj⟩:=SlOf.el hF hlt
      subst hc
      have e0:wr.cell? ⟨b,off+k*2,none⟩=some (.string x.name):=hj 0 _ rfl
      have e1:wr.cell? ⟨b,off+k*2+1,none⟩=some (.int .i64 x.bits):=hj 1 _ rfl
      have hs0:=hg.out k
      have hs1:=hg.out (k+1)
      rw [← HR.out] at hs0
      rw [widthF_add l k x hx,← HR.out] at hs1
      have hwr:wrap64 (sm+x.bits)=sm+x.bits:=w64 (by omega)
      have HS:Hid (sm+x.bits=widthF (l.take (k+1))):=Lib.hid (by rw [HR.out,widthF_add l k x hx])
      have hbw1:=Lib.hid fun o=>hbw.out.alloc hbw.out.size o
      clear HR hj hF hbw hx hs0 hs1
      go_wp2_with fail
      go_roundw
      case rel=>exact ⟨k+1,_,by omega,by go_num,by first|rfl|(rw [hwr]),HS,hbw1.out _⟩
      case measure=>simp [intOf];omega
    · have HF:Hid (sm=widthF l):=Lib.hid (by rw [HR.out,List.take_of_length_le (by omega)])
      clear HR
      go_wp2_with fail
      go_ret
      exact ⟨ret_int HF.out,hbw.out⟩
theorem f_top (n:Int)(h0:0≤n)(h1:n≤32)(w:World):Calls Tryz.prog 161 #[.int .i64 n] w fun e w'=>e=.returned (.int .i64 (topS n))∧w=w':=by
  have H:=Lib.hid (topS_lt h0 h1)
  go_enter Tryz.func161,Tryz.ntmps161
  go_wp2
  go_ret
  refine ⟨ret_int ?_,rfl⟩
  have:=H.out
  unfold topS at this ⊢
  rw [w64 (n:=2 ^ n.toNat) (by omega),w64 (by omega)]
theorem SlOf.take {α : Type} {size : Nat} {R : World → Nat → List Value → α → Prop} {w : World} {B len cap : Nat} {A : Option Addr} {l : List α} (h : SlOf size R w B (.slice A len cap) l) {k : Nat} (hk : k ≤ l.length) : SlOf size R w B (.slice A k cap) (l.take k) := by
  obtain ⟨cs,hl,hs,⟨A',cap',hv,h1,h2,h3,h4⟩,hR⟩:=h
  injection hv with hA hlen hcap
  subst hA hcap
  have hlk:(l.take k).length=k:=by rw [List.length_take];omega
  have hfl:∀ (n:Nat) (ds:List (List Value)),(∀ c∈ds,c.length=size)→(ds.take n).flatten=ds.flatten.take (n*size):=by
    intro n
    induction n with
    | zero=>intro ds _;simp
    | succ n ih =>
      intro ds hds
      cases ds with
      | nil=>simp
      | cons d ds =>
        have hd:=hds d (by simp)
        rw [List.take_succ_cons,List.flatten_cons,ih ds fun c hc=>hds c (by simp [hc]),List.flatten_cons,List.take_append,List.take_of_length_le (l:=d) (by rw [hd,Nat.add_mul];omega),hd,Nat.add_mul,Nat.one_mul,Nat.add_sub_cancel]
  refine ⟨cs.take k,by rw [List.length_take,hlk];omega,fun c hc=>hs c (List.mem_of_mem_take hc),⟨A,cap,by rw [hlk],by omega,by omega,?_,fun hp=>?_⟩,fun i c x hc hx=>?_⟩
  · rw [hlk,hfl k cs hs,List.length_take,h3]
    exact Nat.min_eq_left (Nat.mul_le_mul_right _ hk)
  · obtain ⟨b,off,hA,hb,hc⟩:=h4 (by omega)
    refine ⟨b,off,hA,hb,fun j u hu=>hc j u ?_⟩
    rw [hfl k cs hs] at hu
    rw [List.getElem?_take] at hu
    split at hu
    · exact hu
    · cases hu
  · rw [List.getElem?_take] at hc hx
    split at hc
    · rename_i hi;rw [if_pos hi] at hx;exact hR i c x hc hx
    · cases hc
def FcPost (l:List FieldS)(w:World)(e:Ending)(w':World):Prop:=
  (∃ k a:Int,e=.returned (.tuple #[.int .i64 k, .int .i64 a])∧if okF l=true then k=0 else k≠0∧(k=2∨l.length=0∨(0≤a∧a<l.length)))∧Below w.heap.size w w'
theorem fc_bad {l:List FieldS}{w w':World}{k a:Int}(h:okF l=false)(hk:k≠0)(ha:k=2∨l.length=0∨(0≤a∧a<l.length))(hb:Below w.heap.size w w'):FcPost l w (.returned (.tuple #[.int .i64 k, .int .i64 a])) w':=
  ⟨⟨k,a,rfl,by rw [if_neg (by rw [h];simp)];exact ⟨hk,ha⟩⟩,hb⟩
set_option maxHeartbeats 4000000 in
set_option maxRecDepth 100000 in
theorem f_Check (l : List FieldS) (v : Value) (B : Nat) (w : World) (h : Fields w B v l) (hB : B ≤ w.heap.size) :
    Calls Tryz.prog 54 #[v] w (FcPost l w):=by
  obtain ⟨A,cap,rfl,hcl,hcap⟩:=SlOf.form h
  have hf:=Lib.hid h
  have hb0:=Lib.hid (Below.refl w.heap.size w)
  by_cases h12:12<l.length
  · have H:=Lib.hid (fc_bad (w:=w) (k:=2) (a:=0) (show okF l=false by unfold okF;rw [decide_eq_false (p:=1≤l.length∧l.length≤12) (by omega)];rfl) (by decide) (Or.inl rfl) hb0.out)
    have h12':(l.length:Int)>12:=by omega
    clear h h12
    go_enter Tryz.func54,Tryz.ntmps54
    go_wp2_with fail
    go_ret2
    exact H.out
  by_cases h1:l.length=0
  · have H:=Lib.hid (fc_bad (w:=w) (k:=40) (a:=0) (show okF l=false by unfold okF;rw [decide_eq_false (p:=1≤l.length∧l.length≤12) (by omega)];rfl) (by decide) (Or.inr (Or.inl h1)) hb0.out)
    have h12':¬ (l.length:Int)>12:=by omega
    have h11:((l.length:Int) == 0)=true:=by simp [h1]
    clear h h12 h1
    go_enter Tryz.func54,Tryz.ntmps54
    go_wp2_with fail
    go_ret2
    exact H.out
  have HR0:Hid (okF l=okFrom l 0 0 (l.drop 0)):=Lib.hid (by unfold okF;rw [decide_eq_true (p:=1≤l.length∧l.length≤12) (by omega)];rfl)
  have h12':¬ (l.length:Int)>12:=by omega
  have h11:((l.length:Int) == 0)=false:=by rw [beq_eq_false_iff_ne];omega
  clear h h1 h12
  go_enter Tryz.func54,Tryz.ntmps54
  go_wp2_with fail
  go_loopw [4,5,6,15] (fun s _ _ i wr=>∃ (k:Nat) (sm:Int),k≤l.length∧i=.int .i64 k∧s=.int .i64 sm∧(0≤sm∧sm≤256)∧Hid (okF l=okFrom l k sm (l.drop k))∧Hid (Below w.heap.size w wr)) (fun _ _ _ i _=>l.length-(intOf i).toNat)
  case atStart=>exact ⟨0,0,Nat.zero_le _,rfl,rfl,by omega,HR0,hb0⟩
  case round=>
    obtain ⟨k,sm,hk,rfl,rfl,⟨hs0,hs1⟩,HR,hbw⟩:=hrel
    by_cases hlt:k<l.length
    · have hF:=Fields.below hf.out hbw.out hB
      obtain ⟨b,off,rfl⟩:=SlOf.addr hF (by omega)
      obtain ⟨hb,c,x,hx,⟨hc,hxs⟩,hj⟩:=SlOf.el hF hlt
      subst hc
      have e0:wr.cell? ⟨b,off+k*2,none⟩=some (.string x.name):=hj 0 _ rfl
      have e1:wr.cell? ⟨b,off+k*2+1,none⟩=some (.int .i64 x.bits):=hj 1 _ rfl
      have HS:Hid (okF l=(okAt l k sm x && okFrom l (k+1) (sm+x.bits) (l.drop (k+1)))):=Lib.hid (by rw [HR.out,drop_at hx];rfl)
      obtain ⟨W,hW⟩:∃ W,wr.alloc (.cells #[.string x.name, .int .i64 x.bits] 38 (0,0))=W:=⟨_,rfl⟩
      have z1:W.heap.size=wr.heap.size+1:=by rw [← hW];simp
      have hbW:=Lib.hid (show Below w.heap.size w W by rw [← hW];exact hbw.out.alloc hbw.out.size _)
      have hbx:=Lib.hid (show W.heap[wr.heap.size]?=some (.cells #[.string x.name, .int .i64 x.bits] 38 (0,0)) by rw [← hW];exact heap_alloc_new wr _)
      have hT:=Lib.hid (SlOf.take (Fields.below hf.out hbW.out hB) hk)
      have cn:Hid (∀ W',Calls Tryz.prog 93 #[.string x.name] W' fun e w'=>e=.returned (.bool (isName (bs x.name)))∧w'=W'):=Lib.hid fun W'=>(f_name x.name W' (by unfold Sm at hxs;omega)).mono fun _ _ h=>⟨h.1,h.2.symm⟩
      have cf:Hid (∀ W',Below w.heap.size W W'→Calls Tryz.prog 94 #[.slice (some ⟨b,off,none⟩) k cap, .string x.name] W' fun e w'=>e=.returned (.int .i64 (findF (l.take k) x.name))∧Below W'.heap.size W' w'):=Lib.hid fun W' hb=>f_find (l.take k) x.name (.slice (some ⟨b,off,none⟩) k cap) w.heap.size W' (Fields.below hT.out hb (Nat.le_refl _)) (by have:=hbW.out.size;have:=hb.size;omega)
      have q0:W.cell? ⟨wr.heap.size,0,none⟩=some (.string x.name):=by simpa using cell_of_row W wr.heap.size 0 _ _ (0,0) hbx.out
      have hlW:wr.heap.size<W.heap.size:=by omega
      have hbd : -1≤findF (l.take k) x.name∧findF (l.take k) x.name<13:=by have:=findF_lt (l.take k) x.name;rw [List.length_take] at this;omega
      obtain ⟨Q,hQ⟩:∃ Q,Q=(isName (bs x.name) && !(x.name.toList == [97,110,121]) && !(x.name.toList == [110,111,110,101]) && decide (findF (l.take k) x.name<0)):=⟨_,rfl⟩
      replace HS:Hid (okF l=(Q && decide (1≤x.bits∧x.bits≤32∧sm+x.bits≤256) && okFrom l (k+1) (sm+x.bits) (l.drop (k+1)))):=Lib.hid (by rw [HS.out,hQ];rfl)
      replace hQ:=Lib.hid hQ
      have hkc:k≤cap:=by omega
      replace z1:=Lib.hid z1
      clear HR hj hF hT hxs hx
      go_upto_region 9 with fail
      clear hW e0 e1
      go_cut [42] (fun v wx=>v=.bool (!Q)∧Hid (Below W.heap.size W wx))
      case first=>
        generalize findF (l.take k) x.name=fd at *
        obtain ⟨hd1,hd2⟩:=hbd
        cases h1:isName (bs x.name)
        · rw [h1] at cn hQ
          obtain rfl:Q=false:=by rw [hQ.out];rfl
          clear h1 hQ
          go_quiet (exact Calls.quiet_of_same (cn.out _))
          go_wp2_with fail
          go_meet
          exact ⟨rfl,Lib.hid (below_drewN (Below.refl _ _) _)⟩
        rw [h1] at cn hQ
        cases h2:x.name.toList == [97,110,121]
        case true=>
          rw [h2] at hQ
          obtain rfl:Q=false:=by rw [hQ.out];rfl
          clear h1 hQ
          go_quiet (exact Calls.quiet_of_same (cn.out _))
          go_wp2_with fail
          go_meet
          exact ⟨rfl,Lib.hid (below_drewN (Below.refl _ _) _)⟩
        rw [h2] at hQ
        cases h3:x.name.toList == [110,111,110,101]
        case true=>
          rw [h3] at hQ
          obtain rfl:Q=false:=by rw [hQ.out];rfl
          clear h1 hQ
          go_quiet (exact Calls.quiet_of_same (cn.out _))
          go_wp2_with fail
          go_meet
          exact ⟨rfl,Lib.hid (below_drewN (Below.refl _ _) _)⟩
        rw [h3] at hQ
        have H:=Lib.hid (show (!Q)=decide (0≤fd) by rw [hQ.out];by_cases h0:fd<0<;>simp [h0]<;>omega)
        clear h1 hQ
        go_region_held3 (fun W'=>W'.cell? ⟨wr.heap.size,0,none⟩=some (.string x.name)) (first|exact hHeld|go_keep|exact (hbz.cell (p:=⟨wr.heap.size,0,none⟩) hlW).trans q0)
          ((first|(go_at_call 94;refine (cf.out _ ((below_drewN (Below.refl _ _) 1))).mono ?_;rintro e wz ⟨rfl,hbz⟩)|(go_at_call 93;refine (cn.out _).mono ?_;rintro e wz ⟨rfl,rfl⟩)))
        go_wp2_with fail
        go_meet
        exact ⟨by rw [H.out],Lib.hid ((below_drewN (Below.refl _ _) 1).trans hbz)⟩
      case rest=>
        obtain ⟨rfl,hbx2⟩:=hcut
        have hX:=Lib.hid ((hbx2.out.block _ hlW).trans hbx.out)
        have q1:wc.cell? ⟨wr.heap.size,1,none⟩=some (.int .i64 x.bits):=by simpa using cell_of_row wc wr.heap.size 1 _ _ (0,0) hX.out
        have hO:=Lib.hid (hbW.out.trans (hbx2.out.mono hbW.out.size))
        clear q0 hlW hbd cn cf hbx2 hbx hbW hbw
        have hbad:Hid (okF l=false→FcPost l w (.returned (.tuple #[.int .i64 40, .int .i64 k])) wc):=Lib.hid fun h=>fc_bad h (by decide) (Or.inr (Or.inr ⟨by omega,by omega⟩)) hO.out
        cases Q
        · have H:=Lib.hid (hbad.out (by rw [HS.out];rfl))
          clear HS
          go_wp2_with fail
          go_ret2
          exact H.out
        by_cases b1:x.bits<1
        · have H:=Lib.hid (hbad.out (by rw [HS.out,decide_eq_false (p:=1≤x.bits∧_) (by omega)];rfl))
          clear HS
          go_wp2_with fail
          go_ret2
          exact H.out
        by_cases b2:x.bits>32
        · have H:=Lib.hid (hbad.out (by rw [HS.out,decide_eq_false (p:=1≤x.bits∧_) (by omega)];rfl))
          clear HS
          go_wp2_with fail
          go_ret2
          exact H.out
        have hwr:wrap64 (sm+x.bits)=sm+x.bits:=w64 (by omega)
        by_cases b3:sm+x.bits>256
        · have H:=Lib.hid (hbad.out (by rw [HS.out,decide_eq_false (p:=1≤x.bits∧_) (by omega)];rfl))
          clear HS
          go_wp2_with fail
          go_ret2
          exact H.out
        have HF:Hid (okF l=okFrom l (k+1) (sm+x.bits) (l.drop (k+1))):=Lib.hid (by rw [HS.out,decide_eq_true (p:=1≤x.bits∧_) (by omega)];rfl)
        clear HS
        go_wp2_with fail
        go_roundw
        case rel=>exact ⟨k+1,_,by omega,by go_num,by first|rfl|(rw [hwr]),by omega,HF,hO⟩
        case measure=>simp [intOf];omega
    · have HF:Hid (okF l=true):=Lib.hid (by rw [HR.out,drop_end hlt];rfl)
      clear HR
      go_wp2_with fail
      go_ret2
      exact ⟨⟨0,0,rfl,by rw [if_pos HF.out]⟩,hbw.out⟩
structure ElT (T e:TypeId)(bytes:Nat):Prop where
  ht:Tryz.prog.underlying T=some (.slice e)
  hi:∃ i z,Tryz.prog.info? e=some i∧i.zero=some z∧i.size=1∧i.bytes=bytes∧z.cells.size=1
theorem ElT.mk' {T e:TypeId}{bytes:Nat}{z:Value}(ht:Tryz.prog.underlying T=some (.slice e))(hi:(Tryz.prog.info? e).map (fun i=>(i.zero,i.size,i.bytes))=some (some z,1,bytes))(hz:z.cells.size=1):ElT T e bytes:=by
  obtain ⟨i0,h1,h2,h3,h4⟩:=info_parts hi
  exact ⟨ht,i0,z,h1,h2,h3,h4,hz⟩
section
variable {T e:TypeId} {bytes:Nat} {w:World} {ops:Array Oper} {rest:List Oper} {o:Oper} {a:Act} {Q:Exit→Act→World→Prop} {base n g cap:Nat} {v:Value} {xs:List Value}
theorem push_one (E:ElT T e bytes)(hg:o.guard=none)(s x:Operand)(ho:o.op=.call { callee:=.builtin .append,args:=#[s,x],argTypes:=#[T,T] })
    (base n:Nat) (v:Value) (xs:List Value) (hs:a.eval s=v) (hown:w.ownsRow base e 1 v n xs) (H:Nat) (hH:w.heap.size=H) (u:Value) (hx:a.eval x=.slice (some ⟨H,0,none⟩) 1 1) (hu:u.oneCell'=true) (hn:(n+1)*bytes≤140737488355328) (hn2:n+1≤maxLen) (hbase:base≤w.heap.size)
    (hK:∀ g cap w',w'.ownsRow base e 1 (.slice (some ⟨g,0,none⟩) (n+1) cap) (n+1) (xs++[u])→Below base w w'→(v.ownBlock=some g∨g=H+1)→wpList Tryz.prog ops Q rest (a.put o.dst (.slice (some ⟨g,0,none⟩) (n+1) cap)) w'):wpList Tryz.prog ops Q (o::rest) a (w.alloc (.cells #[u] e (0,0))):=by
  subst hH
  obtain ⟨i,z,h1,h2,h3,h4,h5⟩:=E.hi
  refine wpList_append_lies _ hg s x T ho base e i z 1 bytes E.ht h1 h2 h3 h4 h5 (by decide) v n xs hs (hown.alloc _) ⟨w.heap.size,0,none⟩ 1 1 [u] hx rfl (World.news_of_block (heap_alloc_new w _)) (by intro y hy;simp only [List.mem_cons,List.not_mem_nil,or_false] at hy;subst hy;exact hu) (by decide) hn2 hn (by simp;omega) (w.heap.size+1) (by simp) ?_
  intro g cap w' ho' hg' hat _
  exact hK g cap w' ho' (((Below.refl base w).alloc hbase _).grown hg' (by simp;omega) fun k hk=>(hown.lt k hk).1) hat
theorem row_short (h:w.ownsRow base e 1 (.slice (some ⟨g,0,none⟩) (n+1) cap) (n+1) (xs++[v])):w.ownsRow base e 1 (.slice (some ⟨g,0,none⟩) n cap) n xs:=by
  obtain ⟨h1,h2⟩:=h
  have hl:xs.length=n:=by simpa using h1
  refine ⟨by omega, .inr ?_⟩
  rcases h2 with ⟨h2,_⟩|⟨g',cap',cur,h2,hb,hg,hn,hc,hs,ht⟩
  · cases h2
  · cases h2
    refine ⟨g,cap,cur,rfl,hb,hg,by omega,hc,hs,?_⟩
    have:(cur.toList.take ((n+1)*1)).take (n*1)=xs:=by rw [ht,Nat.mul_one,← hl,List.take_left]
    rw [List.take_take] at this
    rwa [Nat.min_eq_left (by omega)] at this
theorem row_cell (h:w.ownsRow base e 1 (.slice (some ⟨g,0,none⟩) n cap) n xs){j:Nat}{u:Value}(hj:xs[j]?=some u):w.cell? ⟨g,j,none⟩=some u:=by
  have hadd:(⟨g,0,none⟩:Addr).add j=⟨g,j,none⟩:=by unfold Addr.add;split<;>simp_all
  rw [← hadd]
  exact World.ownsRow.cells h (g:=g) rfl j u hj
theorem row_below (h:w.ownsRow base e 1 v n xs){B:Nat}{w':World}(hb:Below B w w')(hB:w.heap.size≤B):w'.ownsRow base e 1 v n xs:=by
  obtain ⟨h1,h2|⟨g,cap,cur,hv,hbg,hg,h3⟩⟩:=h
  · exact ⟨h1, .inl h2⟩
  · exact ⟨h1, .inr ⟨g,cap,cur,hv,hbg,(hb.block _ (by have:=(Array.getElem?_eq_some_iff.1 hg).1;omega)).trans hg,h3⟩⟩
theorem row_set (h:w.ownsRow base e 1 (.slice (some ⟨g,0,none⟩) n cap) n xs)(j:Nat)(u:Value):(w.setCell ⟨g,j,none⟩ u).ownsRow base e 1 (.slice (some ⟨g,0,none⟩) n cap) n (xs.set j u):=(World.ownsRow.stored h j u).1
theorem row_form (h:w.ownsRow base e 1 v n xs):∃ A c,v=.slice A n c∧n≤c∧c≤maxLen:=by
  rcases h.2 with ⟨rfl,rfl⟩|⟨g,cap,cur,rfl,_,_,h1,h2,_⟩
  · exact ⟨none,0,rfl,Nat.le_refl _,by decide⟩
  · exact ⟨_,cap,rfl,h1,h2⟩
theorem row_base (h:w.ownsRow base e 1 (.slice (some ⟨g,0,none⟩) n cap) n xs):base≤g∧g<w.heap.size:=h.lt g rfl
end
section
variable {T e:TypeId} {bytes:Nat} {w:World}
theorem run_cat (E:ElT T e bytes)(ty:TypeId)(base n:Nat)(v:Value)(xs:List Value)(hown:w.ownsRow base e 1 v n xs)(base2 m:Nat)(v2:Value)(ys:List Value)(hown2:w.ownsRow base2 e 1 v2 m ys)(hu:∀ u∈ys,u.oneCell'=true)
    (hn:(n+m)*bytes≤140737488355328) (hn2:n+m≤maxLen) (hbase:base≤w.heap.size):∃ v' w',(Builtin.append_ #[T,T] ty #[v,v2]).run Tryz.prog w=.ok v' w'∧w'.ownsRow base e 1 v' (n+m) (xs++ys)∧Below base w w':=by
  obtain ⟨i,z,h1,h2,h3,h4,h5⟩:=E.hi
  rcases hown2.2 with ⟨rfl,rfl⟩|⟨g,cap,cur,rfl,hbg,hg,hnc,hcm,hcs,ht⟩
  · have hy:ys=[]:=List.length_eq_zero_iff.1 (by have:=hown2.1;omega)
    subst hy
    refine ⟨v,w,?_,by simpa using hown,Below.refl _ _⟩
    rcases hown.2 with ⟨rfl,rfl⟩|⟨g,cap,cur,rfl,_,_,hnc,_⟩
    · simp [Builtin.append_,run_underlying E.ht,sizeOf,typeInfo,h1,Builtin.lenOf,Builtin.firstCells]
    · simp [Builtin.append_,run_underlying E.ht,sizeOf,typeInfo,h1,Builtin.lenOf,Builtin.firstCells,hnc,storeCells]
  · obtain ⟨v',w',hr,ho,hgr,_⟩:=run_append_own w base T ty e i z 1 bytes E.ht h1 h2 h3 h4 h5 (by decide) v n xs hown ⟨g,0,none⟩ m cap ys (by have:=hown2.1;omega) (World.ownsRow.cells hown2 rfl) hu hn2 hn hbase
    exact ⟨v',w',hr,ho,(Below.refl base w).grown hgr hbase fun k hk=>(hown.lt k hk).1⟩
theorem step_cat (E:ElT T e bytes){ops:Array Oper}{o:Oper}{a:Act}{K:Act→World→Prop}{Q:Exit→Act→World→Prop}{EE:Prop}(hgd:o.guard=none)(s x:Operand)
    (ho:o.op=.call { callee:=.builtin .append,args:=#[s,x],argTypes:=#[T,T] }) (base n:Nat) (v:Value) (xs:List Value) (hs:a.eval s=v) (hown:w.ownsRow base e 1 v n xs) (base2 m:Nat) (v2:Value) (ys:List Value) (hx:a.eval x=v2)
    (hown2:w.ownsRow base2 e 1 v2 m ys) (hu:∀ u∈ys,u.oneCell'=true) (hn:(n+m)*bytes≤140737488355328) (hn2:n+m≤maxLen) (hbase:base≤w.heap.size)
    (h:∀ v' w',w'.ownsRow base e 1 v' (n+m) (xs++ys)→Below base w w'→K (a.put o.dst v') w'):if Region.wanted o (yielded ops a.tmps)=true then Oper.wp Tryz.prog o a w K Q else EE:=by
  have hw:Region.wanted o (yielded ops a.tmps)=true:=by simp [Region.wanted,hgd]
  rw [if_pos hw]
  obtain ⟨v',w',hr,h2,h3⟩:=run_cat E o.type base n v xs hown base2 m v2 ys hown2 hu hn hn2 hbase
  unfold Oper.wp execOp
  simp only [ho,resolve,invoke,builtin,Sem.run_bind,Sem.run_pure,Result.andThen_ok,List.map_toArray,List.map_cons,List.map_nil,hs,hx,hr]
  exact h v' w' h2 h3
end
abbrev u8r (l:List Int):List Value:=l.map (Value.int .u8)
abbrev BytesR (w:World)(base:Nat)(v:Value)(xs:List Int):Prop:=w.ownsRow base 5 1 v xs.length (u8r xs)
theorem BytesR.made (w:World)(n:Nat)(hn:n≤maxLen):BytesR (w.alloc (.cells (madeCells #[.int .u8 0] n) 5 (0,0))) w.heap.size (.slice (some ⟨w.heap.size,0,none⟩) n n) (List.replicate n 0):=by
  unfold BytesR
  rw [List.length_replicate]
  refine ⟨by simp, .inr ⟨w.heap.size,n,_,rfl,Nat.le_refl _,heap_alloc_new w _,Nat.le_refl _,hn,by simp [size_madeCells],?_⟩⟩
  rw [Nat.mul_one,List.take_of_length_le (by simp [size_madeCells])]
  apply List.ext_getElem (by simp [madeCells])
  intro i h1 h2
  simp [madeCells,Nat.mod_one]
theorem BytesR.set {w:World}{base g n cap:Nat}{xs:List Int}(h:BytesR w base (.slice (some ⟨g,0,none⟩) n cap) xs)(hn:n=xs.length)(j:Nat)(c:Int):BytesR (w.setCell ⟨g,j,none⟩ (.int .u8 c)) base (.slice (some ⟨g,0,none⟩) n cap) (xs.set j c):=by
  subst hn
  have:=row_set h j (.int .u8 c)
  unfold BytesR
  rw [List.length_set,u8r,List.map_set]
  exact this
theorem BytesR.cell {w:World}{base g n cap:Nat}{xs:List Int}(h:BytesR w base (.slice (some ⟨g,0,none⟩) n cap) xs)(hn:n=xs.length){j:Nat}(hj:j<n):∃ c,w.cell? ⟨g,j,none⟩=some (.int .u8 c):=by
  subst hn
  exact ⟨xs[j],row_cell h (by simp [u8r,List.getElem?_eq_getElem hj])⟩
theorem conv_own {w:World}{base n:Nat}{v:Value}{xs:List Int}(h:w.ownsRow base 5 1 v n (u8r xs))(hn:n=xs.length):(convert 132 9 v).run Tryz.prog w=.ok (.string (strOfNums xs)) w:=by
  rcases Go.Joins.ownsRow_forms h with ⟨rfl,h0⟩|⟨g,cap,rfl⟩
  · have:xs=[]:=List.length_eq_zero_iff.1 (by omega)
    subst this
    have:=run_convert_bytes_nil (P:=Tryz.prog) w 132 5 Tryz.underlying132 Tryz.underlying5 0 0 9 Tryz.underlying9
    exact this
  · exact run_convert_bytes_arg (P:=Tryz.prog) w 132 5 Tryz.underlying132 Tryz.underlying5 g 0 n cap xs hn.symm (fun i hi=>by
      rw [Nat.zero_add,h.cellAt i (by omega)]
      simp only [u8r,List.getElem?_map,List.getElem?_eq_getElem (show i<xs.length by omega),Option.map_some]
      simp [List.getD,List.getElem?_eq_getElem (show i<xs.length by omega)]) 9 Tryz.underlying9
theorem strOfNums_size (l:List Int):(strOfNums l).size=l.length:=by simp [strOfNums,ByteArray.size]
theorem makeB (w:World)(n:Nat)(hn:n≤1000000):(Instr.makeSlice 132 (.int .i64 (n:Int)) (.int .i64 (n:Int))).run Tryz.prog w=.ok (.slice (some ⟨w.heap.size,0,none⟩) n n) (w.alloc (.cells (madeCells #[.int .u8 0] n) 5 (0,0))):=
  run_make_row' 132 5 (.int .u8 0) 1 Tryz.underlying132 (by kernel_rfl) rfl .i64 .i64 n (by omega) (by omega) w
theorem elText:ElT 29 9 16:=ElT.mk' Tryz.underlying29 (z:=.string ByteArray.empty) (by kernel_rfl) rfl
abbrev TextsR (w:World)(base:Nat)(v:Value)(l:List ByteArray):Prop:=w.ownsRow base 9 1 v l.length (l.map Value.string)
theorem elTree:ElT 226 153 16:=ElT.mk' Tryz.underlying226 (z:=.nilIface) (by kernel_rfl) rfl
def signsB:List ByteArray:=[⟨#[33,61]⟩,⟨#[60,61]⟩,⟨#[62,61]⟩,⟨#[46,46]⟩,⟨#[45,62]⟩,⟨#[40]⟩,⟨#[41]⟩,⟨#[33]⟩,⟨#[61]⟩,⟨#[60]⟩,⟨#[62]⟩,⟨#[38]⟩,⟨#[124]⟩,⟨#[44]⟩,⟨#[58]⟩,⟨#[47]⟩]
def signsA:Array Value:=(signsB.map Value.string).toArray
def usedL:List Bool:=[false,false,false,false,true,false,false,false,true,false,true,false,true,true,false,false,false,false,false,true]
def usedA:Array Value:=(usedL.map Value.bool).toArray
structure Env (w:World):Prop where
  maxlen:∃ m,w.cell? ⟨5,0,none⟩=some (.int .i64 m)
  errS:∃ ev,w.cell? ⟨10,0,none⟩=some ev∧(ev=.nilIface∨∃ te pe,ev=.iface te pe)
  u8:Lib.Utf8Tabs 3 4 w
  signs:∃ t fr,w.heap[9]?=some (.cells signsA t fr)
  used:∃ t fr,w.heap[6]?=some (.cells usedA t fr)
  pow : Lib.TabIs Tryz.prog w "internal/strconv.uint64pow10" .u64 Lib.pow10Tab
  asp : Lib.TabIs Tryz.prog w "strings.asciiSpace" .u8 Lib.asciiSpaceTab
  wht:Lib.WhiteTab 1 w
theorem cell_below {w w':World}(hb:Below w.heap.size w w'){a:Addr}{v:Value}(h:w.cell? a=some v):w'.cell? a=some v:=
  (hb.cell (World.block_lt_of_cell? w a h)).trans h
theorem Env.below {w w':World}(h:Env w)(hb:Below w.heap.size w w'):Env w' where
  maxlen:=let ⟨m,hm⟩:=h.maxlen;⟨m,cell_below hb hm⟩
  errS:=let ⟨ev,h1,h2⟩:=h.errS;⟨ev,cell_below hb h1,h2⟩
  u8:=⟨fun c hc=>cell_below hb (h.u8.1 c hc),fun i hi=>⟨cell_below hb (h.u8.2 i hi).1,cell_below hb (h.u8.2 i hi).2⟩⟩
  signs:=let ⟨t,fr,hs⟩:=h.signs;⟨t,fr,(hb.block _ (Array.getElem?_eq_some_iff.1 hs).1).trans hs⟩
  used:=let ⟨t,fr,hs⟩:=h.used;⟨t,fr,(hb.block _ (Array.getElem?_eq_some_iff.1 hs).1).trans hs⟩
  pow:=Lib.tabBelow_of_tabIs h.pow _ hb
  asp:=Lib.tabBelow_of_tabIs h.asp _ hb
  wht:=by
    obtain ⟨T,oT,R,oR,h1,h2,h3,h4,h5⟩:=h.wht
    exact ⟨T,oT,R,oR,cell_below hb h1,cell_below hb h2,cell_below hb h3,cell_below hb h4,fun i hi=>cell_below hb (h5 i hi)⟩
theorem Env.drewN {w:World}(h:Env w)(n:Nat):Env (w.drewN n):=h.below (below_drewN (Below.refl _ _) n)
theorem Env.use {w:World}(h:Env w)(i:Nat)(b:Bool)(hb:usedL[i]?=some b):w.cell? ⟨6,i,none⟩=some (.bool b):=by
  obtain ⟨t,fr,hs⟩:=h.used
  rw [cell_of_row w _ i _ _ fr hs]
  simp [usedA,hb]
theorem Env.uses {w:World}(h:Env w)(i j k m:Nat){a b c d:Bool}(h0:usedL[i]?=some a)(h1:usedL[j]?=some b)(h2:usedL[k]?=some c)(h3:usedL[m]?=some d):w.cell? ⟨6,i,none⟩=some (.bool a)∧w.cell? ⟨6,j,none⟩=some (.bool b)∧w.cell? ⟨6,k,none⟩=some (.bool c)∧w.cell? ⟨6,m,none⟩=some (.bool d):=
  ⟨h.use i a h0,h.use j b h1,h.use k c h2,h.use m d h3⟩
end Go.Proofs.YtdhehcobnbcmdaaGreatDoor
