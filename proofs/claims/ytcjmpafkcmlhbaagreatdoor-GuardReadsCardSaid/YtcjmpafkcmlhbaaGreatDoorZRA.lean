import Derived.Deep.Onto
import Derived.Test.YtcjmpafkcmlhbaaGreatDoorQAK
import Derived.Handy
import Derived.Test.YtcjmpafkcmlhbaaGreatDoorQBW
namespace Go.Proofs.YtcjmpafkcmlhbaaGreatDoor
set_option linter.all false
set_option maxHeartbeats 40000000
set_option maxRecDepth 100000
namespace Grd
open Go.RowKit
def WithOk (q:Pt) (k:Fo) (fr:List Int) (w:World) (e:Ending) (w':World):Prop :=
 Below w.heap.size w w'∧∃ vo vn,e=.returned (.tuple #[vo,vn,.int .i64 0])∧w'.ownsRow w.heap.size 39 3 vo (ptsOf (guardO q k)).length (pcells (ptsOf (guardO q k))) ∧
  w'.ownsRow w.heap.size 3 1 vn (numsOf fr (guardO q k)).length (zvs (numsOf fr (guardO q k)))
theorem With_bad (a fa:Option Addr) (cap fcap:Nat) (l:List Pt) (fr:List Int) (w:World) (hl:l.length≤1099511627776) (h:PartsAt w a l) (hb:wellL (l.map Pt.n)=false) :
  Calls Tryz.prog 24 #[.slice a l.length cap,.slice fa fr.length fcap] w fun e w'=>e=.returned (.tuple #[.slice none 0 0,.slice none 0 0,.int .i64 8])∧Below w.heap.size w w':=by
 have HE:=Lib.hid (Well_gen a cap l w hl h)
 rw [hb] at HE
 go_enter Tryz.func24,Tryz.ntmps24
 go_wp2_with fail
 refine HE.out.mono ?_
 rintro e w1 ⟨rfl,hb⟩
 go_wp2_with fail
 go_ret3
 exact⟨rfl,hb⟩
theorem With_len (a fa:Option Addr) (cap fcap:Nat) (l:List Pt) (fr:List Int) (w:World) (hl:l.length≤1099511627776) (h:PartsAt w a l) (hb:wellL (l.map Pt.n)=true) (hne:fr.length≠l.length) :
  Calls Tryz.prog 24 #[.slice a l.length cap,.slice fa fr.length fcap] w fun e w'=>e=.returned (.tuple #[.slice none 0 0,.slice none 0 0,.int .i64 1])∧Below w.heap.size w w':=by
 have HE:=Lib.hid (Well_gen a cap l w hl h)
 rw [hb] at HE
 have hd:((fr.length:Int)==(l.length:Int))=false:=by rw [beq_eq_false_iff_ne];omega
 clear hne
 go_enter Tryz.func24,Tryz.ntmps24
 go_wp2_with fail
 refine HE.out.mono ?_
 rintro e w1 ⟨rfl,hb⟩
 go_wp2_with fail
 go_ret3
 exact⟨rfl,hb⟩
theorem With_ok (a fa:Option Addr) (cap fcap:Nat) (q:Pt) (k:Fo) (m:Int) (l:List Pt) (fr:List Int) (w:World) (hl:l.length≤1099511627776) (hw:∀ q∈l,q.w.length≤1125899906842624) (h:PartsAt w a l)
  (hf:IntsAt w fa fr) (hm:w.cell? ⟨0,0,none⟩=some (.int .i64 m)) (hb:wellL (l.map Pt.n)=true) (hlen:fr.length=l.length) (hq:l=q::k.flat) (hk:(k.count:Int)=q.n) (hg:k.good) :
  Calls Tryz.prog 24 #[.slice a l.length cap,.slice fa fr.length fcap] w (WithOk q k fr w):=by
 have HE:=Lib.hid (Well_gen a cap l w hl h)
 rw [hb] at HE
 have hl0:l≠[]:=by rw [hq];simp
 have hf0:fr≠[]:=fun e=>by rw [e] at hlen;exact hl0 (List.eq_nil_of_length_eq_zero hlen.symm)
 obtain⟨b,off,rfl,hbs,hcb⟩:=h.resolve_left hl0
 obtain⟨fb,foff,rfl,hfs,hcf⟩:=hf.resolve_left hf0
 have hd:((fr.length:Int)==(l.length:Int))=true:=by rw [beq_iff_eq];omega
 have HL:=Lib.hid hlen
 rw [hlen]
 have hd:((l.length:Int)==(l.length:Int))=true:=by simp
 have HQ:=Lib.hid (And.intro hq (And.intro hk hg))
 have HB:=Lib.hid (And.intro hcb hcf)
 clear h hf hl0 hf0 hlen hq hk hg hcb hcf
 go_enter Tryz.func24,Tryz.ntmps24
 go_wp2_with fail
 refine HE.out.mono ?_
 rintro e w1 ⟨rfl,hb1⟩
 go_wp2_with fail
 have hB2:Below w1.heap.size w1 (w1.alloc (Obj.cells #[.slice (some ⟨b,off,none⟩) l.length cap,.slice (some ⟨fb,foff,none⟩) l.length fcap,.slice none 0 0,.slice none 0 0,.int .i64 0] 89)):=(Below.refl _ _).alloc (Nat.le_refl _) _
 have hC0:Cop w1.heap.size (.slice (some ⟨b,off,none⟩) l.length cap) (.slice (some ⟨fb,foff,none⟩) l.length fcap) (.slice none 0 0) (.slice none 0 0) ((0:Nat):Int) [] [] (w1.alloc (Obj.cells #[.slice (some ⟨b,off,none⟩) l.length cap,.slice (some ⟨fb,foff,none⟩) l.length fcap,.slice none 0 0,.slice none 0 0,.int .i64 0] 89)) :=
  ⟨heap_alloc_new w1 _,World.ownsRow_nil _ _ _ _,World.ownsRow_nil _ _ _ _,fun g h=>by cases h⟩
 have hb3:=bthen hb1 hB2
 have hL0:Lay w1.heap.size b off fb foff m l fr (w1.alloc (Obj.cells #[.slice (some ⟨b,off,none⟩) l.length cap,.slice (some ⟨fb,foff,none⟩) l.length fcap,.slice none 0 0,.slice none 0 0,.int .i64 0] 89)):=by
  have:=hb1.size
  have h0:=World.block_lt_of_cell? w _ hm
  refine⟨Nat.lt_of_lt_of_le h0 hb1.size,by omega,by omega,HL.out,?_,fun j p hj=>?_,fun j n hj=>?_⟩
  ·rw [hb3.cell h0];exact hm
  ·rw [hb3.cell (p:=⟨b,off+j*3,none⟩) hbs,hb3.cell (p:=⟨b,off+j*3+1,none⟩) hbs,hb3.cell (p:=⟨b,off+j*3+2,none⟩) hbs];exact HB.out.1 j p hj
  ·rw [hb3.cell (p:=⟨fb,foff+j,none⟩) hfs];exact HB.out.2 j n hj
 have hput:=put_all w1.heap.size b off cap fb foff fcap m l fr hl hw (k.size+1) k q 0 [] [] [] _ _ _ (by omega) HQ.out.2.1 HQ.out.2.2 (by rw [List.drop_zero,HQ.out.1,List.append_nil]) (by simp) rfl hC0 hL0
 refine hput.mono ?_
 rintro e w9 ⟨vo,vn,rfl,hC9,hT9⟩
 have hB9:Below w.heap.size w w9:=by
  have hs:=hb1.size
  have hs9:=hT9.size
  simp at hs9
  refine⟨hT9.os.trans hb3.os,hT9.tape.trans hb3.tape,hT9.output.trans hb3.output,by omega,fun i hi=>?_⟩
  rw [hT9.block i (by simp;omega) (by omega) (by simp [Value.ownBlock]) (by simp [Value.ownBlock]),hb3.block i hi]
 clear hput hC0 hL0 hT9 hB2 hb3
 generalize hcc:w1.heap.size=c at *
 have hcw:w.heap.size≤c:=by have:=hb1.size;omega
 obtain⟨c0,c1,c2,c3,c4,hc9⟩:=hC9.cell
 go_wp2_with fail
 go_region_held3 (fun w'=>w'.cell? ⟨c,2,none⟩=some vo∧w'.cell? ⟨c,3,none⟩=some vn) (go_keep) (first|fail)
 go_wp2_with fail
 go_ret3
 exact⟨hB9.drew,vo,vn,rfl,hC9.own.mono (by omega),hC9.onn.mono (by omega)⟩
end Grd
namespace Grd
open Go.RowKit
def zeros (n:Nat):List Int:=List.replicate n 0
def PutOk (q:Pt) (k:Fo) (w:World) (e:Ending) (w':World):Prop :=
 Below w.heap.size w w'∧∃ vo,e=.returned (.tuple #[vo,.int .i64 0])∧w'.ownsRow w.heap.size 39 3 vo (ptsOf (guardO q k)).length (pcells (ptsOf (guardO q k)))
theorem IntsAt_made {w:World}{base g n:Nat} (h:w.ownsRow base 3 1 (.slice (some ⟨g,0,none⟩) n n) n (zer n)) (hn:g < w.heap.size):IntsAt w (some ⟨g,0,none⟩) (zeros n):=by
 refine .inr ⟨g,0,rfl,hn,fun j x hj=>?_⟩
 have hjn:j < n:=by
  rcases Nat.lt_or_ge j n with h|h
  ·exact h
  ·rw [zeros,List.getElem?_eq_none (by simpa using h)] at hj;cases hj
 have hx:x=0:=by
  rw [zeros,List.getElem?_replicate,if_pos hjn] at hj;cases hj;rfl
 have:=h.cellAt j (by omega)
 rw [Nat.zero_add,this,zer,List.getElem?_replicate,if_pos hjn,hx]
theorem zeros_len (n:Nat):(zeros n).length=n:=by simp [zeros]
theorem made_zer (n:Nat):(madeCells (Value.int IntKind.i64 0).cells (n*1)).toList=zer n:=by
 rw [show (Value.int IntKind.i64 0).cells=#[Value.int IntKind.i64 0] from rfl,toList_madeCells_one];simp [zer]
theorem Put_bad (a:Option Addr) (cap:Nat) (l:List Pt) (w:World) (hl:l.length≤1099511627776) (h:PartsAt w a l) (hb:wellL (l.map Pt.n)=false) :
  Calls Tryz.prog 11 #[.slice a l.length cap] w fun e w'=>e=.returned (.tuple #[.slice none 0 0,.int .i64 8])∧Below w.heap.size w w':=by
 obtain⟨i0,hi,hz0,hz1,hz2⟩:=info_parts Tryz.infoI3
 go_enter Tryz.func11,Tryz.ntmps11
 go_wp2_with (refine wpList_make_full _ rfl _ _ 51 rfl w.heap.size 3 i0 (.int .i64 0) 1 Tryz.underlying51 hi hz0 hz1 .i64 .i64 l.length l.length l.length rfl rfl rfl rfl (by rw [hz2];omega) (by unfold maxLen;omega) (Nat.le_refl _) ?_;intro w1 hown hgrow)
 have hb1:Below w.heap.size w w1:=(Below.refl _ _).grown hgrow (Nat.le_refl _) (fun k h=>by cases h)
 have hW:=With_bad a (some ⟨w.heap.size,0,none⟩) cap l.length l (zeros l.length) w1 hl (h.later hb1) hb
 rw [zeros_len] at hW
 clear hown hgrow h
 refine hW.mono ?_
 rintro e w2 ⟨rfl,hb2⟩
 have hb3:=bthen hb1 hb2
 clear hW hb1 hb2
 go_wp2_with fail
 go_ret2
 exact⟨rfl,hb3⟩
theorem Put_ok (a:Option Addr) (cap:Nat) (q:Pt) (k:Fo) (m:Int) (l:List Pt) (w:World) (hl:l.length≤1099511627776) (hw:∀ q∈l,q.w.length≤1125899906842624) (h:PartsAt w a l)
  (hm:w.cell? ⟨0,0,none⟩=some (.int .i64 m)) (hb:wellL (l.map Pt.n)=true) (hq:l=q::k.flat) (hk:(k.count:Int)=q.n) (hg:k.good) :
  Calls Tryz.prog 11 #[.slice a l.length cap] w (PutOk q k w):=by
 have HQ:=Lib.hid (And.intro hq (And.intro hk hg))
 clear hq hk hg
 obtain⟨i0,hi,hz0,hz1,hz2⟩:=info_parts Tryz.infoI3
 go_enter Tryz.func11,Tryz.ntmps11
 go_wp2_with (refine wpList_make_full _ rfl _ _ 51 rfl w.heap.size 3 i0 (.int .i64 0) 1 Tryz.underlying51 hi hz0 hz1 .i64 .i64 l.length l.length l.length rfl rfl rfl rfl (by rw [hz2];omega) (by unfold maxLen;omega) (Nat.le_refl _) ?_;intro w1 hown hgrow)
 have hb1:Below w.heap.size w w1:=(Below.refl _ _).grown hgrow (Nat.le_refl _) (fun k h=>by cases h)
 have hfa:IntsAt w1 (some ⟨w.heap.size,0,none⟩) (zeros l.length):=by
  rw [made_zer] at hown
  exact IntsAt_made hown (hown.lt _ rfl).2
 have hm1:=keepCell hb1 hm
 have hW:=With_ok a (some ⟨w.heap.size,0,none⟩) cap l.length q k m l (zeros l.length) w1 hl hw (h.later hb1) hfa hm1 hb (zeros_len _) HQ.out.1 HQ.out.2.1 HQ.out.2.2
 rw [zeros_len] at hW
 clear hown hgrow h hfa
 refine hW.mono ?_
 rintro e w2 ⟨hb2,vo,vn,rfl,ho,_⟩
 have hb3:=bthen hb1 hb2
 have ho2:=ho.mono (base':=w.heap.size) (by have:=hb1.size;omega)
 clear hW hb1 hb2 ho hm1
 go_wp2_with fail
 go_ret2
 exact⟨hb3,vo,rfl,ho2⟩
end Grd
namespace Grd
open Go.RowKit
theorem name_any (l:List UInt8) (w:World) :
    Calls Tryz.prog 22 #[.string ⟨l.toArray⟩] w fun e w'=>e=.returned (.agg #[.int .u8 26,.int .i64 0,.string ⟨l.toArray⟩])∧Below w.heap.size w w':=by
  have hb:Below w.heap.size w (w.alloc (Obj.cells #[.int .u8 0,.int .i64 0,.string ByteArray.empty] 39)):=(Below.refl _ _).alloc (Nat.le_refl _) _
  go_enter Tryz.func22,Tryz.ntmps22
  go_wp2_with fail
  go_returns
  exact⟨rfl,(Below.refl _ _).alloc (Nat.le_refl _) _⟩
theorem pcells_at:∀ (l:List Pt) (j:Nat) (p:Pt) (d:Nat),l[j]?=some p→d < 3→(pcells l)[j*3+d]?=p.cells[d]?
  | [],_,_,_,h,_=>by simp at h
  | q::l,0,p,d,h,hd=>by
    simp only [List.getElem?_cons_zero,Option.some.injEq] at h
    subst h
    simp only [pcells,List.flatMap_cons,Nat.zero_mul,Nat.zero_add]
    rw [List.getElem?_append_left (by simp [Pt.cells];omega)]
  | q::l,j+1,p,d,h,hd=>by
    rw [List.getElem?_cons_succ] at h
    have:=pcells_at l j p d h hd
    simp only [pcells,List.flatMap_cons] at this ⊢
    rw [List.getElem?_append_right (by simp [Pt.cells];omega)]
    rw [← this];congr 1;simp [Pt.cells];omega
theorem PartsAt.of_block {w:World}{g:Nat}{l:List Pt} (hg:g < w.heap.size) (h:∀ j,j < l.length*3→w.cell? ⟨g,j,none⟩=(pcells l)[j]?):PartsAt w (some ⟨g,0,none⟩) l:=by
  refine .inr ⟨g,0,rfl,hg,fun j p hj=>?_⟩
  have hjl:j < l.length:=by
    rcases Nat.lt_or_ge j l.length with h|h
    · exact h
    · rw [List.getElem?_eq_none h] at hj;cases hj
  have e0:=h (j*3+0) (by omega);have e1:=h (j*3+1) (by omega);have e2:=h (j*3+2) (by omega)
  rw [pcells_at l j p _ hj (by omega)] at e0 e1 e2
  refine⟨?_,?_,?_⟩
  · rw [Nat.zero_add];exact e0
  · rw [Nat.zero_add];exact e1
  · rw [Nat.zero_add];exact e2
theorem PartsAt.sub {w:World}{g off:Nat}{l:List Pt} (h:PartsAt w (some ⟨g,off,none⟩) l) (k:Nat) (hk:k < l.length):PartsAt w (some ⟨g,off+k*3,none⟩) (l.drop k):=by
  rcases h with rfl|⟨b,o,e,hb,hc⟩
  · simp at hk
  · cases e
    refine .inr ⟨g,off+k*3,rfl,hb,fun j p hj=>?_⟩
    rw [List.getElem?_drop] at hj
    have:=hc (k+j) p hj
    rw [show off+(k+j)*3=off+k*3+j*3 from by omega] at this
    exact this
theorem own_parts {w:World}{base:Nat}{v:Value}{l:List Pt} (h:w.ownsRow base 39 3 v l.length (pcells l)):∃ a cap,v=.slice a l.length cap∧PartsAt w a l:=by
  by_cases h0:l=[]
  · subst h0
    rcases own_shape h with ⟨a,cap,rfl⟩
    exact⟨a,cap,rfl,.inl rfl⟩
  · obtain⟨g,cap,rfl,_⟩:=h.form (by rcases l with _|_;exact absurd rfl h0;simp)
    exact⟨_,cap,rfl,.of_block (h.lt g rfl).2 (fun j hj=>h.cellAt j hj)⟩
def L5:List Pt:=[⟨37,2,[42]⟩,⟨37,2,[43]⟩,⟨26,0,[97]⟩,⟨26,0,[98]⟩,⟨26,0,[99]⟩]
def K5:Fo:=.cons ⟨37,2,[43]⟩ (.cons ⟨26,0,[97]⟩ .nil (.cons ⟨26,0,[98]⟩ .nil .nil)) (.cons ⟨26,0,[99]⟩ .nil .nil)
theorem O5:ptsOf (guardO ⟨37,2,[42]⟩ K5)=[⟨37,2,[42]⟩,⟨28,1,[]⟩,⟨37,2,[43]⟩,⟨26,0,[97]⟩,⟨26,0,[98]⟩,⟨26,0,[99]⟩]:=by kernel_rfl
theorem W5:wellL (L5.map Pt.n)=true:=by kernel_rfl
theorem fixed_any (m:Int) (w:World) (hm:w.cell? ⟨0,0,none⟩=some (.int .i64 m)) :
    Calls Tryz.prog 10 #[] w fun e w'=>e=.returned (.bool true)∧Below w.heap.size w w':=by
  go_enter Tryz.func10,Tryz.ntmps10
  go_wp2_with fail
  refine (name_any _ _).mono ?_;rintro e w1 ⟨rfl,hb1⟩
  go_wp2_with fail
  refine (name_any _ _).mono ?_;rintro e w2 ⟨rfl,hb2⟩
  go_wp2_with fail
  refine (name_any _ _).mono ?_;rintro e w3 ⟨rfl,hb3⟩
  have hb:=bthen hb1 (bthen hb2 hb3)
  go_wp2_with fail
  have hal:=heap_alloc_new w3 (Obj.cells #[Value.int IntKind.u8 37,Value.int IntKind.i64 2,Value.string { data:=#[42] },Value.int IntKind.u8 37,
          Value.int IntKind.i64 2,Value.string { data:=#[43] },Value.int IntKind.u8 26,Value.int IntKind.i64 0,
          Value.string { data:=#[97] },Value.int IntKind.u8 26,Value.int IntKind.i64 0,
          Value.string { data:=#[98] },Value.int IntKind.u8 26,Value.int IntKind.i64 0,
          Value.string { data:=#[99] }] 39)
  have hba:=(Below.refl w3.heap.size w3).alloc (Nat.le_refl _) (Obj.cells #[Value.int IntKind.u8 37,Value.int IntKind.i64 2,Value.string { data:=#[42] },Value.int IntKind.u8 37,
          Value.int IntKind.i64 2,Value.string { data:=#[43] },Value.int IntKind.u8 26,Value.int IntKind.i64 0,
          Value.string { data:=#[97] },Value.int IntKind.u8 26,Value.int IntKind.i64 0,
          Value.string { data:=#[98] },Value.int IntKind.u8 26,Value.int IntKind.i64 0,
          Value.string { data:=#[99] }] 39)
  have hb4:=bthen hb hba
  clear hb1 hb2 hb3 hb hba
  generalize (w3.alloc (Obj.cells #[Value.int IntKind.u8 37,Value.int IntKind.i64 2,Value.string { data:=#[42] },Value.int IntKind.u8 37,
          Value.int IntKind.i64 2,Value.string { data:=#[43] },Value.int IntKind.u8 26,Value.int IntKind.i64 0,
          Value.string { data:=#[97] },Value.int IntKind.u8 26,Value.int IntKind.i64 0,
          Value.string { data:=#[98] },Value.int IntKind.u8 26,Value.int IntKind.i64 0,
          Value.string { data:=#[99] }] 39))=w4 at *
  generalize w3.heap.size=g at *
  have hg:=lt_of_block hal
  have hPA:PartsAt w4 (some ⟨g,0,none⟩) L5:=.of_block hg (fun j hj=>by rw [cell_of_some hal];simp [pcells,L5,Pt.cells])
  refine (Put_ok (some ⟨g,0,none⟩) 5 ⟨37,2,[42]⟩ K5 m L5 w4 (by decide) (by decide) hPA (keepCell hb4 hm) W5 rfl rfl (by simp [K5,Fo.good,Fo.count])).mono ?_
  rintro e w5 ⟨hb5,vo,rfl,hown⟩
  rw [O5] at hown
  obtain⟨ma,mcap,rfl,hMA⟩:=own_parts hown
  obtain⟨g2,off2,rfl,hg2,hMc⟩:=hMA.resolve_left (by simp)
  have hcap:=own_cap hown
  obtain⟨c3,c4,c5⟩:=hMc 1 ⟨28,1,[]⟩ rfl
  have hM4:=PartsAt.sub hMA 2 (by decide)
  have hPA5:=hPA.later hb5
  obtain⟨d0,d1,d2⟩:=(hPA5.resolve_left (by simp [L5])).elim (fun x hx=>by
    obtain⟨o,e,h1,h2⟩:=hx;cases e;exact h2 0 ⟨37,2,[42]⟩ rfl)
  have hL4:=PartsAt.sub hPA5 1 (by decide)
  have hm5:=keepCell (bthen hb4 hb5) hm
  have hb6:=bthen hb4 hb5
  have HS:∀ w',Below w5.heap.size w5 w'→Calls Tryz.prog 12 #[.slice (some ⟨g2,off2+6,none⟩) 4 (mcap - 2),.slice (some ⟨g,3,none⟩) 4 4] w' fun e w''=>e=.returned (.bool true)∧Below w'.heap.size w' w'':=by
    intro w' hb
    exact same_walk _ _ (mcap - 2) 4 (L5.drop 1) (by decide) (hM4.later hb) (hL4.later hb)
  have HV:∀ w',Below w5.heap.size w5 w'→Calls Tryz.prog 23 #[.agg #[.int .u8 37,.int .i64 2,.string ⟨#[42]⟩]] w' fun e w''=>e=.returned (.int .i64 5)∧Below w'.heap.size w' w'':=by
    intro w' hb
    exact level_any ⟨37,2,[42]⟩ m w' (by decide) (keepCell hb hm5)
  have hle:(6:Int)≤(mcap:Int):=by simp at hcap;omega
  have hm2:mcap≠2:=by omega
  simp only [List.length_cons,List.length_nil] at hown ⊢
  clear hown hMA hMc hM4 hPA hPA5 hL4 hal hb4 hb5 hcap
  have c3:w5.cell? ⟨g2,off2+3,none⟩=some (.int .u8 28):=c3
  have c4:w5.cell? ⟨g2,off2+3+1,none⟩=some (.int .i64 1):=c4
  have c5:w5.cell? ⟨g2,off2+3+2,none⟩=some (.string ⟨#[]⟩):=c5
  have d0:w5.cell? ⟨g,0,none⟩=some (.int .u8 37):=d0
  have d1:w5.cell? ⟨g,1,none⟩=some (.int .i64 2):=d1
  have d2:w5.cell? ⟨g,2,none⟩=some (.string ⟨#[42]⟩):=d2
  go_wp2_with fail
  go_region_held3 (fun w'=>w'.cell? ⟨g2,off2+3,none⟩=some (.int .u8 28)∧w'.cell? ⟨g2,off2+3+1,none⟩=some (.int .i64 1)∧w'.cell? ⟨g2,off2+3+2,none⟩=some (.string ⟨#[]⟩) ∧
      w'.cell? ⟨g,0,none⟩=some (.int .u8 37)∧w'.cell? ⟨g,1,none⟩=some (.int .i64 2)∧w'.cell? ⟨g,2,none⟩=some (.string ⟨#[42]⟩)∧Below w5.heap.size w5 w')
    (first
      | (refine⟨?_,?_,?_,?_,?_,?_,?_⟩
         all_goals first|assumption|exact (Below.refl _ _).drew)
      | (go_split_ands
         refine⟨?_,?_,?_,?_,?_,?_,?_⟩
         all_goals first|exact keepCell hn (by assumption)|exact bthen (by assumption) hn))
    (first
      | (go_at_call 12;go_split_ands;refine (HS _ (by assumption)).mono ?_;rintro e w' ⟨rfl,hn⟩)
      | (go_at_call 23;go_split_ands;refine (HV _ (by assumption)).mono ?_;rintro e w' ⟨rfl,hn⟩))
  go_wp2_with fail
  go_ret
  go_split_ands
  exact⟨rfl,bthen hb6 (by assumption)⟩
end Grd
end Go.Proofs.YtcjmpafkcmlhbaaGreatDoor
