import Derived.Test.YtegbdigfbklkaaaGreatDoorQAT
namespace Go.Proofs.YtegbdigfbklkaaaGreatDoor
set_option linter.all false
set_option maxHeartbeats 40000000
set_option maxRecDepth 100000
section
open Go.RowKit
variable {w:World}
attribute [local simp] ByteArray.mk_append_mk
theorem spelt_walk (k:Int) (t:List UInt8) (ht:t.length≤65536) (hT:Tabs w):Calls Tryz.prog 20 #[.int .u8 k,.string ⟨t.toArray⟩] w (fun e w'=>e=.returned (.bool (spellB k t))∧Below w.heap.size w w'):=by
 have hb:=Below.refl w.heap.size w
 have hNm:=name_walk (w:=w) t (by omega) hT
 have hVl:=qvalue_walk (w:=w) t ht hT
 have hKd:=fun w=>Num.kind_any t w (by omega)
 have hWd:=fun w=>words_walk (w:=w) k
 have hC1:=fun w=>Tryz.strings_Contains_one ⟨t.toArray⟩ 32 w
 obtain⟨mx,hmx⟩:=hT.2
 have hC2:=fun (w:World) hm=>Tryz.strings_Contains ⟨(wordsT k).toArray⟩ ⟨(32::(t++[32])).toArray⟩ mx w (by unfold wordsT;(repeat' split) <;> decide) hm
 have HMX:=Lib.hid hmx
 clear hmx hT
 cases d1:(k==26) with
 | true =>
  have e:spellB k t=nameB t:=by unfold spellB;rw [d1];rfl
  rw [e]
  go_enter Tryz.func20,Tryz.ntmps20
  go_wp2_with (go_at_call 26;refine hNm.mono ?_;rintro e w1 ⟨rfl,hb1⟩)
  go_ret
  exact⟨rfl,hb1⟩
 | false =>
 cases d2:(k==27) with
 | true =>
  have e:spellB k t=((valueQ t).2==0||Num.kindL t != 0):=by unfold spellB;rw [d1,d2];rfl
  rw [e]
  generalize valueQ t=vq at *
  generalize Num.kindL t=nk at *
  cases e1:(vq.2==0)
  ·go_enter Tryz.func20,Tryz.ntmps20
   go_wp2_with (first|(go_at_call 27;refine hVl.mono ?_;rintro e w1 ⟨rfl,hb1⟩)|(go_at_call 28;refine (hKd _).mono ?_;rintro e w2 ⟨rfl,hb2⟩))
   go_ret
   exact⟨rfl,bthen hb1 hb2⟩
  ·go_enter Tryz.func20,Tryz.ntmps20
   go_wp2_with (first|(go_at_call 27;refine hVl.mono ?_;rintro e w1 ⟨rfl,hb1⟩)|(go_at_call 28;refine (hKd _).mono ?_;rintro e w2 ⟨rfl,hb2⟩))
   go_ret
   exact⟨rfl,hb1⟩
 | false =>
 cases d3:(k==5) with
 | true =>
  have e:spellB k t=(t==[]||t==[46]):=by unfold spellB;rw [d1,d2,d3];rfl
  rw [e]
  cases e1:(t==[]) <;> cases e2:(t==[46])
  all_goals
   go_enter Tryz.func20,Tryz.ntmps20
   go_wp2_with fail
   go_ret
   exact⟨rfl,hb⟩
 | false =>
 cases d4:(k==7) with
 | true =>
  have e:spellB k t=(t==[]||t==[61]):=by unfold spellB;rw [d1,d2,d3,d4];rfl
  rw [e]
  cases e1:(t==[]) <;> cases e2:(t==[61])
  all_goals
   go_enter Tryz.func20,Tryz.ntmps20
   go_wp2_with fail
   go_ret
   exact⟨rfl,hb⟩
 | false =>
 cases d5:(k==15||k==34) with
 | true =>
  have e:spellB k t=(t==[]||t==[46,46,46]):=by unfold spellB;rw [d1,d2,d3,d4,d5];rfl
  rw [e]
  have d6:(k==15)=true∨(k==15)=false∧(k==34)=true:=by cases h:(k==15) <;> simp_all
  clear d5 e
  rcases d6 with d6|⟨d6,d7⟩ <;> cases e1:(t==[]) <;> cases e2:(t==[46,46,46])
  all_goals
   go_enter Tryz.func20,Tryz.ntmps20
   go_wp2_with fail
   go_ret
   exact⟨rfl,hb⟩
 | false =>
 have d6:(k==15)=false:=by cases h:(k==15) <;> simp_all
 have d7:(k==34)=false:=by cases h:(k==34) <;> simp_all
 cases d8:(k==66) with
 | true =>
  have e:spellB k t=(t==[]||t==[61]||t==[58,61]):=by unfold spellB;rw [d1,d2,d3,d4,d5,d8];rfl
  rw [e]
  clear d5
  cases e1:(t==[]) <;> cases e2:(t==[61]) <;> cases e3:(t==[58,61])
  all_goals
   go_enter Tryz.func20,Tryz.ntmps20
   go_wp2_with fail
   go_ret
   exact⟨rfl,hb⟩
 | false =>
 have e:spellB k t=if wordsT k==[] then t==[] else !(t==[])&&!decide (0≤Lib.indexByte t 32)&&Lib.contains (wordsT k) (32::(t++[32])):=by unfold spellB;rw [d1,d2,d3,d4,d5,d8];rfl
 rw [e]
 clear d5 e
 generalize wordsT k=ws at *
 cases d9:(ws==[]) with
 | true =>
  rw [if_pos rfl]
  go_enter Tryz.func20,Tryz.ntmps20
  go_wp2_with (go_at_call 29;refine (hWd _).mono ?_;rintro e w1 ⟨rfl,hw1⟩;replace hw1:=hw1.symm;subst hw1)
  go_ret
  refine⟨?_,hb⟩
  cases t <;> rfl
 | false =>
  rw [if_neg (by simp)]
  generalize Lib.contains ws (32::(t++[32]))=cn at *
  simp only [] at hC1
  generalize decide (0≤Lib.indexByte t 32)=ib at *
  cases e1:(t==[]) <;> cases ib
  all_goals
   go_enter Tryz.func20,Tryz.ntmps20
   go_wp2_with (first|(go_at_call 29;refine (hWd _).mono ?_;rintro e w1 ⟨rfl,hw1⟩;replace hw1:=hw1.symm;subst hw1)|(go_at_call 30;refine (hC1 _).mono ?_;rintro e w2 ⟨rfl,hw2⟩;replace hw2:=hw2.symm;subst hw2)|(go_at_call 30;refine (hC2 _ HMX.out).mono ?_;rintro e w3 ⟨rfl,hw3⟩;replace hw3:=hw3.symm;subst hw3))
   go_ret
   exact⟨rfl,hb⟩
end
end Go.Proofs.YtegbdigfbklkaaaGreatDoor
