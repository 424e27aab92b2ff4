import Derived.Test.YtcjmpafkcmlhbaaGreatDoorQAU
namespace Go.Proofs.YtcjmpafkcmlhbaaGreatDoor
set_option linter.all false
set_option maxHeartbeats 40000000
set_option maxRecDepth 100000
section
open Go.RowKit
variable {E:Ev}{S:Self}{c n k:Nat}{g:Bool}{w w0 w1 w2:World}{v:Value}{ps:List Nat}{ts:List Tr}{rs:List Nat}{us:List Tr}{T X:R Tr}
theorem step_push {p:Nat}{kd:UInt8}{wd:Int}{f t:Nat}{kv:Value}{ps0:List Nat}{ts0:List Tr}{ops:Array Oper}{o:Oper}{a:Act}{K:Act→World→Prop}{Q:Exit→Act→World→Prop}{E':Prop} (hgd:o.guard=none) (s x:Operand)
  (ho:o.op=.call { callee:=.builtin .append,args:=#[s,x],argTypes:=#[55,55] }) {q:Nat}{u:Tr}
  (h:Hid (Sx E c n g w0 (Nd E c w1 p kd wd f t kv ps0 ts0 [q] [u]) T X w)) (h01:w0.heap.size≤w1.heap.size) (hs:a.eval s=kv) (hx:a.eval x=.slice (some ⟨w.heap.size,0,none⟩) 1 1) (hsm:ps0.length≤1000)
  (hQ:∀ va vc w',Hid (Sx E c n g w0 (Pu E c w1 p kd wd f t (.slice va (ps0.length+1) vc) (ps0++[q]) (ts0++[u])) T X w')→K (a.put o.dst (.slice va (ps0.length+1) vc)) w') :
  if Region.wanted o (yielded ops a.tmps)=true then Oper.wp Tryz.prog o a (w.alloc (.cells #[.pointer (some ⟨q,0,none⟩)] 47)) K Q else E':=by
 obtain⟨iP,hiP,hz0,hz1,hz2⟩:=info_parts Tryz.infoP
 have hh:=h.out
 have hz:=hh.ex.fr.size
 have ha5:(w.alloc (Obj.cells #[.pointer (some ⟨q,0,none⟩)] 47)).heap.size=w.heap.size+1:=by simp
 refine step_append_lies _ hgd s x 55 ho w1.heap.size 47 iP _ 1 8 Tryz.underlying55 hiP hz0 hz1 hz2 rfl (by decide) kv ps0.length (ptrs ps0) hs (hh.ex.opn.row.alloc _) ⟨w.heap.size,0,none⟩ 1 1 (ptrs [q]) hx rfl
  (World.news_of_block (cs:=#[.pointer (some ⟨q,0,none⟩)]) (t:=47) (fr:=(0,0)) (heap_alloc_new w _)) (ptrs_one _) (by decide) (by unfold maxLen;omega) (by omega) (by omega) _ rfl ?_
 intro g' cap w' hown hgrow hat _
 exact hQ _ _ w' (pushed h h01 hown hgrow (hat.imp (fun e=>by rw [e];rfl) (fun e=>by rw [e];rfl)))
theorem row_walk {fr t0 p:Nat} (H:Does E S) (h:Rd E c n false w) (hnd:Nd E c w0 p 0 (-1) fr t0 nilV [] [] [] [] w) (hr:rowB E.toEnv S fr n≠.out) :
  Calls Tryz.prog 144 #[.pointer (some ⟨c,0,none⟩),.pointer (some ⟨p,0,none⟩)] w (Ans E c false (rowB E.toEnv S fr n) w0):=by
 have HD:=Lib.hid H;clear H
 have H0:=Sx.startN h hnd hr rfl
 conv at H0=>arg 1;arg 8;unfold rowB wrapT
 clear h hnd hr
 have hfz:=H0.out.ex.opn.blk.free 0
 obtain⟨hk0,_,_,_,_⟩:=H0.out.ex.opn.blk.cells
 have H1:Hid (Sx _ _ _ _ _ _ _ _ (w.setCell ⟨p,0,none⟩ (.int .u8 43))):=x_kind H0 43;clear H0
 go_enter Tryz.func144,Tryz.ntmps144
 go_wp2_with fail
 generalize w.setCell ⟨p,0,none⟩ (.int .u8 43)=w1 at *
 clear hfz hk0
 cases h1:E.is n [93] with
 | true =>
  simp only [h1,if_true] at H1
  refine x_yes H1 h1 ?_
  intro n2 w2 hm H2;clear H1 h1
  simp only [← hm] at H2;clear hm
  go_wp2_with fail
  refine x_backB H2 (fun hr=>wrap_walk HD.out H2.out.rd H2.out.ex (by simp) (fun e=>hr (by rw [e];rfl))) (fun _ _ h=>⟨rfl,h⟩) ?_
  intro q wz HZ;clear H2
  go_wp2_with fail
  go_ret
  exact HZ.out
 | false =>
  simp only [h1,Bool.false_eq_true,if_false] at H1
  refine x_no H1 h1 ?_
  intro w2 H2;clear H1 h1
  go_wp2_with fail
  cases h2:E.is n [46,46,46] with
  | true =>
   simp only [h2,if_true] at H2
   refine x_yes H2 h2 ?_
   intro n3 w3 hm H3;clear H2 h2
   simp only [← hm] at H3;clear hm
   have hfz:=H3.out.ex.opn.blk.free 0
   obtain⟨hk0,_,_,_,_⟩:=H3.out.ex.opn.blk.cells
   have H4:Hid (Sx _ _ _ _ _ _ _ _ (w3.setCell ⟨p,0,none⟩ (.int .u8 42))):=x_kind H3 42;clear H3
   go_wp2_with fail
   generalize w3.setCell ⟨p,0,none⟩ (.int .u8 42)=w4 at *
   clear hfz hk0
   refine x_want H4 (fun _ _ h=>⟨rfl,h⟩) ?_
   intro n5 w5 H5;clear H4
   go_wp2_with fail
   refine x_backB H5 (fun hr=>wrap_walk HD.out H5.out.rd H5.out.ex (by simp) (fun e=>hr (by rw [e];rfl))) (fun _ _ h=>⟨rfl,h⟩) ?_
   intro q wz HZ;clear H5
   go_wp2_with fail
   go_ret
   exact HZ.out
  | false =>
   simp only [h2,Bool.false_eq_true,if_false] at H2
   refine x_no H2 h2 ?_
   intro w3 H3;clear H2 h2
   have hfz:=H3.out.ex.opn.blk.free 0
   obtain⟨hk0,_,_,_,_⟩:=H3.out.ex.opn.blk.cells
   have H4:Hid (Sx _ _ _ _ _ _ _ _ (w3.setCell ⟨p,0,none⟩ (.int .u8 41))):=x_kind H3 41;clear H3
   go_wp2_with fail
   generalize w3.setCell ⟨p,0,none⟩ (.int .u8 41)=w4 at *
   clear hfz hk0
   obtain⟨_,_,_,_,hk4⟩:=H4.out.ex.opn.blk.cells
   have H5:=x_drew H4;clear H4
   go_region_law ((first|(go_simp;go_at_call 105;refine x_kid H5 (fun hr=>loose_t H5.out.rd HD.out .expr (by decide) ⟨rfl,rfl⟩ (by kernel_rfl) hr) (fun _ _ h=>⟨rfl,h⟩) ?_;intro q6 u6 n6 w6 H6;clear H5;obtain⟨_,_,_,_,hk46⟩:=H6.out.ex.opn.blk.cells;have hk47:=fun o=>keepCell ((Below.refl w6.heap.size w6).alloc (Nat.le_refl _) o) hk46)|(refine step_push (by rfl) _ _ (by rfl) H6 (Nat.le_refl _) (by rfl) (by rfl) (by simp) ?_;intro va vc w7 H7;clear H6;obtain⟨kv9,hb9⟩:=H7.out.ex.blk;have hfz:=hb9.free 4;obtain⟨_,_,_,_,hk49⟩:=hb9.cells)))
   all_goals
    have H8:=x_pushed H7
    clear H7
    go_wp2_with fail
    clear hfz hk49 hk46 hk47 hb9
    refine x_want H8 (fun _ _ h=>⟨rfl,h⟩) ?_
    intro n9 w9 H9;clear H8
    go_wp2_with fail
    refine x_backB H9 (fun hr=>wrap_walk HD.out H9.out.rd H9.out.ex (by simp) (fun e=>hr (by rw [e];rfl))) (fun _ _ h=>⟨rfl,h⟩) ?_
    intro q wz HZ;clear H9
    go_wp2_with fail
    go_ret
    exact HZ.out
theorem AnsU.of {p:Nat} (h:Ans E c g T w0 (.returned (.pointer (some ⟨p,0,none⟩))) w):AnsU E c g T w0 p (.returned (.tuple #[])) w:=by
 cases T with
 | ok t m=>obtain⟨q,hq,a,b,d⟩:=h;cases hq;exact⟨rfl,a,b,d⟩
 | bad k=>cases h.1
 | out=>exact h
theorem AnsU.up {p m:Nat} (h:Ans E c g T w0 (Up m) w):AnsU E c g T w0 p (Up m) w:=by
 cases T with
 | ok t m=>obtain⟨q,hq,a,b,d⟩:=h;cases hq
 | bad k=>exact h
 | out=>exact h
theorem dot_walk {fr t0 p q:Nat}{x:Tr}{kv:Value} (H:Does E S) (h:Rd E c n g w) (hn:n < E.l.length) (hnd:Nd E c w0 p 0 (-1) fr t0 kv [q] [x] [] [] w) (hr:dotB E.toEnv S fr x n g≠.out) :
  Calls Tryz.prog 220 #[.pointer (some ⟨c,0,none⟩),.pointer (some ⟨p,0,none⟩)] w (AnsU E c g (dotB E.toEnv S fr x n g) w0 p):=by
 have HD:=Lib.hid H;clear H
 have HLT:=Lib.hid hn;clear hn
 have H0:=Sx.startN h hnd hr rfl
 conv at H0=>arg 1;arg 8;unfold dotB
 clear h hnd hr
 obtain⟨_,_,_,hat,_⟩:=H0.out.rd.cells
 have hsm:((n:Nat):Int)≤1099511627776:=by have:=H0.out.rd.at_;have:=H0.out.rd.lie.small;omega
 have hfz:=H0.out.rd.free 3
 have H1:=x_adv H0 HLT;clear H0
 obtain⟨n1,hm⟩:∃ m,m=n+1:=⟨_,rfl⟩
 rw [show n+2=n+1+1 from rfl,show n+3=n+1+1+1 from rfl] at H1
 simp only [← hm] at H1
 clear hm
 go_enter Tryz.func220,Tryz.ntmps220
 go_wp2_with fail
 generalize w.setCell ⟨c,3,none⟩ (.int .i64 (((n:Nat):Int)+1))=w1 at *
 clear hat hsm hfz
 cases h1:E.is n1 [40] with
 | false =>
  simp only [h1,Bool.false_eq_true,if_false] at H1
  refine x_no H1 h1 ?_
  intro w2 H2;clear H1 h1
  have hfz:=H2.out.ex.opn.blk.free 0
  obtain⟨hk0,_,_,_,_⟩:=H2.out.ex.opn.blk.cells
  have H3:Hid (Sx _ _ _ _ _ _ _ _ (w2.setCell ⟨p,0,none⟩ (.int .u8 29))):=x_kind H2 29;clear H2
  go_wp2_with fail
  generalize w2.setCell ⟨p,0,none⟩ (.int .u8 29)=w3 at *
  clear hfz hk0
  refine x_name H3 (fun _ _ h=>⟨rfl,AnsU.up h⟩) ?_
  intro q4 u4 n4 w4 H4;clear H3
  go_wp2_with fail
  refine (x_close H4 (by simp)).mono ?_
  rintro e wz ⟨rfl,HZ⟩;clear H4
  go_wp2_with fail
  go_end0
  exact AnsU.of HZ.out
 | true =>
  simp only [h1,if_true] at H1
  refine x_yes H1 h1 ?_
  intro n2 w2 hm H2;clear H1 h1
  simp only [← hm] at H2;clear hm
  have hfz:=H2.out.ex.opn.blk.free 0
  obtain⟨hk0,_,_,_,_⟩:=H2.out.ex.opn.blk.cells
  have H3:Hid (Sx _ _ _ _ _ _ _ _ (w2.setCell ⟨p,0,none⟩ (.int .u8 33))):=x_kind H2 33;clear H2
  go_wp2_with fail
  generalize w2.setCell ⟨p,0,none⟩ (.int .u8 33)=w3 at *
  clear hfz hk0
  cases h2:E.is n2 [116,121,112,101] with
  | true =>
   simp only [h2,if_true] at H3
   refine x_yes H3 h2 ?_
   intro n4 w4 hm H4;clear H3 h2
   simp only [← hm] at H4;clear hm
   go_wp2_with fail
   refine x_want H4 (fun _ _ h=>⟨rfl,AnsU.up h⟩) ?_
   intro n5 w5 H5;clear H4
   go_wp2_with fail
   refine (x_close0 H5).mono ?_
   rintro e wz ⟨rfl,HZ⟩;clear H5
   go_wp2_with fail
   go_end0
   exact AnsU.of HZ.out
  | false =>
   simp only [h2,Bool.false_eq_true,if_false] at H3
   refine x_no H3 h2 ?_
   intro w4 H4;clear H3 h2
   have hfz:=H4.out.ex.opn.blk.free 0
   obtain⟨hk0,_,_,_,_⟩:=H4.out.ex.opn.blk.cells
   have H5:Hid (Sx _ _ _ _ _ _ _ _ (w4.setCell ⟨p,0,none⟩ (.int .u8 32))):=x_kind H4 32;clear H4
   go_wp2_with fail
   generalize w4.setCell ⟨p,0,none⟩ (.int .u8 32)=w5 at *
   clear hfz hk0
   obtain⟨_,_,_,_,hk4⟩:=H5.out.ex.opn.blk.cells
   have H6:=x_drew H5;clear H5
   go_region_law ((first|(go_simp;go_at_call 78;refine x_call (F:=.typ) H6 HD (by decide) ⟨rfl,rfl⟩ (fun _ _ h=>⟨rfl,AnsU.up h⟩) ?_;intro q6 u6 n6 w6 H7;clear H6;obtain⟨_,_,_,_,hk46⟩:=H7.out.ex.opn.blk.cells;have hk47:=fun o=>keepCell ((Below.refl w6.heap.size w6).alloc (Nat.le_refl _) o) hk46)|(refine step_push (by rfl) _ _ (by rfl) H7 (Nat.le_refl _) (by rfl) (by rfl) (by simp) ?_;intro va vc w7 H8;clear H7;obtain⟨kv9,hb9⟩:=H8.out.ex.blk;have hfz:=hb9.free 4;obtain⟨_,_,_,_,hk49⟩:=hb9.cells)))
   all_goals
    have H9:=x_pushed H8
    clear H8
    go_wp2_with fail
    clear hfz hk49 hk46 hk47 hb9
    refine x_want H9 (fun _ _ h=>⟨rfl,AnsU.up h⟩) ?_
    intro n9 w9 H10;clear H9
    go_wp2_with fail
    refine (x_close0 H10).mono ?_
    rintro e wz ⟨rfl,HZ⟩;clear H10
    go_wp2_with fail
    go_end0
    exact AnsU.of HZ.out
end
end Go.Proofs.YtcjmpafkcmlhbaaGreatDoor
