import Derived.Test.YtcjmpafkcmlhbaaGreatDoorQBE
import Derived.MapKept
namespace Go.Proofs.YtcjmpafkcmlhbaaGreatDoor
set_option linter.all false
set_option maxHeartbeats 40000000
set_option maxRecDepth 100000
section
open Go.RowKit
variable {E:Ev}{S:Self}{c n:Nat}{g:Bool}{w:World}
variable {k:Nat}{w0 w1 w2:World}{p:Nat}{kd:UInt8}{wd:Int}{f t:Nat}{kv v:Value}{ps0:List Nat}{ts0:List Tr}{ps:List Nat}{ts:List Tr}{rs:List Nat}{us:List Tr}{T X:R Tr}
theorem x_asked_none {q:Nat}{u:Tr}{Q:Ending→World→Prop} (h:Hid (Sx E c n g w0 (Nd E c w1 p kd wd f t kv ps0 ts0 ps ts) T X w)) (ht:TreeAt w (ndD w1 p kv w) q u) (hs:Hid (Sh u)) (ha:asked E.toEnv u=none)
  (hQ:∀ w',Hid (Sx E c n g w0 (Nd E c w1 p kd wd f t kv ps0 ts0 ps ts) T X w')→Q (.returned (.tuple #[.pointer none,.pointer none])) w') :
  Calls Tryz.prog 262 #[.pointer (some ⟨c,0,none⟩),.pointer (some ⟨q,0,none⟩)] w Q:=by
 refine (asked_any h.out.rd (fun b hb=>hb.2.1) ht hs.out).mono ?_
 rintro e w' ⟨hb,hA⟩
 rw [ha] at hA
 subst hA
 exact hQ w' (h.out.below hb)
theorem x_asked_some {q:Nat}{u a y:Tr}{Q:Ending→World→Prop} (h:Hid (Sx E c n g w0 (Nd E c w1 p kd wd f t kv ps0 ts0 ps ts) T X w)) (ht:TreeAt w (ndD w1 p kv w) q u) (hs:Hid (Sh u)) (ha:asked E.toEnv u=some (a,y))
  (hQ:∀ pa py w',Hid (Sx E c n g w0 (Nd E c w1 p kd wd f t kv ps0 ts0 (ps++[pa,py]) (ts++[a,y])) T X w')→Q (.returned (.tuple #[.pointer (some ⟨pa,0,none⟩),.pointer (some ⟨py,0,none⟩)])) w') :
  Calls Tryz.prog 262 #[.pointer (some ⟨c,0,none⟩),.pointer (some ⟨q,0,none⟩)] w Q:=by
 refine (asked_any h.out.rd (fun b hb=>hb.2.1) ht hs.out).mono ?_
 rintro e w' ⟨hb,hA⟩
 rw [ha] at hA
 obtain⟨pa,py,rfl,h1,h2⟩:=hA
 have hh:=h.out.below hb
 have hd:∀ b,(ndD w1 p kv w b∨within w.heap.size w'.heap.size b)→ndD w1 p kv w' b:=fun b hb'=>hb'.elim (ndD.later hb.size b) (h.out.ex.apart (Nat.le_refl _) b)
 exact hQ pa py w' (hh.with ⟨hh.ex.fr,hh.ex.cw,hh.ex.opn,hh.ex.old,TreesAt.append hh.ex.kids ⟨TreeAt.kept (fun _ _=>rfl) hd pa a h1,TreeAt.kept (fun _ _=>rfl) hd py y h2,trivial⟩,hh.ex.z⟩ Nd.later)
theorem switches_walk (H:Does E S) (hso:SOk E.toEnv S) (h:Rd E c n g w) (hn:n < E.l.length) (hr:switchesB E.toEnv S n g≠.out) :
  Calls Tryz.prog 232 #[.pointer (some ⟨c,0,none⟩)] w (Ans E c g (switchesB E.toEnv S n g) w):=by
 have HLT:=Lib.hid hn;clear hn
 have HD:=Lib.hid H;clear H
 have H0:=Sx.start h hr rfl
 conv at H0=>arg 1;arg 8;unfold switchesB switchSecond switchTail
 try simp only [bs,reduceCtorEq] at H0
 have HSO:=Lib.hid hso;clear hso
 clear h hr
 go_enter Tryz.func232,Tryz.ntmps232
 go_wp2_with fail
 refine x_open H0 60 ?_
 intro p w1 H2;clear H0
 obtain⟨_,_,_,hat5,_⟩:=H2.out.rd.cells
 have hsm6:((n:Nat):Int)≤1099511627776:=by have:=H2.out.rd.at_;have:=H2.out.rd.lie.small;omega
 have hfz4:=H2.out.rd.free 3
 have H3:=x_adv H2 HLT;clear H2
 obtain⟨n7,hm⟩:∃ m,m=n+1:=⟨_,rfl⟩
 simp only [← hm] at H3
 have HMn7:=Lib.hid hm;clear hm
 go_wp2_with fail
 generalize (w1.setCell ⟨c,3,none⟩ (.int .i64 (((n:Nat):Int)+1)))=w8 at *
 clear hat5 hsm6 hfz4
 try simp only [show (((n:Nat):Int)+1)=((n7:Nat):Int) from by have:=HMn7.out;omega] at H3
 refine x_none H3 0 ?_
 intro q10 w9 H11;clear H3
 go_wp2_with fail
 refine x_none H11 0 ?_
 intro q13 w12 H14;clear H11
 go_wp2_with fail
 cases h15:E.is n7 [123] with
 | true =>
  have d16:(E.word (n7:Nat)==[123])=true:=h15
  simp only [h15,bs,reduceCtorEq] at H14
  have HLTh15:=Lib.hid (is_lt h15)
  have HYh15:=Lib.hid h15
  clear h15
  refine x_next H14 ?_
  intro w17 H18;clear H14
  go_wp2_with fail
  refine x_no H18 (by have hy:=eq_of_beq HYh15.out;show (E.word (n7:Nat)==[59])=false;rw [hy];rfl) ?_
  intro w19 H20;clear H18
  go_wp2_with fail
  refine x_kid H20 (fun hr=>HD.out.clauses 62 1 c _ g _ (by simp) H20.out.rd hr) (fun _ _ h=>⟨rfl,h⟩) ?_
  intro q23 t24 n22 w21 H25;clear H20
  go_wp2_with fail
  refine (x_close H25 (by simp)).mono ?_
  rintro e wz ⟨rfl,HA⟩;clear H25
  go_wp2_with fail
  go_ret
  exact HA.out
 | false =>
  have d16:(E.word (n7:Nat)==[123])=false:=h15
  simp only [h15,bs,reduceCtorEq] at H14
  clear h15
  cases h26:E.is n7 [59] with
  | true =>
   have d27:(E.word (n7:Nat)==[59])=true:=h26
   simp only [h26,bs,reduceCtorEq] at H14
   have HLTh26:=Lib.hid (is_lt h26)
   have HYh26:=Lib.hid h26
   clear h26
   refine x_next H14 ?_
   intro w28 H29;clear H14
   go_wp2_with fail
   refine x_yes H29 HYh26.out ?_
   intro n30 w31 hm H32;clear H29
   try simp only [← hm] at H32
   have HMn30:=Lib.hid hm;clear hm
   simp only [show n+2=n30 from by have:=HMn7.out;have:=HMn30.out;omega] at H32
   go_wp2_with fail
   refine x_none H32 0 ?_
   intro q34 w33 H35;clear H32
   go_wp2_with fail
   cases h36:E.is n30 [123] with
   | true =>
    have d37:(E.word (n30:Nat)==[123])=true:=h36
    simp only [h36,bs,reduceCtorEq] at H35
    have HLTh36:=Lib.hid (is_lt h36)
    have HYh36:=Lib.hid h36
    clear h36
    refine x_next H35 ?_
    intro w38 H39;clear H35
    have H40:=x_sel (ps':=[q10,q34]) (ts':=[noneT 0 n7,noneT 0 n30]) H39 (fun _ h=>⟨h.1,h.2.2.1,trivial⟩);clear H39
    go_wp2_with fail
    refine x_kid H40 (fun hr=>HD.out.clauses 62 1 c _ g _ (by simp) H40.out.rd hr) (fun _ _ h=>⟨rfl,h⟩) ?_
    intro q43 t44 n42 w41 H45;clear H40
    go_wp2_with fail
    refine (x_close H45 (by simp)).mono ?_
    rintro e wz ⟨rfl,HA⟩;clear H45
    go_wp2_with fail
    go_ret
    exact HA.out
   | false =>
    have d37:(E.word (n30:Nat)==[123])=false:=h36
    simp only [h36,bs,reduceCtorEq] at H35
    clear h36
    refine x_next H35 ?_
    intro w46 H47;clear H35
    go_wp2_with fail
    refine x_kidS H47 (fun hr=>head_t H47.out.rd HD.out .simple (by decide) ⟨rfl,rfl⟩ (by kernel_rfl) hr) (fun _ _ h=>⟨rfl,h⟩) ?_
    intro q50 t51 n49 w48 HE53 H52;clear H47
    have HS54:=Lib.hid (HSO.out.t .simple _ true trivial _ _ HE53.out);clear HE53
    go_wp2_with fail
    cases ha55:asked E.toEnv t51 with
    | some ay =>
     obtain⟨a60,y61⟩:=ay
     simp only [ha55] at H52
     refine x_asked_some H52 H52.out.ex.kids.2.2.2.1 HS54 ha55 ?_
     intro q58 q59 w56 H57;clear H52 ha55
     obtain⟨hk64,_,hf65,_,_⟩:=H57.out.ex.opn.blk.cells
     have hfz63:=H57.out.ex.opn.blk.free 0
     have H62:Hid (Sx _ _ _ _ _ _ _ _ (w56.setCell ⟨p,0,none⟩ (.int .u8 61))):=x_kind H57 61;clear H57
     go_wp2_with fail
     generalize (w56.setCell ⟨p,0,none⟩ (.int .u8 61))=w66 at *
     clear hfz63 hk64 hf65
     have H67:=x_sel (ps':=[q10,q58,q59]) (ts':=[noneT 0 n7,a60,y61]) H62 (fun _ h=>⟨h.1,h.2.2.2.2.1,h.2.2.2.2.2.1,trivial⟩);clear H62
     refine x_kid H67 (fun hr=>HD.out.clauses 62 2 c _ g _ (by simp) H67.out.rd hr) (fun _ _ h=>⟨rfl,h⟩) ?_
     intro q70 t71 n69 w68 H72;clear H67
     go_wp2_with fail
     refine (x_close H72 (by simp)).mono ?_
     rintro e wz ⟨rfl,HA⟩;clear H72
     go_wp2_with fail
     go_ret
     exact HA.out
    | none =>
     simp only [ha55] at H52
     refine x_asked_none H52 H52.out.ex.kids.2.2.2.1 HS54 ha55 ?_
     intro w73 H74;clear H52 ha55
     go_wp2_with fail
     refine x_only H74 H74.out.ex.kids.2.2.2.1 HS54 (fun _ _ h=>⟨rfl,h⟩) ?_
     intro q77 t78 n76 w75 H79;clear H74
     have H80:=x_sel (ps':=[q10,q77]) (ts':=[noneT 0 n7,t78]) H79 (fun _ h=>⟨h.1,h.2.2.2.2.1,trivial⟩);clear H79
     go_wp2_with fail
     refine x_kid H80 (fun hr=>HD.out.clauses 62 1 c _ g _ (by simp) H80.out.rd hr) (fun _ _ h=>⟨rfl,h⟩) ?_
     intro q83 t84 n82 w81 H85;clear H80
     go_wp2_with fail
     refine (x_close H85 (by simp)).mono ?_
     rintro e wz ⟨rfl,HA⟩;clear H85
     go_wp2_with fail
     go_ret
     exact HA.out
  | false =>
   have d27:(E.word (n7:Nat)==[59])=false:=h26
   simp only [h26,bs,reduceCtorEq] at H14
   clear h26
   refine x_next H14 ?_
   intro w86 H87;clear H14
   go_wp2_with fail
   refine x_kidS H87 (fun hr=>head_t H87.out.rd HD.out .simple (by decide) ⟨rfl,rfl⟩ (by kernel_rfl) hr) (fun _ _ h=>⟨rfl,h⟩) ?_
   intro q90 t91 n89 w88 HE93 H92;clear H87
   have HS94:=Lib.hid (HSO.out.t .simple _ true trivial _ _ HE93.out);clear HE93
   go_wp2_with fail
   cases h95:E.is n89 [59] with
   | true =>
    simp only [h95,bs,reduceCtorEq] at H92
    refine x_yes H92 h95 ?_
    intro n97 w96 hm H98;clear H92
    simp only [← hm] at H98
    have HMn97:=Lib.hid hm;clear hm
    have HYh95:=Lib.hid h95
    clear h95
    go_wp2_with fail
    refine x_none H98 0 ?_
    intro q100 w99 H101;clear H98
    go_wp2_with fail
    cases h102:E.is n97 [123] with
    | true =>
     have d103:(E.word (n97:Nat)==[123])=true:=h102
     simp only [h102,bs,reduceCtorEq] at H101
     have HLTh102:=Lib.hid (is_lt h102)
     have HYh102:=Lib.hid h102
     clear h102
     refine x_next H101 ?_
     intro w104 H105;clear H101
     have H106:=x_sel (ps':=[q90,q100]) (ts':=[t91,noneT 0 n97]) H105 (fun _ h=>⟨h.2.2.1,h.2.2.2.1,trivial⟩);clear H105
     go_wp2_with fail
     refine x_kid H106 (fun hr=>HD.out.clauses 62 1 c _ g _ (by simp) H106.out.rd hr) (fun _ _ h=>⟨rfl,h⟩) ?_
     intro q109 t110 n108 w107 H111;clear H106
     go_wp2_with fail
     refine (x_close H111 (by simp)).mono ?_
     rintro e wz ⟨rfl,HA⟩;clear H111
     go_wp2_with fail
     go_ret
     exact HA.out
    | false =>
     have d103:(E.word (n97:Nat)==[123])=false:=h102
     simp only [h102,bs,reduceCtorEq] at H101
     clear h102
     refine x_next H101 ?_
     intro w112 H113;clear H101
     go_wp2_with fail
     refine x_kidS H113 (fun hr=>head_t H113.out.rd HD.out .simple (by decide) ⟨rfl,rfl⟩ (by kernel_rfl) hr) (fun _ _ h=>⟨rfl,h⟩) ?_
     intro q116 t117 n115 w114 HE119 H118;clear H113
     have HS120:=Lib.hid (HSO.out.t .simple _ true trivial _ _ HE119.out);clear HE119
     go_wp2_with fail
     cases ha121:asked E.toEnv t117 with
     | some ay =>
      obtain⟨a126,y127⟩:=ay
      simp only [ha121] at H118
      refine x_asked_some H118 H118.out.ex.kids.2.2.2.2.1 HS120 ha121 ?_
      intro q124 q125 w122 H123;clear H118 ha121
      obtain⟨hk130,_,hf131,_,_⟩:=H123.out.ex.opn.blk.cells
      have hfz129:=H123.out.ex.opn.blk.free 0
      have H128:Hid (Sx _ _ _ _ _ _ _ _ (w122.setCell ⟨p,0,none⟩ (.int .u8 61))):=x_kind H123 61;clear H123
      go_wp2_with fail
      generalize (w122.setCell ⟨p,0,none⟩ (.int .u8 61))=w132 at *
      clear hfz129 hk130 hf131
      have H133:=x_sel (ps':=[q90,q124,q125]) (ts':=[t91,a126,y127]) H128 (fun _ h=>⟨h.2.2.1,h.2.2.2.2.2.1,h.2.2.2.2.2.2.1,trivial⟩);clear H128
      refine x_kid H133 (fun hr=>HD.out.clauses 62 2 c _ g _ (by simp) H133.out.rd hr) (fun _ _ h=>⟨rfl,h⟩) ?_
      intro q136 t137 n135 w134 H138;clear H133
      go_wp2_with fail
      refine (x_close H138 (by simp)).mono ?_
      rintro e wz ⟨rfl,HA⟩;clear H138
      go_wp2_with fail
      go_ret
      exact HA.out
     | none =>
      simp only [ha121] at H118
      refine x_asked_none H118 H118.out.ex.kids.2.2.2.2.1 HS120 ha121 ?_
      intro w139 H140;clear H118 ha121
      go_wp2_with fail
      refine x_only H140 H140.out.ex.kids.2.2.2.2.1 HS120 (fun _ _ h=>⟨rfl,h⟩) ?_
      intro q143 t144 n142 w141 H145;clear H140
      have H146:=x_sel (ps':=[q90,q143]) (ts':=[t91,t144]) H145 (fun _ h=>⟨h.2.2.1,h.2.2.2.2.2.1,trivial⟩);clear H145
      go_wp2_with fail
      refine x_kid H146 (fun hr=>HD.out.clauses 62 1 c _ g _ (by simp) H146.out.rd hr) (fun _ _ h=>⟨rfl,h⟩) ?_
      intro q149 t150 n148 w147 H151;clear H146
      go_wp2_with fail
      refine (x_close H151 (by simp)).mono ?_
      rintro e wz ⟨rfl,HA⟩;clear H151
      go_wp2_with fail
      go_ret
      exact HA.out
   | false =>
    simp only [h95,bs,reduceCtorEq] at H92
    refine x_no H92 h95 ?_
    intro w152 H153;clear H92
    clear h95
    go_wp2_with fail
    cases ha154:asked E.toEnv t91 with
    | some ay =>
     obtain⟨a159,y160⟩:=ay
     simp only [ha154] at H153
     refine x_asked_some H153 H153.out.ex.kids.2.2.1 HS94 ha154 ?_
     intro q157 q158 w155 H156;clear H153 ha154
     obtain⟨hk163,_,hf164,_,_⟩:=H156.out.ex.opn.blk.cells
     have hfz162:=H156.out.ex.opn.blk.free 0
     have H161:Hid (Sx _ _ _ _ _ _ _ _ (w155.setCell ⟨p,0,none⟩ (.int .u8 61))):=x_kind H156 61;clear H156
     go_wp2_with fail
     generalize (w155.setCell ⟨p,0,none⟩ (.int .u8 61))=w165 at *
     clear hfz162 hk163 hf164
     have H166:=x_sel (ps':=[q10,q157,q158]) (ts':=[noneT 0 n7,a159,y160]) H161 (fun _ h=>⟨h.1,h.2.2.2.1,h.2.2.2.2.1,trivial⟩);clear H161
     refine x_kid H166 (fun hr=>HD.out.clauses 62 2 c _ g _ (by simp) H166.out.rd hr) (fun _ _ h=>⟨rfl,h⟩) ?_
     intro q169 t170 n168 w167 H171;clear H166
     go_wp2_with fail
     refine (x_close H171 (by simp)).mono ?_
     rintro e wz ⟨rfl,HA⟩;clear H171
     go_wp2_with fail
     go_ret
     exact HA.out
    | none =>
     simp only [ha154] at H153
     refine x_asked_none H153 H153.out.ex.kids.2.2.1 HS94 ha154 ?_
     intro w172 H173;clear H153 ha154
     go_wp2_with fail
     refine x_only H173 H173.out.ex.kids.2.2.1 HS94 (fun _ _ h=>⟨rfl,h⟩) ?_
     intro q176 t177 n175 w174 H178;clear H173
     have H179:=x_sel (ps':=[q10,q176]) (ts':=[noneT 0 n7,t177]) H178 (fun _ h=>⟨h.1,h.2.2.2.1,trivial⟩);clear H178
     go_wp2_with fail
     refine x_kid H179 (fun hr=>HD.out.clauses 62 1 c _ g _ (by simp) H179.out.rd hr) (fun _ _ h=>⟨rfl,h⟩) ?_
     intro q182 t183 n181 w180 H184;clear H179
     go_wp2_with fail
     refine (x_close H184 (by simp)).mono ?_
     rintro e wz ⟨rfl,HA⟩;clear H184
     go_wp2_with fail
     go_ret
     exact HA.out
end
section
open Go.RowKit
variable {E:Ev}{S:Self}{c n k:Nat}{g:Bool}{w w0 w1 w2:World}
theorem rd_under:Tryz.prog.underlying 180=some (.map (Tryz.prog.mapKeyOf 180) (Tryz.prog.mapElemOf 180)):=by kernel_rfl
theorem rd_key:Tryz.prog.underlying (Tryz.prog.mapKeyOf 180)=some .string:=by kernel_rfl
theorem map_ins {es:Array MapEntry}{clk:Nat}{s:Array UInt8}{v:Value} (h1:Instr.findNow .string (.string ⟨s⟩) es.toList 0=some none) :
  Sem.run Tryz.prog (Instr.mapUpdate 180 (.map (some w.heap.size)) (.string ⟨s⟩) v) (w.alloc (.map es clk))=.ok () (w.alloc (.map (es.push ⟨.string ⟨s⟩,v,clk⟩) (clk+1))):=by
 have hb:(w.alloc (.map es clk)).heap[w.heap.size]?=some (.map es clk):=heap_alloc_new w _
 simp [Instr.mapUpdate,run_underlying rd_under,MapKept.run_getObj_map hb,MapKept.run_checkKey rd_key (k:=.string ⟨s⟩) trivial,MapKept.run_findKey rd_key h1,MapKept.run_setObj_map _ hb,Result.andThen]
 have e:(w.alloc (.map es clk)).heap.setIfInBounds w.heap.size (.map (es.push ⟨.string ⟨s⟩,v,clk⟩) (clk+1))=w.heap.push (.map (es.push ⟨.string ⟨s⟩,v,clk⟩) (clk+1)):=by
  show (w.heap.push _).setIfInBounds _ _=_
  apply Array.ext'
  rw [Array.toList_setIfInBounds,Array.toList_push,Array.toList_push,List.set_append_right _ _ (by simp)]
  simp
 rw [e]
 rfl
def table:Array MapEntry:=#[⟨.string ⟨#[99,111,110,115,116]⟩,(.func (.func 227) #[] #[]),0⟩,⟨.string ⟨#[118,97,114]⟩,(.func (.func 227) #[] #[]),1⟩,⟨.string ⟨#[116,121,112,101]⟩,(.func (.func 227) #[] #[]),2⟩,⟨.string ⟨#[103,111]⟩,(.func (.func 228) #[] #[]),3⟩,⟨.string ⟨#[100,101,102,101,114]⟩,(.func (.func 228) #[] #[]),4⟩,⟨.string ⟨#[114,101,116,117,114,110]⟩,(.func (.func 229) #[] #[]),5⟩,⟨.string ⟨#[98,114,101,97,107]⟩,(.func (.func 230) #[] #[]),6⟩,⟨.string ⟨#[99,111,110,116,105,110,117,101]⟩,(.func (.func 230) #[] #[]),7⟩,⟨.string ⟨#[103,111,116,111]⟩,(.func (.func 230) #[] #[]),8⟩,⟨.string ⟨#[102,97,108,108,116,104,114,111,117,103,104]⟩,(.func (.func 230) #[] #[]),9⟩,⟨.string ⟨#[123]⟩,(.func (.func 162) #[] #[]),10⟩,⟨.string ⟨#[105,102]⟩,(.func (.func 231) #[] #[]),11⟩,⟨.string ⟨#[115,119,105,116,99,104]⟩,(.func (.func 232) #[] #[]),12⟩,⟨.string ⟨#[115,101,108,101,99,116]⟩,(.func (.func 233) #[] #[]),13⟩,⟨.string ⟨#[102,111,114]⟩,(.func (.func 234) #[] #[]),14⟩]
theorem readers_any (w:World):Calls Tryz.prog 194 #[] w fun e w'=>e=.returned (.map (some w.heap.size))∧w'=w.alloc (.map table 15):=by
 have hmm:=@run_makeMap Tryz.prog
 have h0:Sem.run Tryz.prog (Instr.mapUpdate 180 (.map (some w.heap.size)) (.string ⟨#[99,111,110,115,116]⟩) (.func (.func 227) #[] #[])) (w.alloc (.map #[] 0))=.ok () (w.alloc (.map #[⟨.string ⟨#[99,111,110,115,116]⟩,(.func (.func 227) #[] #[]),0⟩] 1)):=map_ins (es:=#[]) (by rfl)
 have h1:Sem.run Tryz.prog (Instr.mapUpdate 180 (.map (some w.heap.size)) (.string ⟨#[118,97,114]⟩) (.func (.func 227) #[] #[])) (w.alloc (.map #[⟨.string ⟨#[99,111,110,115,116]⟩,(.func (.func 227) #[] #[]),0⟩] 1))=.ok () (w.alloc (.map #[⟨.string ⟨#[99,111,110,115,116]⟩,(.func (.func 227) #[] #[]),0⟩,⟨.string ⟨#[118,97,114]⟩,(.func (.func 227) #[] #[]),1⟩] 2)):=map_ins (es:=#[⟨.string ⟨#[99,111,110,115,116]⟩,(.func (.func 227) #[] #[]),0⟩]) (by rfl)
 have h2:Sem.run Tryz.prog (Instr.mapUpdate 180 (.map (some w.heap.size)) (.string ⟨#[116,121,112,101]⟩) (.func (.func 227) #[] #[])) (w.alloc (.map #[⟨.string ⟨#[99,111,110,115,116]⟩,(.func (.func 227) #[] #[]),0⟩,⟨.string ⟨#[118,97,114]⟩,(.func (.func 227) #[] #[]),1⟩] 2))=.ok () (w.alloc (.map #[⟨.string ⟨#[99,111,110,115,116]⟩,(.func (.func 227) #[] #[]),0⟩,⟨.string ⟨#[118,97,114]⟩,(.func (.func 227) #[] #[]),1⟩,⟨.string ⟨#[116,121,112,101]⟩,(.func (.func 227) #[] #[]),2⟩] 3)):=map_ins (es:=#[⟨.string ⟨#[99,111,110,115,116]⟩,(.func (.func 227) #[] #[]),0⟩,⟨.string ⟨#[118,97,114]⟩,(.func (.func 227) #[] #[]),1⟩]) (by rfl)
 have h3:Sem.run Tryz.prog (Instr.mapUpdate 180 (.map (some w.heap.size)) (.string ⟨#[103,111]⟩) (.func (.func 228) #[] #[])) (w.alloc (.map #[⟨.string ⟨#[99,111,110,115,116]⟩,(.func (.func 227) #[] #[]),0⟩,⟨.string ⟨#[118,97,114]⟩,(.func (.func 227) #[] #[]),1⟩,⟨.string ⟨#[116,121,112,101]⟩,(.func (.func 227) #[] #[]),2⟩] 3))=.ok () (w.alloc (.map #[⟨.string ⟨#[99,111,110,115,116]⟩,(.func (.func 227) #[] #[]),0⟩,⟨.string ⟨#[118,97,114]⟩,(.func (.func 227) #[] #[]),1⟩,⟨.string ⟨#[116,121,112,101]⟩,(.func (.func 227) #[] #[]),2⟩,⟨.string ⟨#[103,111]⟩,(.func (.func 228) #[] #[]),3⟩] 4)):=map_ins (es:=#[⟨.string ⟨#[99,111,110,115,116]⟩,(.func (.func 227) #[] #[]),0⟩,⟨.string ⟨#[118,97,114]⟩,(.func (.func 227) #[] #[]),1⟩,⟨.string ⟨#[116,121,112,101]⟩,(.func (.func 227) #[] #[]),2⟩]) (by rfl)
 have h4:Sem.run Tryz.prog (Instr.mapUpdate 180 (.map (some w.heap.size)) (.string ⟨#[100,101,102,101,114]⟩) (.func (.func 228) #[] #[])) (w.alloc (.map #[⟨.string ⟨#[99,111,110,115,116]⟩,(.func (.func 227) #[] #[]),0⟩,⟨.string ⟨#[118,97,114]⟩,(.func (.func 227) #[] #[]),1⟩,⟨.string ⟨#[116,121,112,101]⟩,(.func (.func 227) #[] #[]),2⟩,⟨.string ⟨#[103,111]⟩,(.func (.func 228) #[] #[]),3⟩] 4))=.ok () (w.alloc (.map #[⟨.string ⟨#[99,111,110,115,116]⟩,(.func (.func 227) #[] #[]),0⟩,⟨.string ⟨#[118,97,114]⟩,(.func (.func 227) #[] #[]),1⟩,⟨.string ⟨#[116,121,112,101]⟩,(.func (.func 227) #[] #[]),2⟩,⟨.string ⟨#[103,111]⟩,(.func (.func 228) #[] #[]),3⟩,⟨.string ⟨#[100,101,102,101,114]⟩,(.func (.func 228) #[] #[]),4⟩] 5)):=map_ins (es:=#[⟨.string ⟨#[99,111,110,115,116]⟩,(.func (.func 227) #[] #[]),0⟩,⟨.string ⟨#[118,97,114]⟩,(.func (.func 227) #[] #[]),1⟩,⟨.string ⟨#[116,121,112,101]⟩,(.func (.func 227) #[] #[]),2⟩,⟨.string ⟨#[103,111]⟩,(.func (.func 228) #[] #[]),3⟩]) (by rfl)
 have h5:Sem.run Tryz.prog (Instr.mapUpdate 180 (.map (some w.heap.size)) (.string ⟨#[114,101,116,117,114,110]⟩) (.func (.func 229) #[] #[])) (w.alloc (.map #[⟨.string ⟨#[99,111,110,115,116]⟩,(.func (.func 227) #[] #[]),0⟩,⟨.string ⟨#[118,97,114]⟩,(.func (.func 227) #[] #[]),1⟩,⟨.string ⟨#[116,121,112,101]⟩,(.func (.func 227) #[] #[]),2⟩,⟨.string ⟨#[103,111]⟩,(.func (.func 228) #[] #[]),3⟩,⟨.string ⟨#[100,101,102,101,114]⟩,(.func (.func 228) #[] #[]),4⟩] 5))=.ok () (w.alloc (.map #[⟨.string ⟨#[99,111,110,115,116]⟩,(.func (.func 227) #[] #[]),0⟩,⟨.string ⟨#[118,97,114]⟩,(.func (.func 227) #[] #[]),1⟩,⟨.string ⟨#[116,121,112,101]⟩,(.func (.func 227) #[] #[]),2⟩,⟨.string ⟨#[103,111]⟩,(.func (.func 228) #[] #[]),3⟩,⟨.string ⟨#[100,101,102,101,114]⟩,(.func (.func 228) #[] #[]),4⟩,⟨.string ⟨#[114,101,116,117,114,110]⟩,(.func (.func 229) #[] #[]),5⟩] 6)):=map_ins (es:=#[⟨.string ⟨#[99,111,110,115,116]⟩,(.func (.func 227) #[] #[]),0⟩,⟨.string ⟨#[118,97,114]⟩,(.func (.func 227) #[] #[]),1⟩,⟨.string ⟨#[116,121,112,101]⟩,(.func (.func 227) #[] #[]),2⟩,⟨.string ⟨#[103,111]⟩,(.func (.func 228) #[] #[]),3⟩,⟨.string ⟨#[100,101,102,101,114]⟩,(.func (.func 228) #[] #[]),4⟩]) (by rfl)
 have h6:Sem.run Tryz.prog (Instr.mapUpdate 180 (.map (some w.heap.size)) (.string ⟨#[98,114,101,97,107]⟩) (.func (.func 230) #[] #[])) (w.alloc (.map #[⟨.string ⟨#[99,111,110,115,116]⟩,(.func (.func 227) #[] #[]),0⟩,⟨.string ⟨#[118,97,114]⟩,(.func (.func 227) #[] #[]),1⟩,⟨.string ⟨#[116,121,112,101]⟩,(.func (.func 227) #[] #[]),2⟩,⟨.string ⟨#[103,111]⟩,(.func (.func 228) #[] #[]),3⟩,⟨.string ⟨#[100,101,102,101,114]⟩,(.func (.func 228) #[] #[]),4⟩,⟨.string ⟨#[114,101,116,117,114,110]⟩,(.func (.func 229) #[] #[]),5⟩] 6))=.ok () (w.alloc (.map #[⟨.string ⟨#[99,111,110,115,116]⟩,(.func (.func 227) #[] #[]),0⟩,⟨.string ⟨#[118,97,114]⟩,(.func (.func 227) #[] #[]),1⟩,⟨.string ⟨#[116,121,112,101]⟩,(.func (.func 227) #[] #[]),2⟩,⟨.string ⟨#[103,111]⟩,(.func (.func 228) #[] #[]),3⟩,⟨.string ⟨#[100,101,102,101,114]⟩,(.func (.func 228) #[] #[]),4⟩,⟨.string ⟨#[114,101,116,117,114,110]⟩,(.func (.func 229) #[] #[]),5⟩,⟨.string ⟨#[98,114,101,97,107]⟩,(.func (.func 230) #[] #[]),6⟩] 7)):=map_ins (es:=#[⟨.string ⟨#[99,111,110,115,116]⟩,(.func (.func 227) #[] #[]),0⟩,⟨.string ⟨#[118,97,114]⟩,(.func (.func 227) #[] #[]),1⟩,⟨.string ⟨#[116,121,112,101]⟩,(.func (.func 227) #[] #[]),2⟩,⟨.string ⟨#[103,111]⟩,(.func (.func 228) #[] #[]),3⟩,⟨.string ⟨#[100,101,102,101,114]⟩,(.func (.func 228) #[] #[]),4⟩,⟨.string ⟨#[114,101,116,117,114,110]⟩,(.func (.func 229) #[] #[]),5⟩]) (by rfl)
 have h7:Sem.run Tryz.prog (Instr.mapUpdate 180 (.map (some w.heap.size)) (.string ⟨#[99,111,110,116,105,110,117,101]⟩) (.func (.func 230) #[] #[])) (w.alloc (.map #[⟨.string ⟨#[99,111,110,115,116]⟩,(.func (.func 227) #[] #[]),0⟩,⟨.string ⟨#[118,97,114]⟩,(.func (.func 227) #[] #[]),1⟩,⟨.string ⟨#[116,121,112,101]⟩,(.func (.func 227) #[] #[]),2⟩,⟨.string ⟨#[103,111]⟩,(.func (.func 228) #[] #[]),3⟩,⟨.string ⟨#[100,101,102,101,114]⟩,(.func (.func 228) #[] #[]),4⟩,⟨.string ⟨#[114,101,116,117,114,110]⟩,(.func (.func 229) #[] #[]),5⟩,⟨.string ⟨#[98,114,101,97,107]⟩,(.func (.func 230) #[] #[]),6⟩] 7))=.ok () (w.alloc (.map #[⟨.string ⟨#[99,111,110,115,116]⟩,(.func (.func 227) #[] #[]),0⟩,⟨.string ⟨#[118,97,114]⟩,(.func (.func 227) #[] #[]),1⟩,⟨.string ⟨#[116,121,112,101]⟩,(.func (.func 227) #[] #[]),2⟩,⟨.string ⟨#[103,111]⟩,(.func (.func 228) #[] #[]),3⟩,⟨.string ⟨#[100,101,102,101,114]⟩,(.func (.func 228) #[] #[]),4⟩,⟨.string ⟨#[114,101,116,117,114,110]⟩,(.func (.func 229) #[] #[]),5⟩,⟨.string ⟨#[98,114,101,97,107]⟩,(.func (.func 230) #[] #[]),6⟩,⟨.string ⟨#[99,111,110,116,105,110,117,101]⟩,(.func (.func 230) #[] #[]),7⟩] 8)):=map_ins (es:=#[⟨.string ⟨#[99,111,110,115,116]⟩,(.func (.func 227) #[] #[]),0⟩,⟨.string ⟨#[118,97,114]⟩,(.func (.func 227) #[] #[]),1⟩,⟨.string ⟨#[116,121,112,101]⟩,(.func (.func 227) #[] #[]),2⟩,⟨.string ⟨#[103,111]⟩,(.func (.func 228) #[] #[]),3⟩,⟨.string ⟨#[100,101,102,101,114]⟩,(.func (.func 228) #[] #[]),4⟩,⟨.string ⟨#[114,101,116,117,114,110]⟩,(.func (.func 229) #[] #[]),5⟩,⟨.string ⟨#[98,114,101,97,107]⟩,(.func (.func 230) #[] #[]),6⟩]) (by rfl)
 have h8:Sem.run Tryz.prog (Instr.mapUpdate 180 (.map (some w.heap.size)) (.string ⟨#[103,111,116,111]⟩) (.func (.func 230) #[] #[])) (w.alloc (.map #[⟨.string ⟨#[99,111,110,115,116]⟩,(.func (.func 227) #[] #[]),0⟩,⟨.string ⟨#[118,97,114]⟩,(.func (.func 227) #[] #[]),1⟩,⟨.string ⟨#[116,121,112,101]⟩,(.func (.func 227) #[] #[]),2⟩,⟨.string ⟨#[103,111]⟩,(.func (.func 228) #[] #[]),3⟩,⟨.string ⟨#[100,101,102,101,114]⟩,(.func (.func 228) #[] #[]),4⟩,⟨.string ⟨#[114,101,116,117,114,110]⟩,(.func (.func 229) #[] #[]),5⟩,⟨.string ⟨#[98,114,101,97,107]⟩,(.func (.func 230) #[] #[]),6⟩,⟨.string ⟨#[99,111,110,116,105,110,117,101]⟩,(.func (.func 230) #[] #[]),7⟩] 8))=.ok () (w.alloc (.map #[⟨.string ⟨#[99,111,110,115,116]⟩,(.func (.func 227) #[] #[]),0⟩,⟨.string ⟨#[118,97,114]⟩,(.func (.func 227) #[] #[]),1⟩,⟨.string ⟨#[116,121,112,101]⟩,(.func (.func 227) #[] #[]),2⟩,⟨.string ⟨#[103,111]⟩,(.func (.func 228) #[] #[]),3⟩,⟨.string ⟨#[100,101,102,101,114]⟩,(.func (.func 228) #[] #[]),4⟩,⟨.string ⟨#[114,101,116,117,114,110]⟩,(.func (.func 229) #[] #[]),5⟩,⟨.string ⟨#[98,114,101,97,107]⟩,(.func (.func 230) #[] #[]),6⟩,⟨.string ⟨#[99,111,110,116,105,110,117,101]⟩,(.func (.func 230) #[] #[]),7⟩,⟨.string ⟨#[103,111,116,111]⟩,(.func (.func 230) #[] #[]),8⟩] 9)):=map_ins (es:=#[⟨.string ⟨#[99,111,110,115,116]⟩,(.func (.func 227) #[] #[]),0⟩,⟨.string ⟨#[118,97,114]⟩,(.func (.func 227) #[] #[]),1⟩,⟨.string ⟨#[116,121,112,101]⟩,(.func (.func 227) #[] #[]),2⟩,⟨.string ⟨#[103,111]⟩,(.func (.func 228) #[] #[]),3⟩,⟨.string ⟨#[100,101,102,101,114]⟩,(.func (.func 228) #[] #[]),4⟩,⟨.string ⟨#[114,101,116,117,114,110]⟩,(.func (.func 229) #[] #[]),5⟩,⟨.string ⟨#[98,114,101,97,107]⟩,(.func (.func 230) #[] #[]),6⟩,⟨.string ⟨#[99,111,110,116,105,110,117,101]⟩,(.func (.func 230) #[] #[]),7⟩]) (by rfl)
 have h9:Sem.run Tryz.prog (Instr.mapUpdate 180 (.map (some w.heap.size)) (.string ⟨#[102,97,108,108,116,104,114,111,117,103,104]⟩) (.func (.func 230) #[] #[])) (w.alloc (.map #[⟨.string ⟨#[99,111,110,115,116]⟩,(.func (.func 227) #[] #[]),0⟩,⟨.string ⟨#[118,97,114]⟩,(.func (.func 227) #[] #[]),1⟩,⟨.string ⟨#[116,121,112,101]⟩,(.func (.func 227) #[] #[]),2⟩,⟨.string ⟨#[103,111]⟩,(.func (.func 228) #[] #[]),3⟩,⟨.string ⟨#[100,101,102,101,114]⟩,(.func (.func 228) #[] #[]),4⟩,⟨.string ⟨#[114,101,116,117,114,110]⟩,(.func (.func 229) #[] #[]),5⟩,⟨.string ⟨#[98,114,101,97,107]⟩,(.func (.func 230) #[] #[]),6⟩,⟨.string ⟨#[99,111,110,116,105,110,117,101]⟩,(.func (.func 230) #[] #[]),7⟩,⟨.string ⟨#[103,111,116,111]⟩,(.func (.func 230) #[] #[]),8⟩] 9))=.ok () (w.alloc (.map #[⟨.string ⟨#[99,111,110,115,116]⟩,(.func (.func 227) #[] #[]),0⟩,⟨.string ⟨#[118,97,114]⟩,(.func (.func 227) #[] #[]),1⟩,⟨.string ⟨#[116,121,112,101]⟩,(.func (.func 227) #[] #[]),2⟩,⟨.string ⟨#[103,111]⟩,(.func (.func 228) #[] #[]),3⟩,⟨.string ⟨#[100,101,102,101,114]⟩,(.func (.func 228) #[] #[]),4⟩,⟨.string ⟨#[114,101,116,117,114,110]⟩,(.func (.func 229) #[] #[]),5⟩,⟨.string ⟨#[98,114,101,97,107]⟩,(.func (.func 230) #[] #[]),6⟩,⟨.string ⟨#[99,111,110,116,105,110,117,101]⟩,(.func (.func 230) #[] #[]),7⟩,⟨.string ⟨#[103,111,116,111]⟩,(.func (.func 230) #[] #[]),8⟩,⟨.string ⟨#[102,97,108,108,116,104,114,111,117,103,104]⟩,(.func (.func 230) #[] #[]),9⟩] 10)):=map_ins (es:=#[⟨.string ⟨#[99,111,110,115,116]⟩,(.func (.func 227) #[] #[]),0⟩,⟨.string ⟨#[118,97,114]⟩,(.func (.func 227) #[] #[]),1⟩,⟨.string ⟨#[116,121,112,101]⟩,(.func (.func 227) #[] #[]),2⟩,⟨.string ⟨#[103,111]⟩,(.func (.func 228) #[] #[]),3⟩,⟨.string ⟨#[100,101,102,101,114]⟩,(.func (.func 228) #[] #[]),4⟩,⟨.string ⟨#[114,101,116,117,114,110]⟩,(.func (.func 229) #[] #[]),5⟩,⟨.string ⟨#[98,114,101,97,107]⟩,(.func (.func 230) #[] #[]),6⟩,⟨.string ⟨#[99,111,110,116,105,110,117,101]⟩,(.func (.func 230) #[] #[]),7⟩,⟨.string ⟨#[103,111,116,111]⟩,(.func (.func 230) #[] #[]),8⟩]) (by rfl)
 have h10:Sem.run Tryz.prog (Instr.mapUpdate 180 (.map (some w.heap.size)) (.string ⟨#[123]⟩) (.func (.func 162) #[] #[])) (w.alloc (.map #[⟨.string ⟨#[99,111,110,115,116]⟩,(.func (.func 227) #[] #[]),0⟩,⟨.string ⟨#[118,97,114]⟩,(.func (.func 227) #[] #[]),1⟩,⟨.string ⟨#[116,121,112,101]⟩,(.func (.func 227) #[] #[]),2⟩,⟨.string ⟨#[103,111]⟩,(.func (.func 228) #[] #[]),3⟩,⟨.string ⟨#[100,101,102,101,114]⟩,(.func (.func 228) #[] #[]),4⟩,⟨.string ⟨#[114,101,116,117,114,110]⟩,(.func (.func 229) #[] #[]),5⟩,⟨.string ⟨#[98,114,101,97,107]⟩,(.func (.func 230) #[] #[]),6⟩,⟨.string ⟨#[99,111,110,116,105,110,117,101]⟩,(.func (.func 230) #[] #[]),7⟩,⟨.string ⟨#[103,111,116,111]⟩,(.func (.func 230) #[] #[]),8⟩,⟨.string ⟨#[102,97,108,108,116,104,114,111,117,103,104]⟩,(.func (.func 230) #[] #[]),9⟩] 10))=.ok () (w.alloc (.map #[⟨.string ⟨#[99,111,110,115,116]⟩,(.func (.func 227) #[] #[]),0⟩,⟨.string ⟨#[118,97,114]⟩,(.func (.func 227) #[] #[]),1⟩,⟨.string ⟨#[116,121,112,101]⟩,(.func (.func 227) #[] #[]),2⟩,⟨.string ⟨#[103,111]⟩,(.func (.func 228) #[] #[]),3⟩,⟨.string ⟨#[100,101,102,101,114]⟩,(.func (.func 228) #[] #[]),4⟩,⟨.string ⟨#[114,101,116,117,114,110]⟩,(.func (.func 229) #[] #[]),5⟩,⟨.string ⟨#[98,114,101,97,107]⟩,(.func (.func 230) #[] #[]),6⟩,⟨.string ⟨#[99,111,110,116,105,110,117,101]⟩,(.func (.func 230) #[] #[]),7⟩,⟨.string ⟨#[103,111,116,111]⟩,(.func (.func 230) #[] #[]),8⟩,⟨.string ⟨#[102,97,108,108,116,104,114,111,117,103,104]⟩,(.func (.func 230) #[] #[]),9⟩,⟨.string ⟨#[123]⟩,(.func (.func 162) #[] #[]),10⟩] 11)):=map_ins (es:=#[⟨.string ⟨#[99,111,110,115,116]⟩,(.func (.func 227) #[] #[]),0⟩,⟨.string ⟨#[118,97,114]⟩,(.func (.func 227) #[] #[]),1⟩,⟨.string ⟨#[116,121,112,101]⟩,(.func (.func 227) #[] #[]),2⟩,⟨.string ⟨#[103,111]⟩,(.func (.func 228) #[] #[]),3⟩,⟨.string ⟨#[100,101,102,101,114]⟩,(.func (.func 228) #[] #[]),4⟩,⟨.string ⟨#[114,101,116,117,114,110]⟩,(.func (.func 229) #[] #[]),5⟩,⟨.string ⟨#[98,114,101,97,107]⟩,(.func (.func 230) #[] #[]),6⟩,⟨.string ⟨#[99,111,110,116,105,110,117,101]⟩,(.func (.func 230) #[] #[]),7⟩,⟨.string ⟨#[103,111,116,111]⟩,(.func (.func 230) #[] #[]),8⟩,⟨.string ⟨#[102,97,108,108,116,104,114,111,117,103,104]⟩,(.func (.func 230) #[] #[]),9⟩]) (by rfl)
 have h11:Sem.run Tryz.prog (Instr.mapUpdate 180 (.map (some w.heap.size)) (.string ⟨#[105,102]⟩) (.func (.func 231) #[] #[])) (w.alloc (.map #[⟨.string ⟨#[99,111,110,115,116]⟩,(.func (.func 227) #[] #[]),0⟩,⟨.string ⟨#[118,97,114]⟩,(.func (.func 227) #[] #[]),1⟩,⟨.string ⟨#[116,121,112,101]⟩,(.func (.func 227) #[] #[]),2⟩,⟨.string ⟨#[103,111]⟩,(.func (.func 228) #[] #[]),3⟩,⟨.string ⟨#[100,101,102,101,114]⟩,(.func (.func 228) #[] #[]),4⟩,⟨.string ⟨#[114,101,116,117,114,110]⟩,(.func (.func 229) #[] #[]),5⟩,⟨.string ⟨#[98,114,101,97,107]⟩,(.func (.func 230) #[] #[]),6⟩,⟨.string ⟨#[99,111,110,116,105,110,117,101]⟩,(.func (.func 230) #[] #[]),7⟩,⟨.string ⟨#[103,111,116,111]⟩,(.func (.func 230) #[] #[]),8⟩,⟨.string ⟨#[102,97,108,108,116,104,114,111,117,103,104]⟩,(.func (.func 230) #[] #[]),9⟩,⟨.string ⟨#[123]⟩,(.func (.func 162) #[] #[]),10⟩] 11))=.ok () (w.alloc (.map #[⟨.string ⟨#[99,111,110,115,116]⟩,(.func (.func 227) #[] #[]),0⟩,⟨.string ⟨#[118,97,114]⟩,(.func (.func 227) #[] #[]),1⟩,⟨.string ⟨#[116,121,112,101]⟩,(.func (.func 227) #[] #[]),2⟩,⟨.string ⟨#[103,111]⟩,(.func (.func 228) #[] #[]),3⟩,⟨.string ⟨#[100,101,102,101,114]⟩,(.func (.func 228) #[] #[]),4⟩,⟨.string ⟨#[114,101,116,117,114,110]⟩,(.func (.func 229) #[] #[]),5⟩,⟨.string ⟨#[98,114,101,97,107]⟩,(.func (.func 230) #[] #[]),6⟩,⟨.string ⟨#[99,111,110,116,105,110,117,101]⟩,(.func (.func 230) #[] #[]),7⟩,⟨.string ⟨#[103,111,116,111]⟩,(.func (.func 230) #[] #[]),8⟩,⟨.string ⟨#[102,97,108,108,116,104,114,111,117,103,104]⟩,(.func (.func 230) #[] #[]),9⟩,⟨.string ⟨#[123]⟩,(.func (.func 162) #[] #[]),10⟩,⟨.string ⟨#[105,102]⟩,(.func (.func 231) #[] #[]),11⟩] 12)):=map_ins (es:=#[⟨.string ⟨#[99,111,110,115,116]⟩,(.func (.func 227) #[] #[]),0⟩,⟨.string ⟨#[118,97,114]⟩,(.func (.func 227) #[] #[]),1⟩,⟨.string ⟨#[116,121,112,101]⟩,(.func (.func 227) #[] #[]),2⟩,⟨.string ⟨#[103,111]⟩,(.func (.func 228) #[] #[]),3⟩,⟨.string ⟨#[100,101,102,101,114]⟩,(.func (.func 228) #[] #[]),4⟩,⟨.string ⟨#[114,101,116,117,114,110]⟩,(.func (.func 229) #[] #[]),5⟩,⟨.string ⟨#[98,114,101,97,107]⟩,(.func (.func 230) #[] #[]),6⟩,⟨.string ⟨#[99,111,110,116,105,110,117,101]⟩,(.func (.func 230) #[] #[]),7⟩,⟨.string ⟨#[103,111,116,111]⟩,(.func (.func 230) #[] #[]),8⟩,⟨.string ⟨#[102,97,108,108,116,104,114,111,117,103,104]⟩,(.func (.func 230) #[] #[]),9⟩,⟨.string ⟨#[123]⟩,(.func (.func 162) #[] #[]),10⟩]) (by rfl)
 have h12:Sem.run Tryz.prog (Instr.mapUpdate 180 (.map (some w.heap.size)) (.string ⟨#[115,119,105,116,99,104]⟩) (.func (.func 232) #[] #[])) (w.alloc (.map #[⟨.string ⟨#[99,111,110,115,116]⟩,(.func (.func 227) #[] #[]),0⟩,⟨.string ⟨#[118,97,114]⟩,(.func (.func 227) #[] #[]),1⟩,⟨.string ⟨#[116,121,112,101]⟩,(.func (.func 227) #[] #[]),2⟩,⟨.string ⟨#[103,111]⟩,(.func (.func 228) #[] #[]),3⟩,⟨.string ⟨#[100,101,102,101,114]⟩,(.func (.func 228) #[] #[]),4⟩,⟨.string ⟨#[114,101,116,117,114,110]⟩,(.func (.func 229) #[] #[]),5⟩,⟨.string ⟨#[98,114,101,97,107]⟩,(.func (.func 230) #[] #[]),6⟩,⟨.string ⟨#[99,111,110,116,105,110,117,101]⟩,(.func (.func 230) #[] #[]),7⟩,⟨.string ⟨#[103,111,116,111]⟩,(.func (.func 230) #[] #[]),8⟩,⟨.string ⟨#[102,97,108,108,116,104,114,111,117,103,104]⟩,(.func (.func 230) #[] #[]),9⟩,⟨.string ⟨#[123]⟩,(.func (.func 162) #[] #[]),10⟩,⟨.string ⟨#[105,102]⟩,(.func (.func 231) #[] #[]),11⟩] 12))=.ok () (w.alloc (.map #[⟨.string ⟨#[99,111,110,115,116]⟩,(.func (.func 227) #[] #[]),0⟩,⟨.string ⟨#[118,97,114]⟩,(.func (.func 227) #[] #[]),1⟩,⟨.string ⟨#[116,121,112,101]⟩,(.func (.func 227) #[] #[]),2⟩,⟨.string ⟨#[103,111]⟩,(.func (.func 228) #[] #[]),3⟩,⟨.string ⟨#[100,101,102,101,114]⟩,(.func (.func 228) #[] #[]),4⟩,⟨.string ⟨#[114,101,116,117,114,110]⟩,(.func (.func 229) #[] #[]),5⟩,⟨.string ⟨#[98,114,101,97,107]⟩,(.func (.func 230) #[] #[]),6⟩,⟨.string ⟨#[99,111,110,116,105,110,117,101]⟩,(.func (.func 230) #[] #[]),7⟩,⟨.string ⟨#[103,111,116,111]⟩,(.func (.func 230) #[] #[]),8⟩,⟨.string ⟨#[102,97,108,108,116,104,114,111,117,103,104]⟩,(.func (.func 230) #[] #[]),9⟩,⟨.string ⟨#[123]⟩,(.func (.func 162) #[] #[]),10⟩,⟨.string ⟨#[105,102]⟩,(.func (.func 231) #[] #[]),11⟩,⟨.string ⟨#[115,119,105,116,99,104]⟩,(.func (.func 232) #[] #[]),12⟩] 13)):=map_ins (es:=#[⟨.string ⟨#[99,111,110,115,116]⟩,(.func (.func 227) #[] #[]),0⟩,⟨.string ⟨#[118,97,114]⟩,(.func (.func 227) #[] #[]),1⟩,⟨.string ⟨#[116,121,112,101]⟩,(.func (.func 227) #[] #[]),2⟩,⟨.string ⟨#[103,111]⟩,(.func (.func 228) #[] #[]),3⟩,⟨.string ⟨#[100,101,102,101,114]⟩,(.func (.func 228) #[] #[]),4⟩,⟨.string ⟨#[114,101,116,117,114,110]⟩,(.func (.func 229) #[] #[]),5⟩,⟨.string ⟨#[98,114,101,97,107]⟩,(.func (.func 230) #[] #[]),6⟩,⟨.string ⟨#[99,111,110,116,105,110,117,101]⟩,(.func (.func 230) #[] #[]),7⟩,⟨.string ⟨#[103,111,116,111]⟩,(.func (.func 230) #[] #[]),8⟩,⟨.string ⟨#[102,97,108,108,116,104,114,111,117,103,104]⟩,(.func (.func 230) #[] #[]),9⟩,⟨.string ⟨#[123]⟩,(.func (.func 162) #[] #[]),10⟩,⟨.string ⟨#[105,102]⟩,(.func (.func 231) #[] #[]),11⟩]) (by rfl)
 have h13:Sem.run Tryz.prog (Instr.mapUpdate 180 (.map (some w.heap.size)) (.string ⟨#[115,101,108,101,99,116]⟩) (.func (.func 233) #[] #[])) (w.alloc (.map #[⟨.string ⟨#[99,111,110,115,116]⟩,(.func (.func 227) #[] #[]),0⟩,⟨.string ⟨#[118,97,114]⟩,(.func (.func 227) #[] #[]),1⟩,⟨.string ⟨#[116,121,112,101]⟩,(.func (.func 227) #[] #[]),2⟩,⟨.string ⟨#[103,111]⟩,(.func (.func 228) #[] #[]),3⟩,⟨.string ⟨#[100,101,102,101,114]⟩,(.func (.func 228) #[] #[]),4⟩,⟨.string ⟨#[114,101,116,117,114,110]⟩,(.func (.func 229) #[] #[]),5⟩,⟨.string ⟨#[98,114,101,97,107]⟩,(.func (.func 230) #[] #[]),6⟩,⟨.string ⟨#[99,111,110,116,105,110,117,101]⟩,(.func (.func 230) #[] #[]),7⟩,⟨.string ⟨#[103,111,116,111]⟩,(.func (.func 230) #[] #[]),8⟩,⟨.string ⟨#[102,97,108,108,116,104,114,111,117,103,104]⟩,(.func (.func 230) #[] #[]),9⟩,⟨.string ⟨#[123]⟩,(.func (.func 162) #[] #[]),10⟩,⟨.string ⟨#[105,102]⟩,(.func (.func 231) #[] #[]),11⟩,⟨.string ⟨#[115,119,105,116,99,104]⟩,(.func (.func 232) #[] #[]),12⟩] 13))=.ok () (w.alloc (.map #[⟨.string ⟨#[99,111,110,115,116]⟩,(.func (.func 227) #[] #[]),0⟩,⟨.string ⟨#[118,97,114]⟩,(.func (.func 227) #[] #[]),1⟩,⟨.string ⟨#[116,121,112,101]⟩,(.func (.func 227) #[] #[]),2⟩,⟨.string ⟨#[103,111]⟩,(.func (.func 228) #[] #[]),3⟩,⟨.string ⟨#[100,101,102,101,114]⟩,(.func (.func 228) #[] #[]),4⟩,⟨.string ⟨#[114,101,116,117,114,110]⟩,(.func (.func 229) #[] #[]),5⟩,⟨.string ⟨#[98,114,101,97,107]⟩,(.func (.func 230) #[] #[]),6⟩,⟨.string ⟨#[99,111,110,116,105,110,117,101]⟩,(.func (.func 230) #[] #[]),7⟩,⟨.string ⟨#[103,111,116,111]⟩,(.func (.func 230) #[] #[]),8⟩,⟨.string ⟨#[102,97,108,108,116,104,114,111,117,103,104]⟩,(.func (.func 230) #[] #[]),9⟩,⟨.string ⟨#[123]⟩,(.func (.func 162) #[] #[]),10⟩,⟨.string ⟨#[105,102]⟩,(.func (.func 231) #[] #[]),11⟩,⟨.string ⟨#[115,119,105,116,99,104]⟩,(.func (.func 232) #[] #[]),12⟩,⟨.string ⟨#[115,101,108,101,99,116]⟩,(.func (.func 233) #[] #[]),13⟩] 14)):=map_ins (es:=#[⟨.string ⟨#[99,111,110,115,116]⟩,(.func (.func 227) #[] #[]),0⟩,⟨.string ⟨#[118,97,114]⟩,(.func (.func 227) #[] #[]),1⟩,⟨.string ⟨#[116,121,112,101]⟩,(.func (.func 227) #[] #[]),2⟩,⟨.string ⟨#[103,111]⟩,(.func (.func 228) #[] #[]),3⟩,⟨.string ⟨#[100,101,102,101,114]⟩,(.func (.func 228) #[] #[]),4⟩,⟨.string ⟨#[114,101,116,117,114,110]⟩,(.func (.func 229) #[] #[]),5⟩,⟨.string ⟨#[98,114,101,97,107]⟩,(.func (.func 230) #[] #[]),6⟩,⟨.string ⟨#[99,111,110,116,105,110,117,101]⟩,(.func (.func 230) #[] #[]),7⟩,⟨.string ⟨#[103,111,116,111]⟩,(.func (.func 230) #[] #[]),8⟩,⟨.string ⟨#[102,97,108,108,116,104,114,111,117,103,104]⟩,(.func (.func 230) #[] #[]),9⟩,⟨.string ⟨#[123]⟩,(.func (.func 162) #[] #[]),10⟩,⟨.string ⟨#[105,102]⟩,(.func (.func 231) #[] #[]),11⟩,⟨.string ⟨#[115,119,105,116,99,104]⟩,(.func (.func 232) #[] #[]),12⟩]) (by rfl)
 have h14:Sem.run Tryz.prog (Instr.mapUpdate 180 (.map (some w.heap.size)) (.string ⟨#[102,111,114]⟩) (.func (.func 234) #[] #[])) (w.alloc (.map #[⟨.string ⟨#[99,111,110,115,116]⟩,(.func (.func 227) #[] #[]),0⟩,⟨.string ⟨#[118,97,114]⟩,(.func (.func 227) #[] #[]),1⟩,⟨.string ⟨#[116,121,112,101]⟩,(.func (.func 227) #[] #[]),2⟩,⟨.string ⟨#[103,111]⟩,(.func (.func 228) #[] #[]),3⟩,⟨.string ⟨#[100,101,102,101,114]⟩,(.func (.func 228) #[] #[]),4⟩,⟨.string ⟨#[114,101,116,117,114,110]⟩,(.func (.func 229) #[] #[]),5⟩,⟨.string ⟨#[98,114,101,97,107]⟩,(.func (.func 230) #[] #[]),6⟩,⟨.string ⟨#[99,111,110,116,105,110,117,101]⟩,(.func (.func 230) #[] #[]),7⟩,⟨.string ⟨#[103,111,116,111]⟩,(.func (.func 230) #[] #[]),8⟩,⟨.string ⟨#[102,97,108,108,116,104,114,111,117,103,104]⟩,(.func (.func 230) #[] #[]),9⟩,⟨.string ⟨#[123]⟩,(.func (.func 162) #[] #[]),10⟩,⟨.string ⟨#[105,102]⟩,(.func (.func 231) #[] #[]),11⟩,⟨.string ⟨#[115,119,105,116,99,104]⟩,(.func (.func 232) #[] #[]),12⟩,⟨.string ⟨#[115,101,108,101,99,116]⟩,(.func (.func 233) #[] #[]),13⟩] 14))=.ok () (w.alloc (.map #[⟨.string ⟨#[99,111,110,115,116]⟩,(.func (.func 227) #[] #[]),0⟩,⟨.string ⟨#[118,97,114]⟩,(.func (.func 227) #[] #[]),1⟩,⟨.string ⟨#[116,121,112,101]⟩,(.func (.func 227) #[] #[]),2⟩,⟨.string ⟨#[103,111]⟩,(.func (.func 228) #[] #[]),3⟩,⟨.string ⟨#[100,101,102,101,114]⟩,(.func (.func 228) #[] #[]),4⟩,⟨.string ⟨#[114,101,116,117,114,110]⟩,(.func (.func 229) #[] #[]),5⟩,⟨.string ⟨#[98,114,101,97,107]⟩,(.func (.func 230) #[] #[]),6⟩,⟨.string ⟨#[99,111,110,116,105,110,117,101]⟩,(.func (.func 230) #[] #[]),7⟩,⟨.string ⟨#[103,111,116,111]⟩,(.func (.func 230) #[] #[]),8⟩,⟨.string ⟨#[102,97,108,108,116,104,114,111,117,103,104]⟩,(.func (.func 230) #[] #[]),9⟩,⟨.string ⟨#[123]⟩,(.func (.func 162) #[] #[]),10⟩,⟨.string ⟨#[105,102]⟩,(.func (.func 231) #[] #[]),11⟩,⟨.string ⟨#[115,119,105,116,99,104]⟩,(.func (.func 232) #[] #[]),12⟩,⟨.string ⟨#[115,101,108,101,99,116]⟩,(.func (.func 233) #[] #[]),13⟩,⟨.string ⟨#[102,111,114]⟩,(.func (.func 234) #[] #[]),14⟩] 15)):=map_ins (es:=#[⟨.string ⟨#[99,111,110,115,116]⟩,(.func (.func 227) #[] #[]),0⟩,⟨.string ⟨#[118,97,114]⟩,(.func (.func 227) #[] #[]),1⟩,⟨.string ⟨#[116,121,112,101]⟩,(.func (.func 227) #[] #[]),2⟩,⟨.string ⟨#[103,111]⟩,(.func (.func 228) #[] #[]),3⟩,⟨.string ⟨#[100,101,102,101,114]⟩,(.func (.func 228) #[] #[]),4⟩,⟨.string ⟨#[114,101,116,117,114,110]⟩,(.func (.func 229) #[] #[]),5⟩,⟨.string ⟨#[98,114,101,97,107]⟩,(.func (.func 230) #[] #[]),6⟩,⟨.string ⟨#[99,111,110,116,105,110,117,101]⟩,(.func (.func 230) #[] #[]),7⟩,⟨.string ⟨#[103,111,116,111]⟩,(.func (.func 230) #[] #[]),8⟩,⟨.string ⟨#[102,97,108,108,116,104,114,111,117,103,104]⟩,(.func (.func 230) #[] #[]),9⟩,⟨.string ⟨#[123]⟩,(.func (.func 162) #[] #[]),10⟩,⟨.string ⟨#[105,102]⟩,(.func (.func 231) #[] #[]),11⟩,⟨.string ⟨#[115,119,105,116,99,104]⟩,(.func (.func 232) #[] #[]),12⟩,⟨.string ⟨#[115,101,108,101,99,116]⟩,(.func (.func 233) #[] #[]),13⟩]) (by rfl)
 go_enter Tryz.func194,Tryz.ntmps194
 go_wp2_with fail
 go_ret
 exact⟨rfl,rfl⟩
end
end Go.Proofs.YtcjmpafkcmlhbaaGreatDoor
