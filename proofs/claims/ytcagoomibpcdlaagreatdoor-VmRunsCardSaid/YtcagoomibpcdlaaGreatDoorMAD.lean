import Derived.KernelRfl
set_option maxHeartbeats 16000000
/- Short names of theorems of the library. -/
theorem qAA:type_of% @List.getElem?_eq_some_iff:=@List.getElem?_eq_some_iff
theorem qAB:type_of% @List.getElem?_eq_getElem:=@List.getElem?_eq_getElem
theorem qAC:type_of% @List.length_map:=@List.length_map
theorem qAD:type_of% @List.getD_eq_getElem?_getD:=@List.getD_eq_getElem?_getD
theorem qAE:type_of% @List.length_append:=@List.length_append
theorem qAF:type_of% @List.mem_of_getElem?:=@List.mem_of_getElem?
theorem qAG:type_of% @List.length_take:=@List.length_take
theorem qAH:type_of% @List.getElem?_map:=@List.getElem?_map
theorem qAI:type_of% @List.getElem?_append_left:=@List.getElem?_append_left
theorem qAJ:type_of% @List.getElem?_append_right:=@List.getElem?_append_right
theorem qAK:type_of% @Array.getElem?_eq_getElem:=@Array.getElem?_eq_getElem
theorem qAL:type_of% @Array.getD_eq_getD_getElem?:=@Array.getD_eq_getD_getElem?
theorem qAM:type_of% @List.mem_singleton:=@List.mem_singleton
theorem qAN:type_of% @List.length_cons:=@List.length_cons
theorem qAO:type_of% @Nat.le_of_ble_eq_true:=@Nat.le_of_ble_eq_true
theorem qAP:type_of% @Nat.le_refl:=@Nat.le_refl
theorem qAQ:type_of% @Nat.zero_le:=@Nat.zero_le
theorem qAR:type_of% @Nat.lt_or_ge:=@Nat.lt_or_ge
theorem qAS:type_of% @List.getElem?_take:=@List.getElem?_take
theorem qAT:type_of% @Array.length_toList:=@Array.length_toList
theorem qAU:type_of% @List.map_append:=@List.map_append
theorem qAV:type_of% @Bool.and_eq_true:=@Bool.and_eq_true
theorem qAW:type_of% @List.mem_of_mem_take:=@List.mem_of_mem_take
theorem qAX:type_of% @List.getElem?_set:=@List.getElem?_set
theorem qAY:type_of% @Nat.zero_add:=@Nat.zero_add
theorem qAZ:type_of% @List.length_set:=@List.length_set
theorem qAa:type_of% @Nat.lt_of_lt_of_le:=@Nat.lt_of_lt_of_le
theorem qAb:type_of% @List.all_eq_true:=@List.all_eq_true
theorem qAc:type_of% @List.mem_append:=@List.mem_append
theorem qAd:type_of% @List.length_drop:=@List.length_drop
theorem qAe:type_of% @List.take_of_length_le:=@List.take_of_length_le
theorem qAf:type_of% @List.flatMap_cons:=@List.flatMap_cons
theorem qAg:type_of% @List.append_assoc:=@List.append_assoc
theorem qAh:type_of% @Nat.mul_le_mul_right:=@Nat.mul_le_mul_right
theorem qAi:type_of% @List.mem_cons_of_mem:=@List.mem_cons_of_mem
theorem qAj:type_of% @List.length_nil:=@List.length_nil
theorem qAk:type_of% @Nat.eq_of_beq_eq_true:=@Nat.eq_of_beq_eq_true
theorem qAl:type_of% @List.getElem?_drop:=@List.getElem?_drop
theorem qAm:type_of% @List.mem_append_left:=@List.mem_append_left
theorem qAn:type_of% @Int.toNat_natCast:=@Int.toNat_natCast
theorem qAo:type_of% @List.mem_of_mem_drop:=@List.mem_of_mem_drop
theorem qAp:type_of% @List.length_replicate:=@List.length_replicate
theorem qAq:type_of% @List.eq_nil_of_length_eq_zero:=@List.eq_nil_of_length_eq_zero
theorem qAr:type_of% @List.map_cons:=@List.map_cons
theorem qAs:type_of% @Array.getElem?_append_left:=@Array.getElem?_append_left
theorem qAt:type_of% @Array.getElem?_eq_some_iff:=@Array.getElem?_eq_some_iff
theorem qAu:type_of% @Nat.le_trans:=@Nat.le_trans
theorem qAv:type_of% @List.getElem?_eq_none:=@List.getElem?_eq_none
theorem qAw:type_of% @List.take_length:=@List.take_length
theorem qAx:type_of% @Nat.add_mul:=@Nat.add_mul
theorem qAy:type_of% @List.length_dropLast:=@List.length_dropLast
theorem qAz:type_of% @List.length_singleton:=@List.length_singleton
theorem qA0:type_of% @Int.toNat_of_nonneg:=@Int.toNat_of_nonneg
theorem qA1:type_of% @List.mem_iff_getElem?:=@List.mem_iff_getElem?
theorem qA2:type_of% @Nat.le_of_eq:=@Nat.le_of_eq
theorem qA3:type_of% @List.length_pos_iff:=@List.length_pos_iff
theorem qA4:type_of% @Array.getElem?_toList:=@Array.getElem?_toList
theorem qA5:type_of% @List.mem_map:=@List.mem_map
theorem qA6:type_of% @Nat.add_zero:=@Nat.add_zero
theorem qA7:type_of% @List.take_add_one:=@List.take_add_one
theorem qA8:type_of% @List.getElem_mem:=@List.getElem_mem
theorem qA9:type_of% @List.drop_eq_getElem_cons:=@List.drop_eq_getElem_cons
theorem qBA:type_of% @Option.some.inj:=@Option.some.inj
theorem qBB:type_of% @Option.isSome_iff_exists:=@Option.isSome_iff_exists
theorem qBC:type_of% @List.append_nil:=@List.append_nil
theorem qBD:type_of% @List.length_filter_le:=@List.length_filter_le
theorem qBE:type_of% @Array.mem_of_getElem?:=@Array.mem_of_getElem?
theorem qBF:type_of% @List.dropLast_eq_take:=@List.dropLast_eq_take
theorem qBG:type_of% @List.getLast?_eq_getElem?:=@List.getLast?_eq_getElem?
theorem qBH:type_of% @List.map_toArray:=@List.map_toArray
theorem qBI:type_of% @List.filter_cons:=@List.filter_cons
theorem qBJ:type_of% @List.take_append_of_le_length:=@List.take_append_of_le_length
theorem qBK:type_of% @Bool.false_eq_true:=@Bool.false_eq_true
theorem qBL:type_of% @List.mem_cons:=@List.mem_cons
theorem qBM:type_of% @Nat.sub_self:=@Nat.sub_self
theorem qBN:type_of% @List.mem_range:=@List.mem_range
theorem qBO:type_of% @Int.le_refl:=@Int.le_refl
theorem qBP:type_of% @List.getElem?_eq_none_iff:=@List.getElem?_eq_none_iff
theorem qBQ:type_of% @Decidable.em:=@Decidable.em
theorem qBR:type_of% @Array.getElem?_setIfInBounds_ne:=@Array.getElem?_setIfInBounds_ne
theorem qBS:type_of% @Nat.lt_trichotomy:=@Nat.lt_trichotomy
theorem qBT:type_of% @List.size_toArray:=@List.size_toArray
theorem qBU:type_of% @List.map_replicate:=@List.map_replicate
theorem qBV:type_of% @List.take_append_drop:=@List.take_append_drop
theorem qBW:type_of% @List.getElem?_toArray:=@List.getElem?_toArray
theorem qBX:type_of% @List.set_append_right:=@List.set_append_right
theorem qBY:type_of% @Option.getD_some:=@Option.getD_some
theorem qBZ:type_of% @List.mem_or_eq_of_mem_set:=@List.mem_or_eq_of_mem_set
theorem qBa:type_of% @List.getLast?_eq_none_iff:=@List.getLast?_eq_none_iff
theorem qBb:type_of% @List.dropLast_subset:=@List.dropLast_subset
theorem qBc:type_of% @List.mem_of_getLast?:=@List.mem_of_getLast?
theorem qBd:type_of% @List.set_eq_take_append_cons_drop:=@List.set_eq_take_append_cons_drop
theorem qBe:type_of% @List.mem_append_right:=@List.mem_append_right
theorem qBf:type_of% @List.map_nil:=@List.map_nil
theorem qBg:type_of% @List.map_congr_left:=@List.map_congr_left
theorem qBh:type_of% @List.map_take:=@List.map_take
theorem qBi:type_of% @Int.fdiv_eq_ediv_of_nonneg:=@Int.fdiv_eq_ediv_of_nonneg
theorem qBj:type_of% @List.nil_append:=@List.nil_append
theorem qBk:type_of% @List.cons_append:=@List.cons_append
theorem qBl:type_of% @List.length_zipWith:=@List.length_zipWith
theorem qBm:type_of% @List.ext_getElem?:=@List.ext_getElem?
theorem qBn:type_of% @Option.map_some:=@Option.map_some
theorem qBo:type_of% @List.set_cons_zero:=@List.set_cons_zero
theorem qBp:type_of% @List.mem_iff_getElem:=@List.mem_iff_getElem
theorem qBq:type_of% @Bool.or_eq_true:=@Bool.or_eq_true
theorem qBr:type_of% @List.map_set:=@List.map_set
theorem qBs:type_of% @Nat.ne_of_lt:=@Nat.ne_of_lt
theorem qBt:type_of% @List.map_map:=@List.map_map
theorem qBu:type_of% @Option.some.injEq:=@Option.some.injEq
theorem qBv:type_of% @Bool.not_eq_true':=@Bool.not_eq_true'
theorem qBw:type_of% @Nat.min_eq_left:=@Nat.min_eq_left
theorem qBx:type_of% @Bool.false_or:=@Bool.false_or
theorem yA{p:Prop}(h:p:=by
 repeat' first|apply en_n|apply zAE|apply zAA|apply zAB|apply w0|(refine zAX ?_)|(refine zAu ?_)|exact zA5|(with_reducible exact rfl)|(refine RV_c rfl rfl zAV rfl rfl ?_ ?_)|exact ycA zFZ hN|exact ycA zFx hP|refine k1ud (hd:=rfl) rfl rfl ?_|exact ycA zBw hT|exact zC9 zBa zBC zDD rfl|exact zEH rfl (zA0 rfl) zBa zBC zDw zDx (zJs _) hcp|exact ycA zE6 hH|exact ycA zFY hP|exact ycA zIg hR|exact ycA zJY hL|exact ycA zFY hP2|exact ycA zCY hI2|exact ycA zB3 hT5|(apply zD2;exact rfl;with_reducible exact ustr)|(apply zNh;exact rfl;exact rfl;omega)|exact ycA zGv hR|exact ycA zJX hX|exact ycA zFR hB|exact ycA zCD hO|exact ycA zCD hO2|refine kU (hd:=rfl) rfl rfl ?_|refine k1u (hd:=rfl) rfl rfl ?_|refine k0u (hd:=rfl) rfl rfl ?_|exact ycA zbP hA|exact ycA zbM hB|exact ycA zbN hC|exact ycA zU5 hD|exact ycA zU4 hE|exact ycA zGh hN|(refine zCJ (by kernel_rfl) ?_;refine aStA ?_)|refine aJA ?_|refine aBoA ?_|refine aAlA ?_|refine ayA rfl ?_|refine ayQ rfl ?_|apply ay (hd:=rfl)|refine zCe rfl rfl ?_|(apply zGm;(first|exact zA0 rfl|exact zBX rfl rfl rfl|exact Co_nn rfl);(with_reducible exact zBC);exact rfl;exact fun _=>rfl)|refine w1 rfl rfl ?_|(refine w0' ?_)|refine aStA ?_|refine zAJ rfl ?_|refine zAI rfl ?_|apply zAO|apply zAP|apply zAM|refine awDA ?_|apply en_r|apply eb_n|apply eb_r
 all_goals first|omega|rfl|exact zUl rfl|exact zND rfl rfl rfl rfl):p:=h
theorem yB{p:Prop}(h:p:=by
 repeat' first|apply en_n|apply zAE|apply zAA|apply zAB|apply w0|(refine zAX ?_)|(refine zBu ?_)|(refine zAu ?_)|exact zA5|(refine RV_d rfl ?_ ?_)|(refine RV_n rfl ?_ ?_)|(apply zBQ;exact rfl;exact rfl;exact rfl;(with_reducible exact zHK);exact hidx;(rw[qAC,hI3.len];omega))|(apply zDv;exact rfl;(first|with_reducible exact zG3))|exact zCT rfl zAm rfl hat3 rfl|exact zEf rfl zFd rfl hat3 rfl rfl rfl|exact ycA zJZ hS|(with_reducible exact rfl)|(refine RV_c rfl rfl zAV rfl rfl ?_ ?_)|exact ycA zOk hT|exact ycA zIh hP|exact ycA zFR hB|(refine zBI (cs:=[i64 1,i64 a,str [],.slice (ps.map rfD)]) zMk zHl (PD_d rfl rfl (PD_d rfl rfl (PD_d rfl rfl zCI))) rfl)|(refine zBI (cs:=[i64 2,i64 a,str [],.slice (ps.map rfD)]) zMk zHl (PD_d rfl rfl (PD_d rfl rfl (PD_d rfl rfl zCI))) rfl)|(refine zBI (cs:=[i64 3,i64 0,str [],.slice (ps.map rfD)]) zMk zHl (PD_d rfl rfl (PD_d rfl rfl zCI)) rfl)|exact ycA zCY hN|exact ycA zJ9 hP|(apply zD2;exact rfl;with_reducible exact ustr)|exact ycA zGh hN|exact ycA zU5 hD|exact ycA zU4 hE|exact ycA zGv hR|refine aBoA ?_|refine kUd (hd:=rfl) rfl rfl ?_|refine k0ud (hd:=rfl) rfl rfl ?_|refine k0u (hd:=rfl) rfl rfl ?_|exact ycA zB3 hT|exact ycA zBw hT|exact ycA zGv hP|exact ycA zCD hO|exact ycA zCD hO2|exact ycA zCY hP|(refine zCJ (by kernel_rfl) ?_;refine aStA ?_)|refine aJA ?_|exact ycA zB3 hP|refine aAlA ?_|refine ayA rfl ?_|refine ayQ rfl ?_|apply ay (hd:=rfl)|refine w1 rfl rfl ?_|(refine w0' ?_)|refine aStA ?_|refine zAJ rfl ?_|refine zAI rfl ?_|apply zAO|apply zAP|apply zAM|refine awDA ?_|apply en_r|apply eb_r|apply eb_n
 all_goals first|omega|rfl):p:=h
theorem yC{p:Prop}(h:p:=by
 repeat' first|apply en_n|apply zAE|apply zAA|apply zAB|apply w0|exact ycA zIl hI|exact ycA zLX hC|refine kU (hd:=rfl) rfl rfl ?_|refine k1u (hd:=rfl) rfl rfl ?_|(apply zAG;exact rfl;(first|with_reducible exact zAw|with_reducible exact vq_tc_23);exact rfl;exact rfl)|exact qcA ids9 [] zBJ (hT)|exact qcA ids9 [] zDB (hN)|exact qcA ids9 [] zCd (hO)|exact qcA [1,2,3,4] [] zC3 (hX)|(refine aVMtA (fx:=fx) (m:=m) (r:=nxt r) (tl:=[inB _ a b]) zIT hK ?_)|(refine aVMtA (fx:=fx) (m:=m) (r:=r1) (tl:=[inB _ a b]) zJ1 hG ?_)|(refine aVMtA (fx:=fx) (m:=m) (r:=nxt r) (tl:=[inB _ a b]) zJ1 hG ?_)|(refine zCJ (by kernel_rfl) ?_;refine aVMtA (fx:=fx) (m:=m) (r:=nxt r) (tl:=[inB _ a b]) zJ1 hG ?_)|refine aJA ?_|(refine zAX ?_)|(refine zBu ?_)|(refine RV_c rfl rfl zBy rfl rfl ?_ ?_)|(refine RV_d rfl ?_ ?_)|exact zA5|(with_reducible exact rfl)|(refine zBI (cs:=[i64 0,.slice [],i64 0,.slice [],i64 0]) zIs zDy zCI rfl)|refine aStA ?_|exact zLy rfl|exact zZL rfl|exact zZK rfl|refine k0u (hd:=rfl) rfl rfl ?_|exact ycA zEC hK|exact ycA zF7 hG|exact ycA zE8 hN|exact ycA zEB hA|exact ycA zEB hB|exact ycA zEi hV|exact ycA zI3 hN|(refine zPF [] zI3 hN (SArgs_all rfl) rfl rfl (by decide) rfl rfl rfl rfl rfl rfl ?_)|refine aBoA ?_|refine aAlA ?_|refine ayA rfl ?_|refine ayQ rfl ?_|apply ay (hd:=rfl)|exact zHI rfl rfl|exact zFC rfl rfl|refine w1 rfl rfl ?_|(apply gD;exact rfl;exact rfl;all_goals intro hb)|exact zJf rfl rfl|(refine w0' ?_)|refine zAJ rfl ?_|refine zAI rfl ?_|apply zAO|refine awDA ?_|apply eb_n|apply zAP|apply zAM|apply en_r|apply zAS|refine res1 rfl ?_
 all_goals first|omega|rfl|exact zCy rfl rfl):p:=h
theorem yD{p:Prop}(h:p:=by
 repeat' first|apply en_n|apply zAE|apply zAA|apply zAB|apply w0|(apply zAG;exact rfl;(first|with_reducible exact zAw|with_reducible exact vq_tc_23);exact rfl;exact rfl)|exact qcA ids9 [] zDu (hH)|exact qcA ids9 [] zBJ (hT)|exact qcA ids9 [] zDB (hN)|exact qcA [1,2,3,4] [] zF8 (hX)|(refine aVMtA (fx:=fx) (m:=m) (r:=nxt r) (tl:=[inB _ a b]) zGO hP ?_)|(refine zCJ (by kernel_rfl) ?_;refine aVMtA (fx:=fx) (m:=m) (r:=nxt r) (tl:=[inB _ a b]) zEt hP ?_)|(refine aVMtA (fx:=fx) (m:=m) (r:=nxt r) (tl:=[inB _ a b]) zDB hP ?_)|(refine aVMtA (fx:=fx) (m:=m) (r:=nxt r) (tl:=[inB _ a b]) zCd hP ?_)|(refine aVMtA (fx:=fx) (m:=m) (r:=nxt r) (tl:=[inB _ a b]) zI2 hP ?_)|(refine zNg rfl rfl rfl)|exact ycA zCk (zF4 a)|(refine zCA zBn zBf zET rfl rfl (zAN rfl zAH) rfl)|(refine zQH [0,1,2,3,6,7,4] [4,5,6] rfl rfl zFK (hS) rfl (SArgs_all rfl) rfl rfl (by decide) rfl rfl rfl rfl rfl rfl ?_)|(refine zCJ (by kernel_rfl) ?_;refine zQH [0,1,2,3,6,7,4] [4,5,6] rfl rfl zFK (hS) rfl (SArgs_all rfl) rfl rfl (by decide) rfl rfl rfl rfl rfl rfl ?_)|(apply zAG;exact rfl;(first|with_reducible exact zAY|with_reducible exact zB1|with_reducible exact zDJ|with_reducible exact zB5|with_reducible exact zAw|with_reducible exact zEJ|with_reducible exact zAm);exact rfl;exact rfl)|refine k1u (hd:=rfl) rfl rfl ?_|(refine zAX ?_)|(refine zBu ?_)|(refine zAu ?_)|exact zA5|(refine RV_d rfl ?_ ?_)|(with_reducible exact rfl)|(refine RV_c rfl rfl zDl rfl rfl ?_ ?_)|(refine RV_c rfl rfl zA7 rfl rfl ?_ ?_)|exact ycA zFy hN|exact ycA zFZ hZ|(refine zCJ (by kernel_rfl) ?_;refine aStA ?_)|refine aBoA ?_|(refine RV_c rfl rfl zAV rfl rfl ?_ ?_)|refine k0u (hd:=rfl) rfl rfl ?_|exact ycA zBw hT|exact ycA zCD hO|exact ycA zB3 hP|refine aJA ?_|refine aAlA ?_|refine ayA rfl ?_|refine ayQ rfl ?_|apply ay (hd:=rfl)|refine zBp rfl rfl ?_|refine zCe rfl rfl ?_|refine w1 rfl rfl ?_|refine k1 (hd:=rfl) rfl rfl ?_|(apply gD;exact rfl;exact rfl;all_goals intro hb)|(apply gN;exact rfl;exact rfl;all_goals intro hb)|(refine w0' ?_)|refine aStA ?_|refine zAJ rfl ?_|refine zAI rfl ?_|apply zAO|apply zAP|apply zAM|refine awDA ?_|apply en_r|apply eb_n
 all_goals first|omega|rfl|exact zFi rfl|exact zCy rfl rfl|exact za1 rfl):p:=h
theorem yE{p:Prop}(h:p:=by
 repeat' first|apply en_n|apply zAE|apply zAA|apply zAB|apply w0|refine kU (hd:=rfl) rfl rfl ?_|refine k1u (hd:=rfl) rfl rfl ?_|refine k0u (hd:=rfl) rfl rfl ?_|exact ycA zEC hK|exact ycA zF7 hG|exact ycA zE8 hN|exact ycA zEB hA|exact ycA zEB hB|refine aBoA ?_|refine ayA rfl ?_|apply ay (hd:=rfl)|exact zHI rfl rfl|exact zFC rfl rfl|exact zJf rfl rfl|refine w1 rfl rfl ?_|(apply gD;exact rfl;exact rfl;all_goals intro hb)|(apply zBO;exact rfl;all_goals intro hb)|refine zAJ rfl ?_|refine zAI rfl ?_|apply zAP|apply zAM|apply en_r|apply zAS|refine res1 rfl ?_
 all_goals first|(simp_all;done)|(simp_all;omega)):p:=h
theorem yF{p:Prop}(h:p:=by
 repeat' first|apply en_n|apply zAE|apply zAA|apply zAB|apply w0|refine k1u (hd:=rfl) rfl rfl ?_|(refine zAR zEa hA zAH)|exact ycA zFa hF|exact ycA zE9 hC|exact ycA zGN hR1|exact ycA zOj hD|exact ycA zE7 hV|exact ycA zFz hS|exact ycA zFz hS0|(refine zBI (cs:=[i64 0,.slice [],i64 0,.slice [],i64 0]) zIs zDy zCI rfl)|refine aStA ?_|refine aBoA ?_|refine aAlA ?_|refine ayA rfl ?_|refine ayQ rfl ?_|apply ay (hd:=rfl)|refine w1 rfl rfl ?_|(refine w0' ?_)|refine zAJ rfl ?_|refine zAI rfl ?_|apply zAP|apply zAM|apply en_r|apply zAS|refine res1 rfl ?_
 all_goals first|omega|rfl|contradiction|(exact zDn (decide_eq_true rfl))|skip):p:=h
theorem yG{p:Prop}(h:p:=by
 repeat' first|apply en_n|apply zAE|apply zAA|apply zAB|apply w0|refine kU (hd:=rfl) rfl rfl ?_|refine k1u (hd:=rfl) rfl rfl ?_|refine k0u (hd:=rfl) rfl rfl ?_|exact ycA zHX hG|exact ycA zHh hN|refine aBoA ?_|refine ayA rfl ?_|apply ay (hd:=rfl)|exact zES rfl rfl|exact zHI rfl rfl|exact zFC rfl rfl|refine w1 rfl rfl ?_|(apply gD;exact rfl;exact rfl;all_goals intro hb)|(apply zBO;exact rfl;all_goals intro hb)|refine zAJ rfl ?_|refine zAI rfl ?_|apply zAP|apply zAM|apply en_r|apply zAS|refine res1 rfl ?_
 all_goals apply zDn
 all_goals first|(simp_all;done)|(simp_all;omega)):p:=h
theorem yH{p:Prop}(h:p:=by
 repeat' first|apply en_n|apply zAE|apply zAA|apply zAB|apply w0|(apply zD2;exact rfl;with_reducible exact ustr)|(apply zNh;exact rfl;exact rfl;omega)|exact qcA ids9 [] zBJ (hT1)|exact qcA ids9 [] zBJ (hT0)|exact qcA ids9 [] zCd (hO1)|exact qcA ids9 [] zCd (hO0)|exact qcA [1,2,3,4] [] zFM (hX1)|exact qcA [1,2,3,4] [] zFM (hX0)|(refine aVMA zMU (hR) ?_)|(refine aVMA zI2 (hR) ?_)|(refine zAX ?_)|(refine zAu ?_)|exact zA5|(with_reducible exact rfl)|(refine RV_c rfl rfl zAV rfl rfl ?_ ?_)|exact ycA zFZ hN|exact ycA zNJ hI|exact ycA zNI hA|exact ycA zOi hA|exact ycA zE6 hH|exact ycA zB3 hT6|exact ycA zFY hP|exact ycA zCY hI1|exact ycA zB3 hT|exact ycA zCY hI|(refine zC9 zBa zBC zDD rfl)|exact zHf rfl (hco _) zBC|(refine zEH (ys:=[.agg [bl (rN r),i64 (rV r)]]) rfl (zA0 rfl) zBa zBC zDw zDx (fun d hd=>by rw[qAM.1 hd];rfl) (by simp))|exact zC9 zFr zEw zKp rfl|(apply zEH;exact rfl;exact zA0 rfl;(with_reducible exact zFr);(with_reducible exact zEw);(with_reducible exact zMj);(with_reducible exact zMm);exact(fun d hd=>by obtain⟨c,_,rfl⟩:=qA5.1 hd;rfl);exact hcp)|exact ycA zBw hT|exact ycA zFx hP|exact ycA zCY hP|(refine zCJ (by kernel_rfl) ?_;refine aStA ?_)|refine aBoA ?_|refine aAlA ?_|refine ayA rfl ?_|refine ayL rfl ?_|refine ayQ rfl ?_|apply ay (hd:=rfl)|refine zCe rfl rfl ?_|(apply zGm;(first|exact zA0 rfl|exact zBX rfl rfl rfl|exact Co_nn rfl);(with_reducible exact zBC);exact rfl;exact fun _=>rfl)|(apply zGm;(first|exact zA0 rfl|exact zBX rfl rfl rfl|exact Co_nn rfl);(with_reducible exact zEw);exact rfl;exact fun _=>rfl)|refine zBp rfl rfl ?_|refine w1 rfl rfl ?_|(refine w0' ?_)|refine aStA ?_|refine zAJ rfl ?_|refine zAI rfl ?_|apply zAP|apply zAO|apply zAM|refine awDA ?_|apply en_r|apply eb_r
 all_goals first|omega|rfl|exact zD8 rfl|(rw[he];rfl)|exact zE5 rfl):p:=h
theorem yI{p:Prop}(h:p:=by
 repeat' first|exact zDv rfl zG5|apply en_n|apply zAE|apply zAA|apply zAB|apply w0|(apply zD2;exact rfl;with_reducible exact ustr)|exact qcA ids4 [] zU1 (hQ)|exact qcA ids4 [] zOh (hQ)|(refine zCA zBn zBf zET rfl rfl (zAN rfl zAH) rfl)|(refine zRj zBn zBf zET rfl rfl (zAN rfl (zAN rfl zAH)) rfl)|(refine zCJ (by kernel_rfl) ?_;refine zQH [0,1,2,3,6,7,4] [4,5,6] rfl rfl zFK (hS) rfl (SArgs_all rfl) rfl rfl (by decide) rfl rfl rfl rfl rfl rfl ?_)|(apply zAG;exact rfl;(first|with_reducible exact zAY|with_reducible exact zB1|with_reducible exact zDJ|with_reducible exact zB5|with_reducible exact zAw|with_reducible exact zEJ|with_reducible exact zAm);exact rfl;exact rfl)|exact ycA zCk hTk|exact qcA ids9 [] zBJ (hT)|exact qcA ids9 [] zBJ (hT0)|exact qcA ids9 [] zCd (hO)|exact qcA [1,2,3,4] [] zFM (hX)|(refine zCJ (by kernel_rfl) ?_;refine aHM zNN hP (SArgs_all rfl) rfl rfl ?_)|(refine aVMA zFX (hN) ?_)|(refine zAX ?_)|(refine zAu ?_)|exact zA5|(with_reducible exact rfl)|(refine RV_c rfl rfl zAV rfl rfl ?_ ?_)|exact ycA zXv hW|exact ycA zJ9 hP|(refine zCJ (by kernel_rfl) ?_;refine aStA ?_)|(refine zEf rfl (by with_reducible exact zFu) rfl hat2 rfl rfl rfl)|(apply zAG;exact rfl;(first|with_reducible exact zDz|with_reducible exact zFO|with_reducible exact zB1);exact rfl;exact rfl)|(apply zBQ;exact rfl;exact rfl;exact rfl;(with_reducible exact zKO);omega;(rw[qAC];omega))|exact zCT rfl zAm rfl hat rfl|exact ycA zL8 hS|refine aBoA ?_|(apply zAG;exact rfl;(first|with_reducible exact zAw|with_reducible exact vq_tc_23);exact rfl;exact rfl)|(refine aVMtA (fx:=fx) (m:=m) (r:=nxt r) (tl:=[inB _ a b]) zDt hR ?_)|(refine aVMtA (fx:=fx) (m:=m) (r:=nxt r) (tl:=[inB _ a b]) zSh hR ?_)|(refine aVMtA (fx:=fx) (m:=m) (r:=nxt r) (tl:=[inB _ a b]) zIT hR ?_)|(refine aVMtA (fx:=fx) (m:=m) (r:=nxt r) (tl:=[inB _ a b]) zP1 hR ?_)|(refine aVMtA (fx:=fx) (m:=m) (r:=nxt r) (tl:=[inB _ a b]) zSi hR ?_)|(refine aVMtA (fx:=fx) (m:=m) (r:=nxt r) (tl:=[inB _ a b]) zLZ hR ?_)|(refine aVMtA (fx:=fx) (m:=m) (r:=nxt r) (tl:=[inB _ a b]) zP0 hR ?_)|(refine aVMtA (fx:=fx) (m:=m) (r:=nxt r) (tl:=[inB _ a b]) zSg hR ?_)|(refine aVMtA (fx:=fx) (m:=m) (r:=nxt r) (tl:=[inB _ a b]) zDu hR ?_)|refine ayA rfl ?_|refine ayQ rfl ?_|apply ay (hd:=rfl)|refine zBp rfl rfl ?_|refine zCe rfl rfl ?_|refine w1 rfl rfl ?_|refine k1 (hd:=rfl) rfl rfl ?_|(refine w0' ?_)|refine aStA ?_|refine zAJ rfl ?_|refine zAI rfl ?_|apply zAO|apply zAP|apply zAM|refine awDA ?_|apply eb_n
 all_goals first|omega|rfl|exact zCy rfl rfl|(rw[qAC];omega)|(simp only[qAN,qAj];omega)|exact zFi rfl|exact zE5 rfl):p:=h
theorem yJ{p:Prop}(h:p:=by
 repeat' first|apply en_n|apply zAE|apply zAA|apply zAB|apply w0|(apply zAG;exact rfl;(first|with_reducible exact zCC|with_reducible exact zB5);exact rfl;exact rfl)|exact ycA zEM hI|(refine zBI (cs:=nnC ⟨51,[],v,0⟩) zGa zHj (PD_d rfl rfl (PD_d rfl rfl zCI)) rfl)|exact qcA [1,2,3,4] [] zC3 (hB)|(refine zBI (cs:=nnC ⟨54,[],0,0⟩) zGa zHj (PD_d rfl rfl zCI) rfl)|exact qcA [1,2,3,4] [] zFM (hX)|(refine zBI (cs:=nnC ⟨52,t,0,0⟩) zGa zHj (PD_d rfl rfl (PD_d rfl rfl zCI)) rfl)|(refine zCA zDT zDW zIn rfl rfl (zAN rfl zAH) rfl)|refine aApA (id:=9) ?_ ?_|refine ayA rfl ?_|refine ayQ rfl ?_|apply ay (hd:=rfl)|refine zAJ rfl ?_|refine zAI rfl ?_|apply zAO|apply zAP|apply zAM|apply eb_n|apply en_r|apply eb_r
 all_goals first|omega|(simp only[qAN,qAj];omega)|skip
 refine zLQ rfl ?_ rfl ?_
 all_goals first|(rw[qAU];rfl)|(rw[qAE];rfl)):p:=h
theorem yK{p:Prop}(h:p:=by
 repeat' first|apply en_n|apply zAE|apply zAA|apply zAB|apply w0|exact ycA zOm hC|exact qcA [1,2,3,4] [] zC3 (hB)|exact qcA [0,1,2,3] [] zC3 (hB)|(apply zNe;exact rfl;exact rfl;exact(by decide))|(apply zBQ;exact rfl;exact rfl;exact rfl;(with_reducible exact zBk);omega;(rw[zAq];omega))|(apply zCT;exact rfl;(with_reducible exact zBj);exact rfl;(refine(congrArg (fun i=>(w64s now)[i]?) (show Int.toNat _=a+1+k by omega)).trans (zEI hx));exact rfl)|(refine zAX ?_)|(refine zBu ?_)|(refine zAu ?_)|exact zA5|(refine RV_c rfl rfl zDk rfl rfl ?_ ?_)|(apply zD2;exact rfl;with_reducible exact ustr)|(apply zQI;exact rfl;exact rfl;exact(by decide))|(refine zAR zFc hN (zAN (by refine congrArg SV.d ?_;refine(congrArg (fun x=>D.val (.int .i64 x)) ?_);rw[zD3,Int.tdiv_eq_ediv_of_nonneg (by omega)];omega) zAH))|(refine zBI (cs:=[i64 4,i64 (t.length:Int),str t,.slice []]) zMk zHl (PD_d rfl rfl (PD_d rfl rfl (PD_d rfl rfl zCI))) rfl)|(refine RV_c rfl rfl zA7 rfl rfl ?_ ?_)|exact ycA zIV hW|(refine zBI (cs:=[bl true,i64 (W n)]) zTG zCt (PD_d rfl rfl (PD_d rfl rfl zCI)) rfl)|(refine RV_d rfl ?_ ?_)|(refine RV_n rfl ?_ ?_)|(apply zVo;exact rfl;exact rfl;(with_reducible exact zQU);(with_reducible exact zHK);(with_reducible exact zYl);exact rfl;exact rfl;(with_reducible exact zTJ);exact rfl;exact rfl;exact⟨by omega,by omega,by omega⟩)|(with_reducible exact rfl)|exact ycA zEM hI|exact qcA [0,1,2,3] [] zHZ (ha)|(apply zfE (l:=o.text);exact zBX rfl rfl (zLn _).symm;with_reducible exact uu8s;with_reducible exact uu8;with_reducible exact ustr)|(refine RV_c rfl rfl zAV rfl rfl ?_ ?_)|exact ycA zCD hO|exact ycA zB3 hT|exact zC9 zEv zEP zJl rfl|exact zEH rfl (zA0 rfl) zEv zEP zKq zKv (zVR _) hcc|refine aJA ?_|refine aBoA ?_|refine aAlA ?_|refine ayA rfl ?_|refine ayQ rfl ?_|refine ayW rfl ?_|apply ay (hd:=rfl)|refine zBp rfl rfl ?_|refine w1 rfl rfl ?_|refine zAI rfl ?_|apply zAP|refine zCe rfl rfl ?_|(apply zGm;(first|exact zA0 rfl|exact zBX rfl rfl rfl|exact Co_nn rfl);(with_reducible exact zEP);exact rfl;exact fun _=>rfl)|(refine w0' ?_)|refine aStA ?_|refine zAJ rfl ?_|apply zAM|apply zBH|apply en_e|apply eb_e|apply zAS|refine res1 rfl ?_|(apply res2;exact rfl;exact rfl)|apply en_r|apply eb_r
 all_goals first|omega|rfl|(rw[qAC];omega)):p:=h
theorem yL{p:Prop}(h:p:=by
 repeat' first|(refine zCi (id:=11) ?_)|apply en_n|apply zAE|apply zAA|apply zAB|apply w0|exact zC9 zBa zBC zDD rfl|exact zHf rfl (hco _) zBC|(apply zEH (ys:=[.agg [bl (rN a),i64 (rV a)]]);exact rfl;exact zA0 rfl;(with_reducible exact zBa);(with_reducible exact zBC);(with_reducible exact zDw);(with_reducible exact zDx);exact(fun d hd=>by rw[qAM.1 hd];rfl);exact(by simp))|exact zC9 zEv zEP zJl rfl|exact zHf rfl (hco _) zEP|(apply zEH (ys:=[.agg [i64 s.c.at_,i64 s.c.base,bl (rN s.c.fun_),i64 (rV s.c.fun_)]]);exact rfl;exact zA0 rfl;(with_reducible exact zEv);(with_reducible exact zEP);(with_reducible exact zKq);(with_reducible exact zKv);exact(fun d hd=>by rw[qAM.1 hd];rfl);exact(by simp))|exact ycA zCY hI|(refine zCJ (by kernel_rfl) ?_;refine aStA ?_)|refine ayA rfl ?_|refine ayQ rfl ?_|refine ayL rfl ?_|apply ay (hd:=rfl)|(apply zGm;(first|exact zA0 rfl|exact zBX rfl rfl rfl|exact Co_nn rfl);(with_reducible exact zBC);exact rfl;exact fun _=>rfl)|refine zCe rfl rfl ?_|(refine w0' ?_)|refine zAJ rfl ?_|refine aStA ?_|refine zAI rfl ?_|apply zAP|refine awDA ?_
 all_goals first|omega|skip
 refine Stop.go ?_
 refine zBW ?_ hE
 exact zAU (Le_all rfl) (zAK rfl rfl (zAK rfl rfl (zAK rfl rfl zAe))) rfl rfl):p:=h
theorem yM{p:Prop}(h:p:=by
 repeat' first|apply en_n|apply zAE|apply zAA|apply zAB|apply w0|exact qcA [1,2,3,4] [] zF9 (hL)|(refine zC9 zBa zBC zDD rfl)|(refine zEH rfl (zA0 rfl) zBa zBC zDw zDx (fun d hd=>by obtain⟨c,_,rfl⟩:=qA5.1 hd;rfl) hcp)|refine k1u (hd:=rfl) rfl rfl ?_|exact ycA zbL hC|(refine aVMi (fx:=fx) (k:=none) (m:=m) (r:=r) zFJ hI (SArgs_all rfl) rfl rfl ?_)|exact qcA ids9 [] zBJ (hT1)|exact qcA ids9 [] zBJ (hT0)|exact qcA ids9 [] zDB (hN1)|exact qcA ids9 [] zDB (hN0)|(refine aVMf (avs:=[.d (i64 a),.d (i64 b)]) rfl hb hF (SArgs_all rfl) rfl rfl ?_)|refine aJA ?_|exact qcA [0,1,2,3,4,5,6,7,8] [] zDu (hH)|exact ycA zFc hN|(refine zdt rfl rfl (by with_reducible exact zBk) rfl (by omega) (by rw[zAq];exact qAP _))|(refine aVMA zIU (hR) ?_)|(refine zCJ (by kernel_rfl) ?_;refine aVMA zP5 (hA2) ?_)|(refine aVMA zEt (hB) ?_)|refine k0u (hd:=rfl) rfl rfl ?_|exact zPJ rfl rfl|(apply zAv;exact rfl;exact rfl;assumption)|exact qcA [0,1,2,3] [] zHZ (ha)|exact ycA zCk hTk|exact qcA ids9 [] zBJ (hT)|(refine aVMA zCd (hO) ?_)|(refine zCJ (by kernel_rfl) ?_;refine aVMc (fx:=fx) (k:=none) (m:=m) (r:=r) zDB hN (SArgs_all rfl) rfl rfl ?_)|refine aBoA ?_|exact qcA ids9 [] zCd (hO)|exact qcA [1,2,3,4] [] zF8 (hP)|(refine aVMA zEt (hN) ?_)|(refine zRo (vs:=tkV) (cells:=tkT.map (fun n=>Value.int .i64 n)) (by repeat (first|exact trivial|refine⟨⟨rfl,rfl⟩,?_⟩)) zdg rfl)|(apply zBi (hd:=rfl) (hro:=rfl);exact zcD)|refine aStA ?_|(refine zQL rfl rfl ze8 (by omega))|(refine zAG rfl zAY rfl (hv (by omega)))|refine ayA rfl ?_|refine ayQ rfl ?_|apply ay (hd:=rfl)|exact zME rfl|refine zCe rfl rfl ?_|(apply zdu;(first|exact zA0 rfl|exact zBX rfl rfl rfl|exact Co_nn rfl);(with_reducible exact zBC);exact rfl;exact fun _=>rfl)|refine zAJ rfl ?_|refine w1 rfl rfl ?_|(refine w0' ?_)|refine zAI rfl ?_|apply zAO|apply zAP|refine awDA ?_|apply eb_n|apply zAM|apply en_r|apply eb_r|apply zAS|(apply res2;exact rfl;exact rfl)|refine res1 rfl ?_
 all_goals first|omega|rfl|exact zE5 rfl|exact zCy rfl rfl|exact zD8 rfl|exact zHQ rfl):p:=h
theorem yN{p:Prop}(h:p:=by
 repeat' first|apply en_n|apply zAE|apply zAA|apply zAB|apply w0|(refine zAR zEa hA zAH)|exact ycA zFa hF|exact ycA zFL hCl|(refine zCA zBn zBf zET rfl rfl (zAN rfl zAH) rfl)|(refine zRj zBn zBf zET rfl rfl (zAN rfl (zAN rfl zAH)) rfl)|(refine zQH [0,1,2,3,6,7,4] [4,5,6] rfl rfl zFK (hS) rfl (SArgs_all rfl) rfl rfl (by decide) rfl rfl rfl rfl rfl rfl ?_)|(apply zAG;exact rfl;(first|with_reducible exact zAY|with_reducible exact zB1|with_reducible exact zDJ|with_reducible exact zB5|with_reducible exact zAw|with_reducible exact zEJ|with_reducible exact zAm);exact rfl;exact rfl)|(refine zNg rfl rfl rfl)|(refine zdq rfl rfl rfl rfl rfl rfl ?_)|(refine zBI (cs:=[i64 k,i64 1,zBU [],bl false]) zID zFt (PD_d rfl rfl (PD_d rfl rfl zCI)) rfl)|(refine aCK (r:={ c with has:=putI c.has k (n+1) }) (tl:=[]) (tl':=[]) zHB hC (SArgs_all rfl) rfl rfl rfl rfl ?_)|refine k1u (hd:=rfl) rfl rfl ?_|exact qcA [1,2,3,4] [] zF9 (hL2)|exact ycA zIk hI|exact ycA zLb hS|refine aBoA ?_|exact ycA zCk hTk|exact qcA ids9 [] zBJ (hT)|(refine aVMA zCd (hO) ?_)|exact qcA [0,1,2,3,4,5,6,7,8] [] zBJ (hT1)|exact qcA [0,1,2,3,4,5,6,7,8] [] zBJ (hT0)|exact qcA [0,1,2,3,4,5,6,7,8] [] zCd (hO)|exact qcA [1,2,3,4] [] zF8 (hP)|(refine aVMA zDt (hS) ?_)|(refine zRo (vs:=tkV) (cells:=tkT.map (fun n=>Value.int .i64 n)) (by repeat (first|exact trivial|refine⟨⟨rfl,rfl⟩,?_⟩)) zdg rfl)|(apply zBi (hd:=rfl) (hro:=rfl);exact zcD)|refine aStA ?_|(refine zAX ?_)|(refine zBu ?_)|exact zA5|(refine RV_d rfl ?_ ?_)|(refine RV_n rfl ?_ ?_)|refine kU (hd:=rfl) rfl rfl ?_|refine k0u (hd:=rfl) rfl rfl ?_|refine ayA rfl ?_|refine ayQ rfl ?_|apply ay (hd:=rfl)|refine zBp rfl rfl ?_|refine zCe rfl rfl ?_|refine w1 rfl rfl ?_|refine k0 (hd:=rfl) rfl rfl ?_|(refine w0' ?_)|refine zAJ rfl ?_|refine zAI rfl ?_|apply zAO|apply eb_n|apply zAP|apply zAM|apply zBH|refine awDA ?_|apply en_r|apply en_e|apply eb_e|apply zAS|refine res1 rfl ?_
 all_goals first|omega|rfl|exact zD8 rfl|contradiction|exact zJR rfl rfl rfl|exact zFi rfl):p:=h
theorem yO{p:Prop}(h:p:=by
 repeat' first|(refine zHu (id:=48) ?_)|apply en_n|apply zAE|apply zAA|apply zAB|apply w0|refine k1ud (hd:=rfl) rfl rfl ?_|refine k1u (hd:=rfl) rfl rfl ?_|refine aJA ?_|exact ycA zKA hC|exact ycA zIj (zOF _)|refine ayA rfl ?_|refine ayQ rfl ?_|apply ay (hd:=rfl)|exact zES rfl rfl|refine w1 rfl rfl ?_|exact zH7 rfl rfl|refine zBp rfl rfl ?_|refine zAJ rfl ?_|refine zAI rfl ?_|apply zAO|apply zAP|refine awDA ?_|apply eb_n
 all_goals first|omega|skip
 refine Stop.go ?_
 refine zBW ?_ h
 exact zAU (Le_all rfl) (zA4 _) rfl rfl):p:=h
theorem yP{p:Prop}(h:p:=by
 repeat' first|apply en_n|apply zAE|apply zAA|apply zAB|apply w0|refine k1u (hd:=rfl) rfl rfl ?_|(apply zZN;exact rfl;exact rfl;assumption)|(apply zD2;exact rfl;with_reducible exact ustr)|(apply zZM;exact rfl;exact rfl;assumption)|exact ycA zIV hW|exact ycA zFw hW|refine aBoA ?_|refine ayA rfl ?_|refine ayQ rfl ?_|apply ay (hd:=rfl)|refine k1 (hd:=rfl) rfl rfl ?_|exact zH7 rfl rfl|exact zFC rfl rfl|refine w1 rfl rfl ?_|refine zAJ rfl ?_|refine zAI rfl ?_|apply zAP|apply zAM|apply en_r|refine awDA ?_|apply zAS|refine res1 rfl ?_
 all_goals apply zDn
 all_goals simp[zGJ,hs]at *
 all_goals first|omega|exact Iff.rfl):p:=h
theorem yQ{p:Prop}(h:p:=by
 repeat' first|apply en_n|apply zAE|apply zAA|apply zAB|apply w0|refine kUd (hd:=rfl) rfl rfl ?_|refine k0ud (hd:=rfl) rfl rfl ?_|exact ycA zGx hR|exact ycA zGw hR|refine aJA ?_|refine ayA rfl ?_|apply ay (hd:=rfl)|refine zAJ rfl ?_|apply zAM|refine awDA ?_|apply en_r|apply eb_r|apply zAS|refine res1 rfl ?_
 exact congrArg D.val (congrArg (Value.int .i64) (by unfold imgE;rw[if_neg (by omega),if_neg (fun h=>by have:=qAb.1 h i (qBN.2 hil);rw[hth]at this;cases this)]))):p:=h
theorem yR{p:Prop}(h:p:=by
 repeat' first|apply en_n|apply zAE|apply zAA|apply zAB|apply w0|(refine aVMc zOg hN (SArgs_all rfl) rfl rfl ?_)|exact ycA zbH (zZd _ _)|exact ycA zbI (zZe _ _)|(refine zCJ (by kernel_rfl) ?_;refine aVMc zLY hW (SArgs_all rfl) rfl rfl ?_)|exact ycA zbG (zZc _ _)|exact ycA zbF (zZb _ _)|exact ycA zbJ (zZf _ _)|(refine zCJ (by kernel_rfl) ?_;refine aVMc zFX hN (SArgs_all rfl) rfl rfl ?_)|(refine aVMA zIT (hT) ?_)|(refine aVMA zGO (hP) ?_)|(refine zbu (sz:=1) (ds:=kws.map str) (xs:=kws.map fun l=>Operand.const (.string ⟨l.toArray⟩)) zFA zEn zKj rfl (by decide) rfl rfl (zRv kws) (by decide) rfl)|(refine aVMc (fx:=fx) (k:=none) (m:=m) (r:=r) zHU hI (SArgs_all rfl) rfl rfl ?_)|(refine aVMtA (m:=m) (r:=r) (fx:=fx) (tl:=[.bx none none [.d (bl true),.d (i64 n),.d (str t)]]) zMU hR ?_)|(refine aVMc (fx:=fx) (k:=none) (m:=m) (r:=r) zLZ hI (SArgs_all rfl) rfl rfl ?_)|(refine aVMc (fx:=fx) (k:=none) (m:=m) (r:=r) zPz hI (SArgs_all rfl) rfl rfl ?_)|refine aBoA ?_|exact qcA [0,1,2,3,4,5,6,7,8] [] zBJ (hT1)|(apply zaO;exact rfl;exact rfl;exact(qAC _).symm)|refine zaO rfl rfl hml.symm ?_|exact qcA [0,1,2,3,4,5,6,7,8] [] zBJ (hT0)|(refine aVMA zCd (hO) ?_)|exact qcA [0,1,2,3,4,5,6,7,8] [] zCd (hO)|exact qcA [1,2,3,4] [] zF8 (hP)|(refine aVMA zEt (hS) ?_)|exact ycA zHY hN|(refine aVMA zEt (hB) ?_)|(refine aVMtA (m:=m) (r:=r) (fx:=fx) (tl:=[.bx none none [.d (bl false),.d (i64 n),.d (str t)]]) zDu hR ?_)|(refine aVMtA (m:=m) (r:=r) (fx:=fx) (tl:=[.bx none none [.d (bl false),.d (i64 n),.d (str t)]]) zGO hP ?_)|refine aJA ?_|refine aAlA ?_|(refine zAX ?_)|(refine zAu ?_)|exact zA5|(with_reducible exact rfl)|(refine RV_c rfl rfl zBy rfl rfl ?_ ?_)|refine ayA rfl ?_|apply ay (hd:=rfl)|exact zFC rfl rfl|refine ayQ rfl ?_|(refine w0' ?_)|refine aStA ?_|refine zAJ rfl ?_|refine zAI rfl ?_|apply zAO|apply eb_n|apply zAP|refine awDA ?_|apply zAM|apply zBH|apply en_r|apply en_e|apply eb_r|apply eb_e|apply zAS|refine res1 rfl ?_
 all_goals first|omega|rfl|exact zCy rfl rfl|exact zE5 rfl|(simp only[qAN,qAj];omega)|exact zLQ rfl rfl rfl rfl|exact hml.symm|(rw[qAC];omega)|exact(qAC _).symm|exact zD8 rfl|exact zHQ rfl):p:=h
theorem yS{p:Prop}(h:p:=by
 repeat' first|apply en_n|apply zAE|apply zAA|apply zAB|apply w0|refine k1u (hd:=rfl) rfl rfl ?_|exact ycA zOl hF|refine aBoA ?_|refine ayA rfl ?_|apply ay (hd:=rfl)|exact zH7 rfl rfl|exact zJg rfl rfl|refine w1 rfl rfl ?_|(apply gD;exact rfl;exact rfl;all_goals intro hb)|apply zAM|apply zAS|refine res1 rfl ?_
 all_goals (apply zDn;first|(simp_all;done)|(simp_all;intros;omega))):p:=h
theorem yT{p:Prop}(h:p:=by
 repeat' first|apply en_n|apply zAA|apply zAB|apply w0|refine k1ud (hd:=rfl) rfl rfl ?_|exact ycA zGx hR|exact ycA zGw hR|refine aJA ?_|refine ayA rfl ?_|refine ayQ rfl ?_|apply ay (hd:=rfl)|refine zBp rfl rfl ?_|refine w1 rfl rfl ?_|refine zAI rfl ?_|apply zAP|refine awDA ?_|apply eb_n
 all_goals first|omega|(exact⟨1,⟨by omega,fun j hj=>by rw[show j=0 by omega];exact hth⟩,by omega,zAU (Le_all rfl) (zAK rfl rfl zAe) rfl rfl⟩)):p:=h
theorem yU{p:Prop}(h:p:=by
 repeat' first|apply en_n|apply zAE|apply zAA|apply zAB|apply w0|exact ycA zP4 hC|refine aBoA ?_|refine k0u (hd:=rfl) rfl rfl ?_|(refine aVMA zDu (hH) ?_)|(apply zAR (hb:=zU6) (hc:=zWB))|(refine zAX ?_)|(refine zBu ?_)|(refine RV_b rfl rfl ?_ ?_ ?_)|(refine RV_d rfl ?_ ?_)|exact zA5|(apply zAG;exact rfl;(first|with_reducible exact zB1|with_reducible exact zAm|with_reducible exact zFO);exact rfl;exact rfl)|refine k1u (hd:=rfl) rfl rfl ?_|exact ycA zEC hK|exact qcA [1,2,3,4] [] zC3 (hB)|(refine aVMA zDt (hS) ?_)|(apply zBQ;exact rfl;exact rfl;exact rfl;(with_reducible exact zBk);omega;(rw[zAq];omega))|exact zCT rfl zBj rfl hld rfl|(apply zAR (hb:=zXs) (hc:=zWI))|(apply zAR (hb:=zP6) (hc:=zPS kws s (by decide)))|exact qcA ids9 [] zBJ (hT1)|(refine aVMc zDB hN1 (SArgs_all rfl) rfl rfl ?_)|exact qcA ids9 [] zBJ (hT0)|exact qcA ids9 [] zDB (hN1)|(refine aVMc zDB hN0 (SArgs_all rfl) rfl rfl ?_)|exact qcA ids9 [] zCd (hO1)|(refine aVMA zCd (hO) ?_)|exact qcA [0,1,2,3,4,5,6,7,8] [] zDu (hH)|exact ycA zFj hN|exact ycA zFc hN|(refine aVMA zIU (hR) ?_)|exact qcA [0,1,2,3] [] zC3 (hB)|refine ayA rfl ?_|refine ayQ rfl ?_|(refine w0' ?_)|refine aStA ?_|apply ay (hd:=rfl)|exact zHI rfl rfl|refine zBp rfl rfl ?_|exact zJf rfl rfl|exact zH7 rfl rfl|exact zES rfl rfl|refine zAI rfl ?_|apply zAP|exact zJg rfl rfl|refine zCe rfl rfl ?_|refine w1 rfl rfl ?_|refine zAJ rfl ?_|apply zAM|refine awDA ?_|apply en_r|apply zAS|refine res1 rfl ?_|exact zAH|refine zAN rfl ?_|(apply res2;exact rfl;exact rfl)
 all_goals first|omega|rfl|exact zD8 rfl|exact zJR rfl rfl rfl|exact(qAC _).symm|exact zHQ rfl|exact zaw rfl):p:=h
theorem yV{p:Prop}(h:p:=by
 repeat' first|apply en_n|apply zAE|apply zAA|apply zAB|apply w0|exact qcA [0] [] zEA (zb8 f c p hbf hp E hE)|exact qcA [] [] zEA (zb9 f p hbf hp E hE)|refine ayA rfl ?_|apply ay (hd:=rfl)|exact zJg rfl rfl|apply zAM|apply zAS|refine res1 rfl ?_
 refine zDn ?_
 exact zKC zRf):p:=h
theorem yW{p:Prop}(h:p:=by
 repeat' first|apply en_n|apply zAE|apply zAA|apply zAB|apply w0|exact ycA zL9 hA|exact ycA zOo hA|refine ayA rfl ?_|apply ay (hd:=rfl)|apply zAM|apply zAS|refine res1 rfl ?_
 exact congrArg D.val (congrArg (Value.int .i64) (by unfold imgE;rw[if_neg (by omega),if_pos hall]))):p:=h
theorem yX{p:Prop}(h:p:=by
 repeat' first|apply en_n|apply zAE|apply zAA|apply zAB|apply w0|refine ayQ rfl ?_|refine zAI rfl ?_|apply zBH|apply en_e|apply eb_e
 all_goals first|omega|skip
 all_goals exact zUm (tl:=[.box [.d (i64 s.of),.d (i64 (s.height-takes+puts)),.d (zBU s.tries),.d (bl false)]]) rfl):p:=h
theorem yY{p:Prop}(h:p:=by
 repeat' first|apply en_n|apply zAE|apply zAA|apply zAB|apply w0|refine ayA rfl ?_|refine zAI rfl ?_|apply zAP|(refine w0' ?_)|refine aStA ?_|refine zAJ rfl ?_
 all_goals exact zC5 ⟨rfl,zAU Le_nil (zJj rfl rfl rfl rfl rfl rfl (zBs rfl) (zBs rfl) (zBs rfl) rfl) rfl rfl⟩):p:=h
theorem yZ{p:Prop}(h:p:=by
 repeat' first|apply zAA|apply zAB|apply w0|(refine zCJ (by kernel_rfl) ?_;refine aCK (r:=c1) (tl:=doB 17 a b s++[.buf false 3 1 (s.tries.map ival++[i64 s.height])]) (tl':=doB 17 a b s++[.buf false 3 1 (s.tries.map ival++[i64 s.height])]) zHB hC (SArgs_all rfl) rfl rfl rfl rfl ?_)|apply eb_n|(refine aVMc zOg hN (SArgs_all rfl) rfl rfl ?_)|refine ayA rfl ?_|apply ay (hd:=rfl)|exact zES rfl rfl
 all_goals first|exact zHQ rfl|exact zFi rfl):p:=h
