import Derived.Test.YtjgbhhnghedgdaaGreatDoorZsV8
import Derived.Test.YtjgbhhnghedgdaaGreatDoorZsCb6
import Derived.Test.YtjgbhhnghedgdaaGreatDoorZsRJ
set_option linter.all false
namespace Go.Proofs.YtjgbhhnghedgdaaGreatDoor
open Go.RowKit
set_option maxRecDepth 100000
set_option maxHeartbeats 4000000
set_option linter.unusedVariables false
theorem encodekey_ret (h:Int) (r:UInt64):Ret Tryz.prog 43 [.agg [ai h,aw r]] (.tup [.own 1 (bytesA (keyD h r)),ai (keyE h)]):=by
 have hw:(words [r]).length=8:=by rw [words_len];rfl
 by_cases h1:badH h
 ·have e:keyE h=9:=by rw [keyE,if_pos h1]
  have ed:keyD h r= []:=by rw [keyD,if_pos h1]
  refine zO Tryz.func43 16 ?_
  refine zQ 1 [{}] [] ?_
  refine zS ?_
  refine zQ 1 [yH [(2,yV (ao (decide (badH h))))]] [yI (high_ret h)] ?_
  refine zTd 6 (badH h) ?_
  refine zQ 1 [{}] [] ?_
  refine zR ?_
  refine then_r ?_
  refine zV [yB (bytesA (keyD h r)= []) (by rw [ed];rfl),yJ 9 (keyE h) (by rw [e])]
 ·have e:keyE h=0:=by rw [keyE,if_neg h1]
  have ed:keyD h r=u8 h::words [r]:=by rw [keyD,if_neg h1]
  refine zO Tryz.func43 16 ?_
  refine zQ 1 [{}] [] ?_
  refine zS ?_
  refine zQ 1 [yH [(2,yV (ao (decide (badH h))))]] [yI (high_ret h)] ?_
  refine zFd 6 (badH h) ?_
  refine zK ?_
  refine then_n ?_
  refine zS ?_
  refine AWP.regOX 8 [3] [(2,{av:=some (ab (u8 h))}),(3,{av:=some (AV.arr (bytesA [u8 h]))}),(6,{av:=some (AV.arr (wordsA [r]))}),(7,{av:=some (AV.own 1 (bytesA (words [r])))}),(8,{av:=some (AV.arr (bytesA ([u8 h]++words [r])))})] (C:=[AV.val (Value.int .u8 (IntKind.u8.wrap h))=ab (u8 h),[ab (u8 h)]=bytesA [u8 h],valR (bytesA [u8 h]),[aw r]=wordsA [r],Ret Tryz.prog (88:Nat) [AV.sl 1 (wordsA [r])] (AV.own 1 (bytesA (words [r]))),valR (bytesA (words [r])),bytesA [u8 h]++bytesA (words [r])=bytesA ([u8 h]++words [r]),((bytesA [u8 h]).length+(bytesA (words [r])).length)*(1:Nat)≤(140737488355328:Nat)]) (by kernel_rfl) ⟨(avb_conv (h)),rfl,(valR_bytes _),rfl,(words_ret ([r]) (by simp only [List.length_cons,List.length_nil];omega)),(valR_bytes _),(bytesA_app _ _),(by simp only [bytesA_len,List.length_cons,List.length_nil];omega),trivial⟩ ?_
  refine then_n ?_
  refine AWP.wkX [.keep [3,2,6,1,0] [15,1]] (by kernel_rfl) ?_
  refine zR ?_
  refine zV [yB (bytesA ([u8 h]++words [r])=bytesA (keyD h r)) (by rw [ed];rfl),yJ 0 (keyE h) (by rw [e])]
theorem refencodekey_ret (h:Int) (r:UInt64):Ret Tryz.prog 47 [.agg [ai h,aw r]] (.tup [.own 1 (bytesA (keyD h r)),ai (keyE h)]):=by
 have hw:(words [r]).length=8:=by rw [words_len];rfl
 by_cases h1:badH h
 ·have e:keyE h=9:=by rw [keyE,if_pos h1]
  have ed:keyD h r= []:=by rw [keyD,if_pos h1]
  refine zO Tryz.func47 17 ?_
  refine zQ 1 [{}] [] ?_
  refine zS ?_
  refine zP 1 [yH [(2,yV (ao (!decide (badH h))))]] [.keep [7,3,2,1,0] [1]] [yI (refheight_ret h)] ?_
  refine zTb 7 (!!decide (badH h)) (by simp_all) ?_
  refine zQ 1 [{}] [] ?_
  refine zR ?_
  refine then_r ?_
  refine zV [yB (bytesA (keyD h r)= []) (by rw [ed];rfl),yJ 9 (keyE h) (by rw [e])]
 ·have e:keyE h=0:=by rw [keyE,if_neg h1]
  have ed:keyD h r=u8 h::words [r]:=by rw [keyD,if_neg h1]
  refine zO Tryz.func47 17 ?_
  refine zQ 1 [{}] [] ?_
  refine zS ?_
  refine zP 1 [yH [(2,yV (ao (!decide (badH h))))]] [.keep [7,3,2,1,0] [1]] [yI (refheight_ret h)] ?_
  refine zFb 7 (!!decide (badH h)) (by simp_all) ?_
  refine zK ?_
  refine then_n ?_
  refine zS ?_
  refine AWP.regOX 8 [3] [(2,{av:=some (ab (u8 h))}),(3,{av:=some (AV.arr (bytesA [u8 h]))}),(6,{av:=some (AV.arr (wordsA [r]))}),(7,{av:=some (AV.own 1 (bytesA (words [r])))}),(8,{av:=some (AV.arr (bytesA ([u8 h]++words [r])))})] (C:=[AV.val (Value.int .u8 (IntKind.u8.wrap h))=ab (u8 h),[ab (u8 h)]=bytesA [u8 h],valR (bytesA [u8 h]),[aw r]=wordsA [r],Ret Tryz.prog (92:Nat) [AV.sl 1 (wordsA [r])] (AV.own 1 (bytesA (words [r]))),valR (bytesA (words [r])),bytesA [u8 h]++bytesA (words [r])=bytesA ([u8 h]++words [r]),((bytesA [u8 h]).length+(bytesA (words [r])).length)*(1:Nat)≤(140737488355328:Nat)]) (by kernel_rfl) ⟨(avb_conv (h)),rfl,(valR_bytes _),rfl,(refwords_ret ([r]) (by simp only [List.length_cons,List.length_nil];omega)),(valR_bytes _),(bytesA_app _ _),(by simp only [bytesA_len,List.length_cons,List.length_nil];omega),trivial⟩ ?_
  refine then_n ?_
  refine AWP.wkX [.keep [3,2,7,1,0] [16,1]] (by kernel_rfl) ?_
  refine zR ?_
  refine zV [yB (bytesA ([u8 h]++words [r])=bytesA (keyD h r)) (by rw [ed];rfl),yJ 0 (keyE h) (by rw [e])]
end Go.Proofs.YtjgbhhnghedgdaaGreatDoor
