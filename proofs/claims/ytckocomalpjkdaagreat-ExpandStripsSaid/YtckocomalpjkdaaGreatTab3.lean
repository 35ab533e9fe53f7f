/- Some of this program's functions in the evaluator's form, and that it is their form; no condition. -/
import Derived.Test.YtckocomalpjkdaaGreatProg
import Derived.KernelRfl
import Derived.Test.YtckocomalpjkdaaGreatAeA
noncomputable section
set_option linter.unusedVariables false
set_option linter.unusedSimpArgs false
set_option linter.unusedSectionVars false
open Go Go.Proofs Go.AE
namespace AET
set_option maxRecDepth 100000
set_option linter.unusedVariables false
def c132 : CFn := ⟨(.seq (.reg (.g (iBox (odF .d0 .d0)) .d0 .d3 (.g (iBox (odF .d0 .d1)) .d0 .d4 (.g (iBox (odF .d0 .d2)) .d0 .d5 (.g (iNew (nat_lit 5) [(.sc .nilFunc), (.sc .nilFunc), (.sc .nilFunc), (.sc .nilFunc), (.sc .nilFunc)]) .d0 .d6 .nil)))))
 (.seq (.reg (.u (iMap) fun v8 => (.g (iNew (nat_lit 1) [(.sc (.map none))]) .d0 .d7 (.x (iStore (nat_lit 1) (odF .d0 .d7) (odV v8)) .nil))))
 (.seq (.reg (.u (iFn (.func (nat_lit 142)) [] [(odF .d0 .d3), (odF .d0 .d4)]) fun v9 => (.u (iFn (.func (nat_lit 143)) [] [(odF .d0 .d3), (odF .d0 .d4)]) fun v10 => (.u (iFn (.func (nat_lit 144)) [] [(odF .d0 .d4)]) fun v11 => (.u (iFn (.func (nat_lit 147)) [] [(odF .d0 .d3), (odF .d0 .d4), (odF .d0 .d5)]) fun v12 => (.u (iFn (.func (nat_lit 148)) [] [(odF .d0 .d7), (odF .d0 .d3), (odF .d0 .d4)]) fun v13 => (.u (iBuild (nat_lit 5) [(.sc .nilFunc), (.sc .nilFunc), (.sc .nilFunc), (.sc .nilFunc), (.sc .nilFunc)] [((nat_lit 0), (nat_lit 1), (odV v9)), ((nat_lit 1), (nat_lit 1), (odV v10)), ((nat_lit 2), (nat_lit 1), (odV v11)), ((nat_lit 3), (nat_lit 1), (odV v12)), ((nat_lit 4), (nat_lit 1), (odV v13))]) fun v14 => (.x (iStore (nat_lit 5) (odF .d0 .d6) (odV v14)) .nil))))))))
 .ret))), [(.d0, .d0), (.d0, .d1), (.d0, .d2)], [.cN (nat_lit 5) (odF .d0 .d6)]⟩
def c133 : CFn := ⟨(.seq (.reg (.g (iBox (odF .d0 .d0)) .d0 .d2 (.g (iBox (odF .d0 .d1)) .d0 .d3 (.g (iMove (odV (.sc (.slice none (nat_lit 0) (nat_lit 0))))) .d0 .d4 (.g (iMove (odV (.b false))) .d0 .d5 .nil)))))
 (.seq (.seq (.reg (.u (iLoadN (nat_lit 7) (odF .d0 .d3)) fun v10 => (.u (iCall (nat_lit 57) [(odV v10), (odV (.i (.ofNat (nat_lit 100))))]) fun v11 => (.u (iCmp Tryz.prog gtF .gtr (nat_lit 3) (odV v11) (odV (.i (.ofNat (nat_lit 100))))) fun v12 => (.cu (odV v12) false (iLoadN (nat_lit 5) (odF .d0 .d2)) fun v14 => (.cu (odV v12) false (iLoadN (nat_lit 7) (odF .d0 .d3)) fun v15 => (.cu (odV v12) false (iCall (nat_lit 149) [(odV v14), (odV v15)]) fun v16 => (.g (iPick (odV v12) (odV (.b true)) (odV v16)) .d1 .d2 .nil))))))))
 (.cond (odF .d1 .d2) (.seq (.reg (.g (iMove (odV (.sc (.slice none (nat_lit 0) (nat_lit 0))))) .d0 .d4 (.g (iMove (odV (.b false))) .d0 .d5 .nil)))
 .ret)
 .skip))
 (.seq (.reg (.u (iLoadN (nat_lit 5) (odF .d0 .d2)) fun v19 => (.u (iLoadN (nat_lit 7) (odF .d0 .d3)) fun v20 => (.u (iCall (nat_lit 150) [(odV v19), (odV v20)]) fun v21 => (.u (iExtract (nat_lit 0) (odV v21)) fun v22 => (.u (iExtract (nat_lit 1) (odV v21)) fun v23 => (.g (iMove (odV v22)) .d0 .d6 (.g (iMove (odV v23)) .d0 .d7 .nil))))))))
 (.seq (.seq (.reg (.g (iMove (odF .d0 .d6)) .d1 .d3 (.g (iLenL (odF .d1 .d3)) .d1 .d4 (.g (iMove (odV (.i (.ofNat (nat_lit 0))))) .d1 .d5 .nil))))
 (.block (nat_lit 0) (.loop (.seq (.reg (.g (iCmp Tryz.prog ltF .lss (nat_lit 3) (odF .d1 .d5) (odF .d1 .d4)) .d1 .d6 .nil))
 (.seq (.cond (odF .d1 .d6) .skip
 (.exit (nat_lit 0)))
 (.seq (.block (nat_lit 1) (.seq (.reg (.u (iIdx (nat_lit 11) (odF .d1 .d3) (odF .d1 .d5)) fun v29 => (.u (iLoadN (nat_lit 11) (odV v29)) fun v30 => (.g (iNew (nat_lit 11) [(.s []), (.i (.ofNat (nat_lit 0))), (.i (.ofNat (nat_lit 0))), (.i (.ofNat (nat_lit 0))), (.i (.ofNat (nat_lit 0))), (.b false), (.sc (.slice none (nat_lit 0) (nat_lit 0))), (.s []), (.sc (.slice none (nat_lit 0) (nat_lit 0))), (.sc (.slice none (nat_lit 0) (nat_lit 0))), (.sc (.slice none (nat_lit 0) (nat_lit 0)))]) .d1 .d1 (.g (iMove (odF .d1 .d5)) .d1 .d0 (.x (iStore (nat_lit 11) (odF .d1 .d1) (odV v30)) .nil))))))
 (.seq (.reg (.u (iSlice (nat_lit 11) (odF .d0 .d6) none (some (odF .d1 .d0))) fun v33 => (.u (iFn (.func (nat_lit 152)) [] [(odF .d1 .d1)]) fun v34 => (.g (iCall (nat_lit 151) [(odV v33), (odV v34)]) .d1 .d7 .nil))))
 (.cond (odF .d1 .d7) (.seq (.reg (.g (iMove (odV (.sc (.slice none (nat_lit 0) (nat_lit 0))))) .d0 .d4 (.g (iMove (odV (.b false))) .d0 .d5 .nil)))
 .ret)
 .skip))))
 (.reg (.u (iInt Tryz.prog addF .add (nat_lit 3) (odF .d1 .d5) (odV (.i (.ofNat (nat_lit 1))))) fun v36 => (.g (iMove (odV v36)) .d1 .d5 .nil)))))))))
 (.seq (.seq (.reg (.g (iNot (odF .d0 .d7)) .d2 .d0 .nil))
 (.cond (odF .d2 .d0) (.seq (.reg (.g (iMove (odV (.sc (.slice none (nat_lit 0) (nat_lit 0))))) .d0 .d4 (.g (iMove (odV (.b false))) .d0 .d5 .nil)))
 .ret)
 .skip))
 (.seq (.reg (.g (iMove (odF .d0 .d6)) .d0 .d4 (.g (iMove (odV (.b true))) .d0 .d5 .nil)))
 .ret)))))), [(.d0, .d0), (.d0, .d1)], [.t (odF .d0 .d4), .t (odF .d0 .d5)]⟩
def c134 : CFn := ⟨(.seq (.reg (.g (iMove (odV (.sc (.slice none (nat_lit 0) (nat_lit 0))))) .d0 .d1 (.g (iMove (odV (.b false))) .d0 .d2 .nil)))
 (.seq (.reg (.g (iMove (odV (.sc (.slice none (nat_lit 0) (nat_lit 0))))) .d0 .d3 .nil))
 (.seq (.seq (.reg (.g (iMove (odV (.i (.ofNat (nat_lit 0))))) .d0 .d4 .nil))
 (.block (nat_lit 0) (.loop (.seq (.seq (.reg (.u (iLenS (odF .d0 .d0)) fun v8 => (.g (iCmp Tryz.prog ltF .lss (nat_lit 3) (odF .d0 .d4) (odV v8)) .d0 .d5 .nil)))
 (.cond (odF .d0 .d5) .skip
 (.exit (nat_lit 0))))
 (.seq (.block (nat_lit 1) (.seq (.seq (.reg (.u (iIdxStr (odF .d0 .d0) (odF .d0 .d4)) fun v14 => (.u (iCmp Tryz.prog ltF .lss (nat_lit 5) (odV v14) (odV (.k .u8 (.ofNat (nat_lit 48))))) fun v15 => (.cu (odV v15) false (iMove (odF .d0 .d0)) fun v17 => (.cu (odV v15) false (iMove (odF .d0 .d4)) fun v18 => (.cu (odV v15) false (iIdxStr (odV v17) (odV v18)) fun v19 => (.cu (odV v15) false (iCmp Tryz.prog gtF .gtr (nat_lit 5) (odV v19) (odV (.k .u8 (.ofNat (nat_lit 57))))) fun v20 => (.g (iPick (odV v15) (odV (.b true)) (odV v20)) .d0 .d6 .nil))))))))
 (.cond (odF .d0 .d6) (.seq (.reg (.g (iMove (odV (.sc (.slice none (nat_lit 0) (nat_lit 0))))) .d0 .d1 (.g (iMove (odV (.b false))) .d0 .d2 .nil)))
 .ret)
 .skip))
 (.reg (.u (iRd (iMove (odF .d0 .d3))) fun v0 => (.u (iRs (alSl [(.i (.ofNat (nat_lit 0)))] (nat_lit 1) (nat_lit 1) [((nat_lit 0), (nat_lit 1), (odV (.i (.ofNat (nat_lit 10)))))])) fun v1 => (.x (iChk (iMove (odF .d0 .d3)) v0) (.u (iRd (iMove (odF .d0 .d0))) fun v3 => (.u (iRd (iMove (odF .d0 .d4))) fun v4 => (.u (iRd (iIdxStr (odV v3) (odV v4))) fun v5 => (.u (iRd (iInt Tryz.prog subF .sub (nat_lit 5) (odV v5) (odV (.k .u8 (.ofNat (nat_lit 48)))))) fun v6 => (.u (iRd (iPure1 Tryz.prog (Go.convert (nat_lit 5) (nat_lit 3)) (odV v6))) fun v7 => (.u (iRs (alSl [(.i (.ofNat (nat_lit 0)))] (nat_lit 1) (nat_lit 1) [((nat_lit 0), (nat_lit 1), (odV v7))])) fun v8 => (.x (iChk (iPure1 Tryz.prog (Go.convert (nat_lit 5) (nat_lit 3)) (odV v6)) v7) (.x (iChk (iInt Tryz.prog subF .sub (nat_lit 5) (odV v5) (odV (.k .u8 (.ofNat (nat_lit 48))))) v6) (.x (iChk (iIdxStr (odV v3) (odV v4)) v5) (.x (iChk (iMove (odF .d0 .d4)) v4) (.x (iChk (iMove (odF .d0 .d0)) v3) (.x (iChk (iMove (odF .d0 .d3)) v0) (.x (iMt (alSl [(.i (.ofNat (nat_lit 0)))] (nat_lit 1) (nat_lit 1) [((nat_lit 0), (nat_lit 1), (odV (.i (.ofNat (nat_lit 10)))))]) v1) (.u (iEf (iCall (nat_lit 154) [(odV v0), (odV v1)])) fun v2 => (.x (iChk (iPure1 Tryz.prog (Go.convert (nat_lit 5) (nat_lit 3)) (odV v6)) v7) (.x (iChk (iInt Tryz.prog subF .sub (nat_lit 5) (odV v5) (odV (.k .u8 (.ofNat (nat_lit 48))))) v6) (.x (iChk (iIdxStr (odV v3) (odV v4)) v5) (.x (iChk (iMove (odF .d0 .d4)) v4) (.x (iChk (iMove (odF .d0 .d0)) v3) (.x (iMt (alSl [(.i (.ofNat (nat_lit 0)))] (nat_lit 1) (nat_lit 1) [((nat_lit 0), (nat_lit 1), (odV v7))]) v8) (.u (iEf (iCall (nat_lit 153) [(odV v2), (odV v8)])) fun v9 => (.u (iRd (iMove (odV v9))) fun v10 => (.g (iMove (odV v10)) .d0 .d3 .nil)))))))))))))))))))))))))))))
 (.reg (.u (iMove (odF .d0 .d4)) fun v10 => (.u (iInt Tryz.prog addF .add (nat_lit 3) (odV v10) (odV (.i (.ofNat (nat_lit 1))))) fun v11 => (.g (iMove (odV v11)) .d0 .d4 .nil)))))))))
 (.seq (.reg (.u (iCall (nat_lit 155) [(odF .d0 .d3)]) fun v33 => (.u (iLenS (odF .d0 .d0)) fun v35 => (.u (iCmp Tryz.prog gtF .gtr (nat_lit 3) (odV v35) (odV (.i (.ofNat (nat_lit 0))))) fun v36 => (.g (iMove (odV v33)) .d0 .d1 (.g (iMove (odV v36)) .d0 .d2 .nil))))))
 .ret)))), [(.d0, .d0)], [.t (odF .d0 .d1), .t (odF .d0 .d2)]⟩
def c135 : CFn := ⟨(.seq (.reg (.g (iNew (nat_lit 2) [(.b false), (.sc (.slice none (nat_lit 0) (nat_lit 0)))]) .d0 .d2 .nil))
 (.seq (.reg (.u (iBuildSlice [(.sc (.slice none (nat_lit 0) (nat_lit 0)))] (nat_lit 1) (nat_lit 1) [((nat_lit 0), (nat_lit 1), (odF .d0 .d1))]) fun v7 => (.u (iCall (nat_lit 156) [(odV v7)]) fun v8 => (.g (iMove (odV v8)) .d0 .d3 .nil))))
 (.seq (.reg (.cu (odF .d0 .d0) true (iMove (odF .d0 .d3)) fun v11 => (.cu (odF .d0 .d0) true (iLenL (odV v11)) fun v12 => (.cu (odF .d0 .d0) true (iCmp Tryz.prog gtF .gtr (nat_lit 3) (odV v12) (odV (.i (.ofNat (nat_lit 0))))) fun v13 => (.u (iPick (odF .d0 .d0) (odV v13) (odV (.b false))) fun v14 => (.u (iBuild (nat_lit 2) [(.b false), (.sc (.slice none (nat_lit 0) (nat_lit 0)))] [((nat_lit 0), (nat_lit 1), (odV v14)), ((nat_lit 1), (nat_lit 1), (odF .d0 .d3))]) fun v16 => (.x (iStore (nat_lit 2) (odF .d0 .d2) (odV v16)) .nil)))))))
 .ret))), [(.d0, .d0), (.d0, .d1)], [.cN (nat_lit 2) (odF .d0 .d2)]⟩
def c136 : CFn := ⟨(.seq (.reg (.g (iBox (odF .d0 .d1)) .d0 .d4 (.g (iMove (odV (.b false))) .d0 .d5 .nil)))
 (.seq (.reg (.u (iFieldAddr (nat_lit 0) (odF .d0 .d4)) fun v9 => (.u (iLoad1 (odV v9)) fun v10 => (.u (iEq Tryz.prog false (nat_lit 3) (odV v10) (odV (.i (.ofNat (nat_lit 6))))) fun v11 => (.cu (odV v11) true (iMove (odF .d0 .d2)) fun v13 => (.cu (odV v11) true (iFieldAddr (nat_lit 5) (odF .d0 .d4)) fun v14 => (.cu (odV v11) true (iLoad1 (odV v14)) fun v15 => (.cu (odV v11) true (iLenL (odV v15)) fun v16 => (.cu (odV v11) true (iCmp Tryz.prog ltF .lss (nat_lit 3) (odV v13) (odV v16)) fun v17 => (.u (iPick (odV v11) (odV v17) (odV (.b false))) fun v18 => (.cu (odV v18) true (iMove (odF .d0 .d0)) fun v20 => (.cu (odV v18) true (iLoadN (nat_lit 7) (odF .d0 .d4)) fun v21 => (.cu (odV v18) true (iMove (odF .d0 .d2)) fun v22 => (.cu (odV v18) true (iCall (nat_lit 137) [(odV v21), (odV v22)]) fun v23 => (.cu (odV v18) true (iMove (odF .d0 .d3)) fun v24 => (.cu (odV v18) true (iCall (nat_lit 113) [(odV v20), (odV v23), (odV v24), (odV (.s [(nat_lit 117), (nat_lit 110), (nat_lit 113), (nat_lit 117), (nat_lit 111), (nat_lit 116), (nat_lit 101)]))]) fun v25 => (.u (iPick (odV v18) (odV v25) (odV (.b false))) fun v26 => (.g (iMove (odV v26)) .d0 .d5 .nil))))))))))))))))))
 .ret)), [(.d0, .d0), (.d0, .d1), (.d0, .d2), (.d0, .d3)], [.t (odF .d0 .d5)]⟩
def c137 : CFn := ⟨(.seq (.reg (.g (iBox (odF .d0 .d0)) .d0 .d2 (.g (iNew (nat_lit 7) [(.i (.ofNat (nat_lit 0))), (.i (.ofNat (nat_lit 0))), (.b false), (.sc (.slice none (nat_lit 0) (nat_lit 0))), (.s []), (.sc (.slice none (nat_lit 0) (nat_lit 0))), (.sc (.slice none (nat_lit 0) (nat_lit 0)))]) .d0 .d3 .nil)))
 (.seq (.reg (.u (iRd (iFieldAddr (nat_lit 5) (odF .d0 .d2))) fun v0 => (.u (iRd (iLoad1 (odV v0))) fun v1 => (.u (iRd (iMove (odF .d0 .d1))) fun v2 => (.u (iRd (iSlice (nat_lit 7) (odV v1) (some (odV v2)) none)) fun v3 => (.u (iRd (iFieldAddr (nat_lit 6) (odF .d0 .d2))) fun v4 => (.u (iRd (iLoad1 (odV v4))) fun v5 => (.u (iRd (iBuild (nat_lit 7) [(.i (.ofNat (nat_lit 0))), (.i (.ofNat (nat_lit 0))), (.b false), (.sc (.slice none (nat_lit 0) (nat_lit 0))), (.s []), (.sc (.slice none (nat_lit 0) (nat_lit 0))), (.sc (.slice none (nat_lit 0) (nat_lit 0)))] [((nat_lit 0), (nat_lit 1), (odV (.i (.ofNat (nat_lit 6))))), ((nat_lit 5), (nat_lit 1), (odV v3)), ((nat_lit 6), (nat_lit 1), (odV v5))])) fun v6 => (.u (iEf (iStore (nat_lit 7) (odF .d0 .d3) (odV v6))) fun v7 => .nil)))))))))
 .ret)), [(.d0, .d0), (.d0, .d1)], [.cN (nat_lit 7) (odF .d0 .d3)]⟩
def c138 : CFn := ⟨(.seq (.reg (.g (iBox (odF .d0 .d0)) .d0 .d2 .nil))
 (.seq (.reg (.u (iRd (iLoad1 (odF .d0 .d1))) fun v0 => (.u (iRd (iLoadN (nat_lit 7) (odF .d0 .d2))) fun v1 => (.u (iEf (iCall (nat_lit 117) [(odV v1)])) fun v2 => (.x (iChk (iLoad1 (odF .d0 .d1)) v0) (.u (iRd (iLookup (.strct [.str, .int]) false (.b false) (odV v0) (odV v2))) fun v3 => (.u (iRd (iNot (odV v3))) fun v4 => (.u (iEf (iCall (nat_lit 68) [(odV v4)])) fun v5 => .nil))))))))
 (.reg (.u (iRd (iLoad1 (odF .d0 .d1))) fun v0 => (.u (iRd (iLoadN (nat_lit 7) (odF .d0 .d2))) fun v1 => (.u (iEf (iCall (nat_lit 117) [(odV v1)])) fun v2 => (.x (iChk (iLoad1 (odF .d0 .d1)) v0) (.u (iEf (iMapSet (.strct [.str, .int]) (odV v0) (odV v2) (odV (.b true)))) fun v3 => .nil)))))))), [(.d0, .d0), (.d0, .d1)], []⟩
def c139 : CFn := ⟨(.seq (.reg (.g (iBox (odF .d0 .d0)) .d0 .d3 (.g (iBox (odF .d0 .d1)) .d0 .d4 (.g (iBox (odF .d0 .d2)) .d0 .d5 (.g (iMove (odV (.sc (.slice none (nat_lit 0) (nat_lit 0))))) .d0 .d6 (.g (iMove (odV (.b false))) .d0 .d7 .nil))))))
 (.seq (.seq (.reg (.u (iLoadN (nat_lit 5) (odF .d0 .d3)) fun v13 => (.u (iLoadN (nat_lit 7) (odF .d0 .d4)) fun v14 => (.u (iCall (nat_lit 133) [(odV v13), (odV v14)]) fun v15 => (.u (iExtract (nat_lit 0) (odV v15)) fun v16 => (.u (iExtract (nat_lit 1) (odV v15)) fun v17 => (.u (iMove (odV v16)) fun v8 => (.g (iMove (odV v17)) .d1 .d0 .nil))))))))
 (.seq (.reg (.g (iNot (odF .d1 .d0)) .d1 .d3 .nil))
 (.cond (odF .d1 .d3) (.seq (.reg (.g (iMove (odV (.sc (.slice none (nat_lit 0) (nat_lit 0))))) .d0 .d6 (.g (iMove (odV (.b false))) .d0 .d7 .nil)))
 .ret)
 .skip)))
 (.seq (.reg (.u (iLoadN (nat_lit 5) (odF .d0 .d3)) fun v21 => (.u (iLoadN (nat_lit 7) (odF .d0 .d4)) fun v22 => (.u (iLoadN (nat_lit 7) (odF .d0 .d5)) fun v23 => (.u (iCall (nat_lit 157) [(odV v21), (odV v22), (odV v23)]) fun v24 => (.u (iExtract (nat_lit 0) (odV v24)) fun v25 => (.u (iExtract (nat_lit 1) (odV v24)) fun v26 => (.g (iMove (odV v25)) .d1 .d1 (.g (iMove (odV v26)) .d1 .d2 .nil)))))))))
 (.seq (.seq (.reg (.g (iNot (odF .d1 .d2)) .d1 .d4 .nil))
 (.cond (odF .d1 .d4) (.seq (.reg (.g (iMove (odV (.sc (.slice none (nat_lit 0) (nat_lit 0))))) .d0 .d6 (.g (iMove (odV (.b false))) .d0 .d7 .nil)))
 .ret)
 .skip))
 (.seq (.reg (.g (iMove (odF .d1 .d1)) .d0 .d6 (.g (iMove (odV (.b true))) .d0 .d7 .nil)))
 .ret))))), [(.d0, .d0), (.d0, .d1), (.d0, .d2)], [.t (odF .d0 .d6), .t (odF .d0 .d7)]⟩
def c140 : CFn := ⟨(.seq (.reg (.g (iBox (odF .d0 .d0)) .d0 .d3 (.g (iBox (odF .d0 .d1)) .d0 .d4 (.g (iNew (nat_lit 7) [(.i (.ofNat (nat_lit 0))), (.i (.ofNat (nat_lit 0))), (.b false), (.sc (.slice none (nat_lit 0) (nat_lit 0))), (.s []), (.sc (.slice none (nat_lit 0) (nat_lit 0))), (.sc (.slice none (nat_lit 0) (nat_lit 0)))]) .d0 .d5 (.g (iMove (odV (.i (.ofNat (nat_lit 0))))) .d0 .d6 .nil)))))
 (.seq (.seq (.reg (.u (iLoadN (nat_lit 7) (odF .d0 .d4)) fun v10 => (.u (iCall (nat_lit 57) [(odV v10), (odV (.i (.ofNat (nat_lit 100))))]) fun v11 => (.g (iCmp Tryz.prog gtF .gtr (nat_lit 3) (odV v11) (odV (.i (.ofNat (nat_lit 100))))) .d1 .d1 .nil))))
 (.cond (odF .d1 .d1) (.seq (.reg (.u (iBuild (nat_lit 7) [(.i (.ofNat (nat_lit 0))), (.i (.ofNat (nat_lit 0))), (.b false), (.sc (.slice none (nat_lit 0) (nat_lit 0))), (.s []), (.sc (.slice none (nat_lit 0) (nat_lit 0))), (.sc (.slice none (nat_lit 0) (nat_lit 0)))] []) fun v13 => (.x (iStore (nat_lit 7) (odF .d0 .d5) (odV v13)) (.g (iMove (odV (.i (.ofNat (nat_lit 16))))) .d0 .d6 .nil))))
 .ret)
 .skip))
 (.seq (.reg (.u (iLoadN (nat_lit 5) (odF .d0 .d3)) fun v14 => (.u (iBuild (nat_lit 7) [(.sc .nilFunc), (.sc .nilFunc), (.sc .nilFunc), (.sc .nilFunc), (.sc .nilFunc), (.i (.ofNat (nat_lit 0))), (.i (.ofNat (nat_lit 0)))] [((nat_lit 0), (nat_lit 5), (odV v14)), ((nat_lit 5), (nat_lit 1), (odV (.i (.ofNat (nat_lit 20000)))))]) fun v15 => (.u (iBox (odV v15)) fun v16 => (.g (iMove (odV v16)) .d0 .d7 .nil)))))
 (.seq (.reg (.u (iLoadN (nat_lit 7) (odF .d0 .d4)) fun v18 => (.u (iCall (nat_lit 158) [(odF .d0 .d7), (odV v18), (odF .d0 .d2), (odV (.b false))]) fun v20 => (.g (iNew (nat_lit 7) [(.i (.ofNat (nat_lit 0))), (.i (.ofNat (nat_lit 0))), (.b false), (.sc (.slice none (nat_lit 0) (nat_lit 0))), (.s []), (.sc (.slice none (nat_lit 0) (nat_lit 0))), (.sc (.slice none (nat_lit 0) (nat_lit 0)))]) .d1 .d0 (.x (iStore (nat_lit 7) (odF .d1 .d0) (odV v20)) .nil)))))
 (.seq (.seq (.reg (.u (iNilCheck Tryz.prog (odF .d0 .d7)) fun v22 => (.u (iFieldAddr (nat_lit 6) (odV v22)) fun v23 => (.u (iLoad1 (odV v23)) fun v24 => (.g (iEq Tryz.prog true (nat_lit 35) (odV v24) (odV (.i (.ofNat (nat_lit 0))))) .d1 .d2 .nil)))))
 (.cond (odF .d1 .d2) (.seq (.reg (.u (iRd (iBuild (nat_lit 7) [(.i (.ofNat (nat_lit 0))), (.i (.ofNat (nat_lit 0))), (.b false), (.sc (.slice none (nat_lit 0) (nat_lit 0))), (.s []), (.sc (.slice none (nat_lit 0) (nat_lit 0))), (.sc (.slice none (nat_lit 0) (nat_lit 0)))] [])) fun v0 => (.u (iRd (iMove (odF .d0 .d7))) fun v1 => (.u (iRd (iNilCheck Tryz.prog (odV v1))) fun v2 => (.u (iRd (iFieldAddr (nat_lit 6) (odV v2))) fun v3 => (.u (iRd (iLoad1 (odV v3))) fun v4 => (.u (iEf (iStore (nat_lit 7) (odF .d0 .d5) (odV v0))) fun v5 => (.x (iChk (iLoad1 (odV v3)) v4) (.x (iChk (iFieldAddr (nat_lit 6) (odV v2)) v3) (.x (iChk (iNilCheck Tryz.prog (odV v1)) v2) (.x (iChk (iMove (odF .d0 .d7)) v1) (.u (iRd (iMove (odV v4))) fun v6 => (.g (iMove (odV v6)) .d0 .d6 .nil)))))))))))))
 .ret)
 .skip))
 (.seq (.reg (.u (iLoadN (nat_lit 7) (odF .d1 .d0)) fun v31 => (.x (iStore (nat_lit 7) (odF .d0 .d5) (odV v31)) (.g (iMove (odV (.i (.ofNat (nat_lit 0))))) .d0 .d6 .nil))))
 .ret)))))), [(.d0, .d0), (.d0, .d1), (.d0, .d2)], [.cN (nat_lit 7) (odF .d0 .d5), .t (odF .d0 .d6)]⟩
def c141 : CFn := ⟨(.seq (.reg (.g (iMove (odV (.i (.ofNat (nat_lit 0))))) .d0 .d2 .nil))
 (.seq (.seq (.reg (.g (iLenL (odF .d0 .d0)) .d0 .d4 (.g (iMove (odV (.i (.ofNat (nat_lit 0))))) .d0 .d5 .nil)))
 (.block (nat_lit 0) (.loop (.seq (.reg (.g (iCmp Tryz.prog ltF .lss (nat_lit 3) (odF .d0 .d5) (odF .d0 .d4)) .d0 .d6 .nil))
 (.seq (.cond (odF .d0 .d6) .skip
 (.exit (nat_lit 0)))
 (.seq (.block (nat_lit 1) (.seq (.reg (.g (iMove (odF .d0 .d5)) .d0 .d3 .nil))
 (.seq (.reg (.u (iIdx (nat_lit 7) (odF .d0 .d0) (odF .d0 .d3)) fun v14 => (.u (iLoadN (nat_lit 7) (odV v14)) fun v15 => (.g (iCallV Tryz.prog (odF .d0 .d1) [(odV v15)]) .d0 .d7 .nil))))
 (.cond (odF .d0 .d7) (.seq (.reg (.g (iMove (odF .d0 .d3)) .d0 .d2 .nil))
 .ret)
 .skip))))
 (.reg (.u (iInt Tryz.prog addF .add (nat_lit 3) (odF .d0 .d5) (odV (.i (.ofNat (nat_lit 1))))) fun v18 => (.g (iMove (odV v18)) .d0 .d5 .nil)))))))))
 (.seq (.reg (.g (iMove (odV (.i (.negSucc (nat_lit 0))))) .d0 .d2 .nil))
 .ret))), [(.d0, .d0), (.d0, .d1)], [.t (odF .d0 .d2)]⟩
def c142 : CFn := ⟨(.seq (.reg (.g (iBox (odF .d0 .d0)) .d0 .d3 (.g (iMove (odV (.b false))) .d0 .d4 .nil)))
 (.seq (.reg (.u (iRd (iLoad1 (odF .d0 .d1))) fun v0 => (.u (iRd (iLoadN (nat_lit 7) (odF .d0 .d3))) fun v1 => (.u (iRd (iLoad1 (odF .d0 .d2))) fun v2 => (.u (iRd (iNilCheck Tryz.prog (odV v2))) fun v3 => (.u (iRd (iFieldAddr (nat_lit 3) (odV v3))) fun v4 => (.u (iRd (iLoad1 (odV v4))) fun v5 => (.u (iEf (iCall (nat_lit 84) [(odV v0), (odV v1), (odV v5), (odV (.s [(nat_lit 46), (nat_lit 46), (nat_lit 46)]))])) fun v6 => (.u (iRd (iMove (odV v6))) fun v7 => (.g (iMove (odV v7)) .d0 .d4 .nil))))))))))
 .ret)), [(.d0, .d0), (.d0, .d1), (.d0, .d2)], [.t (odF .d0 .d4)]⟩
def c143 : CFn := ⟨(.seq (.reg (.g (iBox (odF .d0 .d0)) .d0 .d3 (.g (iMove (odV (.b false))) .d0 .d4 .nil)))
 (.seq (.reg (.u (iRd (iLoad1 (odF .d0 .d1))) fun v0 => (.u (iRd (iLoadN (nat_lit 7) (odF .d0 .d3))) fun v1 => (.u (iRd (iLoad1 (odF .d0 .d2))) fun v2 => (.u (iRd (iNilCheck Tryz.prog (odV v2))) fun v3 => (.u (iRd (iFieldAddr (nat_lit 3) (odV v3))) fun v4 => (.u (iRd (iLoad1 (odV v4))) fun v5 => (.u (iEf (iCall (nat_lit 84) [(odV v0), (odV v1), (odV v5), (odV (.s [(nat_lit 95)]))])) fun v6 => (.u (iRd (iMove (odV v6))) fun v7 => (.g (iMove (odV v7)) .d0 .d4 .nil))))))))))
 .ret)), [(.d0, .d0), (.d0, .d1), (.d0, .d2)], [.t (odF .d0 .d4)]⟩
def c144 : CFn := ⟨(.seq (.reg (.g (iBox (odF .d0 .d0)) .d0 .d2 (.g (iMove (odV (.b false))) .d0 .d3 .nil)))
 (.seq (.reg (.u (iLoad1 (odF .d0 .d1)) fun v4 => (.u (iNilCheck Tryz.prog (odV v4)) fun v5 => (.u (iFieldAddr (nat_lit 0) (odV v5)) fun v6 => (.u (iLoad1 (odV v6)) fun v7 => (.u (iFn (.func (nat_lit 145)) [] [(odF .d0 .d2)]) fun v8 => (.u (iCall (nat_lit 130) [(odV v7), (odV v8)]) fun v9 => (.g (iMove (odV v9)) .d0 .d3 .nil))))))))
 .ret)), [(.d0, .d0), (.d0, .d1)], [.t (odF .d0 .d3)]⟩
def c145 : CFn := ⟨(.seq (.reg (.g (iBox (odF .d0 .d0)) .d0 .d2 (.g (iMove (odV (.b false))) .d0 .d3 .nil)))
 (.seq (.reg (.u (iLoadN (nat_lit 7) (odF .d0 .d2)) fun v4 => (.u (iLoadN (nat_lit 7) (odF .d0 .d1)) fun v5 => (.u (iCall (nat_lit 146) [(odV v4), (odV v5)]) fun v6 => (.g (iMove (odV v6)) .d0 .d3 .nil)))))
 .ret)), [(.d0, .d0), (.d0, .d1)], [.t (odF .d0 .d3)]⟩
def c146 : CFn := ⟨(.seq (.reg (.g (iBox (odF .d0 .d0)) .d0 .d2 (.g (iBox (odF .d0 .d1)) .d0 .d3 (.g (iMove (odV (.b false))) .d0 .d4 .nil))))
 (.seq (.reg (.u (iFieldAddr (nat_lit 0) (odF .d0 .d2)) fun v5 => (.u (iLoad1 (odV v5)) fun v6 => (.u (iEq Tryz.prog false (nat_lit 3) (odV v6) (odV (.i (.ofNat (nat_lit 5))))) fun v7 => (.cu (odV v7) true (iFieldAddr (nat_lit 0) (odF .d0 .d3)) fun v9 => (.cu (odV v7) true (iLoad1 (odV v9)) fun v10 => (.cu (odV v7) true (iEq Tryz.prog false (nat_lit 3) (odV v10) (odV (.i (.ofNat (nat_lit 5))))) fun v11 => (.u (iPick (odV v7) (odV v11) (odV (.b false))) fun v12 => (.cu (odV v12) true (iFieldAddr (nat_lit 4) (odF .d0 .d2)) fun v14 => (.cu (odV v12) true (iLoad1 (odV v14)) fun v15 => (.cu (odV v12) true (iFieldAddr (nat_lit 4) (odF .d0 .d3)) fun v16 => (.cu (odV v12) true (iLoad1 (odV v16)) fun v17 => (.cu (odV v12) true (iEq Tryz.prog false (nat_lit 9) (odV v15) (odV v17)) fun v18 => (.u (iPick (odV v12) (odV v18) (odV (.b false))) fun v19 => (.cu (odV v19) true (iFieldAddr (nat_lit 1) (odF .d0 .d2)) fun v21 => (.cu (odV v19) true (iLoad1 (odV v21)) fun v22 => (.cu (odV v19) true (iFieldAddr (nat_lit 1) (odF .d0 .d3)) fun v23 => (.cu (odV v19) true (iLoad1 (odV v23)) fun v24 => (.cu (odV v19) true (iEq Tryz.prog false (nat_lit 3) (odV v22) (odV v24)) fun v25 => (.u (iPick (odV v19) (odV v25) (odV (.b false))) fun v26 => (.g (iMove (odV v26)) .d0 .d4 .nil)))))))))))))))))))))
 .ret)), [(.d0, .d0), (.d0, .d1)], [.t (odF .d0 .d4)]⟩
def c147 : CFn := ⟨(.seq (.reg (.g (iBox (odF .d0 .d0)) .d0 .d5 (.g (iBox (odF .d0 .d1)) .d0 .d6 (.g (iMove (odV (.b false))) .d0 .d7 .nil))))
 (.seq (.reg (.u (iRd (iLoad1 (odF .d0 .d2))) fun v0 => (.u (iRd (iLoadN (nat_lit 7) (odF .d0 .d5))) fun v1 => (.u (iRd (iLoad1 (odF .d0 .d3))) fun v2 => (.u (iRd (iNilCheck Tryz.prog (odV v2))) fun v3 => (.u (iRd (iFieldAddr (nat_lit 3) (odV v3))) fun v4 => (.u (iRd (iLoad1 (odV v4))) fun v5 => (.u (iRd (iLoad1 (odF .d0 .d2))) fun v7 => (.u (iRd (iLoadN (nat_lit 7) (odF .d0 .d6))) fun v8 => (.u (iRd (iLoad1 (odF .d0 .d4))) fun v9 => (.u (iEf (iCall (nat_lit 75) [(odV v0), (odV v1), (odV v5)])) fun v6 => (.x (iChk (iLoad1 (odF .d0 .d4)) v9) (.x (iChk (iLoadN (nat_lit 7) (odF .d0 .d6)) v8) (.x (iChk (iLoad1 (odF .d0 .d2)) v7) (.u (iEf (iCall (nat_lit 75) [(odV v7), (odV v8), (odV v9)])) fun v10 => (.u (iRd (iEq Tryz.prog false (nat_lit 102) (odV v6) (odV v10))) fun v11 => (.u (iRd (iMove (odV v11))) fun v12 => (.g (iMove (odV v12)) .d0 .d7 .nil))))))))))))))))))
 .ret)), [(.d0, .d0), (.d0, .d1), (.d0, .d2), (.d0, .d3), (.d0, .d4)], [.t (odF .d0 .d7)]⟩
def c148 : CFn := ⟨(.seq (.reg (.g (iBox (odF .d0 .d0)) .d0 .d4 (.g (iNew (nat_lit 7) [(.i (.ofNat (nat_lit 0))), (.i (.ofNat (nat_lit 0))), (.b false), (.sc (.slice none (nat_lit 0) (nat_lit 0))), (.s []), (.sc (.slice none (nat_lit 0) (nat_lit 0))), (.sc (.slice none (nat_lit 0) (nat_lit 0)))]) .d0 .d5 .nil)))
 (.seq (.seq (.reg (.u (iRd (iLoad1 (odF .d0 .d1))) fun v0 => (.u (iRd (iLoadN (nat_lit 7) (odF .d0 .d4))) fun v1 => (.u (iRs (alNew (nat_lit 7) [(.i (.ofNat (nat_lit 0))), (.i (.ofNat (nat_lit 0))), (.b false), (.sc (.slice none (nat_lit 0) (nat_lit 0))), (.s []), (.sc (.slice none (nat_lit 0) (nat_lit 0))), (.sc (.slice none (nat_lit 0) (nat_lit 0)))])) fun v7 => (.x (iChk (iLoadN (nat_lit 7) (odF .d0 .d4)) v1) (.x (iChk (iLoad1 (odF .d0 .d1)) v0) (.u (iEf (iCall (nat_lit 117) [(odV v1)])) fun v2 => (.x (iChk (iLoad1 (odF .d0 .d1)) v0) (.u (iRd (iLookup (.strct [.str, .int]) true (.agg (nat_lit 7) [(.i (.ofNat (nat_lit 0))), (.i (.ofNat (nat_lit 0))), (.b false), (.sc (.slice none (nat_lit 0) (nat_lit 0))), (.s []), (.sc (.slice none (nat_lit 0) (nat_lit 0))), (.sc (.slice none (nat_lit 0) (nat_lit 0)))]) (odV v0) (odV v2))) fun v3 => (.u (iRd (iMove (odV v3))) fun v4 => (.u (iRd (iExtract (nat_lit 0) (odV v4))) fun v5 => (.u (iRd (iExtract (nat_lit 1) (odV v4))) fun v6 => (.x (iMt (alNew (nat_lit 7) [(.i (.ofNat (nat_lit 0))), (.i (.ofNat (nat_lit 0))), (.b false), (.sc (.slice none (nat_lit 0) (nat_lit 0))), (.s []), (.sc (.slice none (nat_lit 0) (nat_lit 0))), (.sc (.slice none (nat_lit 0) (nat_lit 0)))]) v7) (.u (iEf (iStore (nat_lit 7) (odV v7) (odV v5))) fun v8 => (.x (iChk (iExtract (nat_lit 1) (odV v4)) v6) (.u (iRd (iMove (odV v6))) fun v9 => (.g (iMove (odV v9)) .d0 .d6 .nil)))))))))))))))))
 (.seq (.reg (.g (iNot (odF .d0 .d6)) .d0 .d7 .nil))
 (.cond (odF .d0 .d7) (.seq (.reg (.u (iRd (iLoad1 (odF .d0 .d2))) fun v0 => (.u (iRd (iLoad1 (odF .d0 .d2))) fun v1 => (.u (iRd (iNilCheck Tryz.prog (odV v1))) fun v2 => (.u (iRd (iFieldAddr (nat_lit 1) (odV v2))) fun v3 => (.u (iRd (iLoad1 (odV v3))) fun v4 => (.u (iRd (iLoadN (nat_lit 7) (odF .d0 .d4))) fun v5 => (.u (iRd (iLoad1 (odF .d0 .d3))) fun v6 => (.u (iRd (iNilCheck Tryz.prog (odV v6))) fun v7 => (.u (iRd (iFieldAddr (nat_lit 3) (odV v7))) fun v8 => (.u (iRd (iLoad1 (odV v8))) fun v9 => (.u (iRd (iBuild (nat_lit 8) [(.i (.ofNat (nat_lit 0))), (.i (.ofNat (nat_lit 0))), (.b false), (.sc (.slice none (nat_lit 0) (nat_lit 0))), (.s []), (.sc (.slice none (nat_lit 0) (nat_lit 0))), (.sc (.slice none (nat_lit 0) (nat_lit 0))), (.sc (.pointer none))] [((nat_lit 0), (nat_lit 7), (odV v5)), ((nat_lit 7), (nat_lit 1), (odV v9))])) fun v10 => (.u (iRs (alSl [(.i (.ofNat (nat_lit 0))), (.i (.ofNat (nat_lit 0))), (.b false), (.sc (.slice none (nat_lit 0) (nat_lit 0))), (.s []), (.sc (.slice none (nat_lit 0) (nat_lit 0))), (.sc (.slice none (nat_lit 0) (nat_lit 0))), (.sc (.pointer none))] (nat_lit 1) (nat_lit 8) [((nat_lit 0), (nat_lit 8), (odV v10))])) fun v11 => (.x (iChk (iBuild (nat_lit 8) [(.i (.ofNat (nat_lit 0))), (.i (.ofNat (nat_lit 0))), (.b false), (.sc (.slice none (nat_lit 0) (nat_lit 0))), (.s []), (.sc (.slice none (nat_lit 0) (nat_lit 0))), (.sc (.slice none (nat_lit 0) (nat_lit 0))), (.sc (.pointer none))] [((nat_lit 0), (nat_lit 7), (odV v5)), ((nat_lit 7), (nat_lit 1), (odV v9))]) v10) (.x (iChk (iLoad1 (odV v8)) v9) (.x (iChk (iFieldAddr (nat_lit 3) (odV v7)) v8) (.x (iChk (iNilCheck Tryz.prog (odV v6)) v7) (.x (iChk (iLoad1 (odF .d0 .d3)) v6) (.x (iChk (iLoadN (nat_lit 7) (odF .d0 .d4)) v5) (.x (iChk (iLoad1 (odV v3)) v4) (.x (iChk (iFieldAddr (nat_lit 1) (odV v2)) v3) (.x (iChk (iNilCheck Tryz.prog (odV v1)) v2) (.x (iChk (iLoad1 (odF .d0 .d2)) v1) (.x (iChk (iLoad1 (odF .d0 .d2)) v0) (.x (iMt (alSl [(.i (.ofNat (nat_lit 0))), (.i (.ofNat (nat_lit 0))), (.b false), (.sc (.slice none (nat_lit 0) (nat_lit 0))), (.s []), (.sc (.slice none (nat_lit 0) (nat_lit 0))), (.sc (.slice none (nat_lit 0) (nat_lit 0))), (.sc (.pointer none))] (nat_lit 1) (nat_lit 8) [((nat_lit 0), (nat_lit 8), (odV v10))]) v11) (.u (iEf (iAppend (nat_lit 8) (nat_lit 120) (odV v4) (odV v11))) fun v12 => (.x (iChk (iLoad1 (odF .d0 .d2)) v0) (.u (iRd (iNilCheck Tryz.prog (odV v0))) fun v13 => (.u (iRd (iFieldAddr (nat_lit 1) (odV v13))) fun v14 => (.u (iEf (iStore (nat_lit 1) (odV v14) (odV v12))) fun v15 => .nil))))))))))))))))))))))))))))))
 (.reg (.u (iRd (iLoad1 (odF .d0 .d1))) fun v0 => (.u (iRd (iLoadN (nat_lit 7) (odF .d0 .d4))) fun v1 => (.u (iRd (iFieldAddr (nat_lit 4) (odF .d0 .d4))) fun v3 => (.u (iRd (iLoad1 (odV v3))) fun v4 => (.u (iRd (iLoad1 (odF .d0 .d2))) fun v5 => (.u (iRd (iNilCheck Tryz.prog (odV v5))) fun v6 => (.u (iRd (iFieldAddr (nat_lit 1) (odV v6))) fun v7 => (.u (iRd (iLoad1 (odV v7))) fun v8 => (.u (iRd (iLenL (odV v8))) fun v9 => (.u (iRd (iBuild (nat_lit 7) [(.i (.ofNat (nat_lit 0))), (.i (.ofNat (nat_lit 0))), (.b false), (.sc (.slice none (nat_lit 0) (nat_lit 0))), (.s []), (.sc (.slice none (nat_lit 0) (nat_lit 0))), (.sc (.slice none (nat_lit 0) (nat_lit 0)))] [((nat_lit 0), (nat_lit 1), (odV (.i (.ofNat (nat_lit 5))))), ((nat_lit 4), (nat_lit 1), (odV v4)), ((nat_lit 1), (nat_lit 1), (odV v9))])) fun v10 => (.u (iEf (iCall (nat_lit 117) [(odV v1)])) fun v2 => (.x (iChk (iBuild (nat_lit 7) [(.i (.ofNat (nat_lit 0))), (.i (.ofNat (nat_lit 0))), (.b false), (.sc (.slice none (nat_lit 0) (nat_lit 0))), (.s []), (.sc (.slice none (nat_lit 0) (nat_lit 0))), (.sc (.slice none (nat_lit 0) (nat_lit 0)))] [((nat_lit 0), (nat_lit 1), (odV (.i (.ofNat (nat_lit 5))))), ((nat_lit 4), (nat_lit 1), (odV v4)), ((nat_lit 1), (nat_lit 1), (odV v9))]) v10) (.x (iChk (iLenL (odV v8)) v9) (.x (iChk (iLoad1 (odV v7)) v8) (.x (iChk (iFieldAddr (nat_lit 1) (odV v6)) v7) (.x (iChk (iNilCheck Tryz.prog (odV v5)) v6) (.x (iChk (iLoad1 (odF .d0 .d2)) v5) (.x (iChk (iLoad1 (odV v3)) v4) (.x (iChk (iFieldAddr (nat_lit 4) (odF .d0 .d4)) v3) (.x (iChk (iLoad1 (odF .d0 .d1)) v0) (.u (iEf (iMapSet (.strct [.str, .int]) (odV v0) (odV v2) (odV v10))) fun v11 => .nil)))))))))))))))))))))))
 .skip)))
 (.seq (.reg (.u (iRd (iLoad1 (odF .d0 .d1))) fun v0 => (.u (iRd (iLoadN (nat_lit 7) (odF .d0 .d4))) fun v1 => (.u (iEf (iCall (nat_lit 117) [(odV v1)])) fun v2 => (.x (iChk (iLoad1 (odF .d0 .d1)) v0) (.u (iRd (iLookup (.strct [.str, .int]) false (.agg (nat_lit 7) [(.i (.ofNat (nat_lit 0))), (.i (.ofNat (nat_lit 0))), (.b false), (.sc (.slice none (nat_lit 0) (nat_lit 0))), (.s []), (.sc (.slice none (nat_lit 0) (nat_lit 0))), (.sc (.slice none (nat_lit 0) (nat_lit 0)))]) (odV v0) (odV v2))) fun v3 => (.u (iEf (iStore (nat_lit 7) (odF .d0 .d5) (odV v3))) fun v4 => .nil)))))))
 .ret))), [(.d0, .d0), (.d0, .d1), (.d0, .d2), (.d0, .d3)], [.cN (nat_lit 7) (odF .d0 .d5)]⟩
def c149 : CFn := ⟨(.seq (.reg (.g (iBox (odF .d0 .d0)) .d0 .d2 (.g (iBox (odF .d0 .d1)) .d0 .d3 (.g (iMove (odV (.b false))) .d0 .d4 .nil))))
 (.seq (.reg (.u (iFieldAddr (nat_lit 0) (odF .d0 .d3)) fun v5 => (.u (iLoad1 (odV v5)) fun v6 => (.u (iEq Tryz.prog false (nat_lit 3) (odV v6) (odV (.i (.ofNat (nat_lit 5))))) fun v7 => (.cu (odV v7) true (iFieldAddr (nat_lit 0) (odF .d0 .d2)) fun v9 => (.cu (odV v7) true (iLoad1 (odV v9)) fun v10 => (.cu (odV v7) true (iLoadN (nat_lit 7) (odF .d0 .d3)) fun v11 => (.cu (odV v7) true (iCallV Tryz.prog (odV v10) [(odV v11)]) fun v12 => (.u (iPick (odV v7) (odV v12) (odV (.b false))) fun v13 => (.cu (odV v13) true (iFieldAddr (nat_lit 2) (odF .d0 .d2)) fun v15 => (.cu (odV v13) true (iLoad1 (odV v15)) fun v16 => (.cu (odV v13) true (iLoadN (nat_lit 7) (odF .d0 .d3)) fun v17 => (.cu (odV v13) true (iCallV Tryz.prog (odV v16) [(odV v17)]) fun v18 => (.cu (odV v13) true (iNot (odV v18)) fun v19 => (.u (iPick (odV v13) (odV v19) (odV (.b false))) fun v20 => (.g (iMove (odV v20)) .d0 .d4 .nil))))))))))))))))
 .ret)), [(.d0, .d0), (.d0, .d1)], [.t (odF .d0 .d4)]⟩
def c150 : CFn := ⟨(.seq (.reg (.g (iBox (odF .d0 .d0)) .d0 .d2 (.g (iBox (odF .d0 .d1)) .d0 .d3 (.g (iMove (odV (.sc (.slice none (nat_lit 0) (nat_lit 0))))) .d0 .d4 (.g (iMove (odV (.b false))) .d0 .d5 .nil)))))
 (.seq (.seq (.reg (.u (iFieldAddr (nat_lit 0) (odF .d0 .d3)) fun v16 => (.g (iLoad1 (odV v16)) .d2 .d0 .nil)))
 (.block (nat_lit 0) (.seq (.reg (.u (iEq Tryz.prog false (nat_lit 3) (odF .d2 .d0) (odV (.i (.ofNat (nat_lit 5))))) fun v19 => (.g (iMove (odV v19)) .d2 .d1 .nil)))
 (.cond (odF .d2 .d1) (.seq (.seq (.reg (.u (iFieldAddr (nat_lit 2) (odF .d0 .d2)) fun v20 => (.u (iLoad1 (odV v20)) fun v21 => (.u (iLoadN (nat_lit 7) (odF .d0 .d3)) fun v22 => (.u (iCallV Tryz.prog (odV v21) [(odV v22)]) fun v23 => (.cu (odV v23) false (iFieldAddr (nat_lit 1) (odF .d0 .d2)) fun v25 => (.cu (odV v23) false (iLoad1 (odV v25)) fun v26 => (.cu (odV v23) false (iLoadN (nat_lit 7) (odF .d0 .d3)) fun v27 => (.cu (odV v23) false (iCallV Tryz.prog (odV v26) [(odV v27)]) fun v28 => (.g (iPick (odV v23) (odV (.b true)) (odV v28)) .d2 .d2 .nil))))))))))
 (.cond (odF .d2 .d2) (.seq (.reg (.g (iMove (odV (.sc (.slice none (nat_lit 0) (nat_lit 0))))) .d0 .d4 (.g (iMove (odV (.b true))) .d0 .d5 .nil)))
 .ret)
 .skip))
 (.seq (.reg (.u (iFieldAddr (nat_lit 4) (odF .d0 .d3)) fun v30 => (.u (iLoad1 (odV v30)) fun v31 => (.u (iFieldAddr (nat_lit 1) (odF .d0 .d3)) fun v32 => (.u (iLoad1 (odV v32)) fun v33 => (.u (iBuild (nat_lit 11) [(.s []), (.i (.ofNat (nat_lit 0))), (.i (.ofNat (nat_lit 0))), (.i (.ofNat (nat_lit 0))), (.i (.ofNat (nat_lit 0))), (.b false), (.sc (.slice none (nat_lit 0) (nat_lit 0))), (.s []), (.sc (.slice none (nat_lit 0) (nat_lit 0))), (.sc (.slice none (nat_lit 0) (nat_lit 0))), (.sc (.slice none (nat_lit 0) (nat_lit 0)))] [((nat_lit 0), (nat_lit 1), (odV v31)), ((nat_lit 1), (nat_lit 1), (odV v33))]) fun v34 => (.u (iBuildSlice [(.s []), (.i (.ofNat (nat_lit 0))), (.i (.ofNat (nat_lit 0))), (.i (.ofNat (nat_lit 0))), (.i (.ofNat (nat_lit 0))), (.b false), (.sc (.slice none (nat_lit 0) (nat_lit 0))), (.s []), (.sc (.slice none (nat_lit 0) (nat_lit 0))), (.sc (.slice none (nat_lit 0) (nat_lit 0))), (.sc (.slice none (nat_lit 0) (nat_lit 0)))] (nat_lit 1) (nat_lit 11) [((nat_lit 0), (nat_lit 11), (odV v34))]) fun v35 => (.g (iMove (odV v35)) .d0 .d4 (.g (iMove (odV (.b true))) .d0 .d5 .nil)))))))))
 .ret))
 (.seq (.seq (.reg (.u (iEq Tryz.prog false (nat_lit 3) (odF .d2 .d0) (odV (.i (.ofNat (nat_lit 6))))) fun v37 => (.g (iMove (odV v37)) .d2 .d3 .nil)))
 (.cond (odF .d2 .d3) .skip
 (.reg (.u (iEq Tryz.prog false (nat_lit 3) (odF .d2 .d0) (odV (.i (.ofNat (nat_lit 7))))) fun v38 => (.g (iMove (odV v38)) .d2 .d3 .nil)))))
 (.cond (odF .d2 .d3) .skip
 (.seq (.reg (.g (iMove (odV (.sc (.slice none (nat_lit 0) (nat_lit 0))))) .d0 .d4 (.g (iMove (odV (.b true))) .d0 .d5 .nil)))
 .ret)))))))
 (.seq (.reg (.g (iMove (odV (.sc (.slice none (nat_lit 0) (nat_lit 0))))) .d0 .d6 .nil))
 (.seq (.reg (.g (iMove (odV (.b false))) .d0 .d7 .nil))
 (.seq (.seq (.reg (.u (iFieldAddr (nat_lit 5) (odF .d0 .d3)) fun v39 => (.g (iLoad1 (odV v39)) .d2 .d4 (.g (iLenL (odF .d2 .d4)) .d2 .d5 (.g (iMove (odV (.i (.ofNat (nat_lit 0))))) .d2 .d6 .nil)))))
 (.block (nat_lit 1) (.loop (.seq (.reg (.g (iCmp Tryz.prog ltF .lss (nat_lit 3) (odF .d2 .d6) (odF .d2 .d5)) .d2 .d7 .nil))
 (.seq (.cond (odF .d2 .d7) .skip
 (.exit (nat_lit 1)))
 (.seq (.block (nat_lit 2) (.seq (.reg (.u (iIdx (nat_lit 7) (odF .d2 .d4) (odF .d2 .d6)) fun v45 => (.u (iLoadN (nat_lit 7) (odV v45)) fun v46 => (.g (iNew (nat_lit 7) [(.i (.ofNat (nat_lit 0))), (.i (.ofNat (nat_lit 0))), (.b false), (.sc (.slice none (nat_lit 0) (nat_lit 0))), (.s []), (.sc (.slice none (nat_lit 0) (nat_lit 0))), (.sc (.slice none (nat_lit 0) (nat_lit 0)))]) .d1 .d1 (.g (iMove (odF .d2 .d6)) .d1 .d0 (.x (iStore (nat_lit 7) (odF .d1 .d1) (odV v46)) .nil))))))
 (.seq (.seq (.reg (.u (iLoadN (nat_lit 5) (odF .d0 .d2)) fun v47 => (.u (iLoadN (nat_lit 7) (odF .d1 .d1)) fun v48 => (.g (iCall (nat_lit 149) [(odV v47), (odV v48)]) .d3 .d0 .nil))))
 (.cond (odF .d3 .d0) (.seq (.seq (.reg (.cu (odF .d0 .d7) false (iMove (odF .d1 .d0)) fun v52 => (.cu (odF .d0 .d7) false (iEq Tryz.prog false (nat_lit 3) (odV v52) (odV (.i (.ofNat (nat_lit 0))))) fun v53 => (.g (iPick (odF .d0 .d7) (odV (.b true)) (odV v53)) .d3 .d1 .nil))))
 (.cond (odF .d3 .d1) (.seq (.reg (.g (iMove (odV (.sc (.slice none (nat_lit 0) (nat_lit 0))))) .d0 .d4 (.g (iMove (odV (.b false))) .d0 .d5 .nil)))
 .ret)
 .skip))
 (.seq (.reg (.g (iMove (odV (.b true))) .d0 .d7 .nil))
 (.exit (nat_lit 2))))
 .skip))
 (.seq (.reg (.u (iLoadN (nat_lit 5) (odF .d0 .d2)) fun v56 => (.u (iLoadN (nat_lit 7) (odF .d1 .d1)) fun v57 => (.u (iCall (nat_lit 150) [(odV v56), (odV v57)]) fun v58 => (.u (iExtract (nat_lit 0) (odV v58)) fun v59 => (.u (iExtract (nat_lit 1) (odV v58)) fun v60 => (.g (iMove (odV v59)) .d1 .d2 (.g (iMove (odV v60)) .d1 .d3 .nil))))))))
 (.seq (.seq (.reg (.g (iNot (odF .d1 .d3)) .d3 .d2 .nil))
 (.cond (odF .d3 .d2) (.seq (.reg (.g (iMove (odV (.sc (.slice none (nat_lit 0) (nat_lit 0))))) .d0 .d4 (.g (iMove (odV (.b false))) .d0 .d5 .nil)))
 .ret)
 .skip))
 (.seq (.seq (.reg (.u (iRd (iMove (odF .d1 .d0))) fun v0 => (.u (iRd (iInt Tryz.prog addF .add (nat_lit 3) (odV v0) (odV (.i (.ofNat (nat_lit 1)))))) fun v1 => (.u (iRd (iFieldAddr (nat_lit 5) (odF .d0 .d3))) fun v2 => (.u (iRd (iLoad1 (odV v2))) fun v3 => (.u (iRd (iLenL (odV v3))) fun v4 => (.u (iRd (iCmp Tryz.prog ltF .lss (nat_lit 3) (odV v1) (odV v4))) fun v5 => (.u (iRd (iMove (odV v5))) fun v6 => (.u (iRd (iGd (odV v6) true (iLoadN (nat_lit 5) (odF .d0 .d2)))) fun v7 => (.u (iRd (iGd (odV v6) true (iFieldAddr (nat_lit 5) (odF .d0 .d3)))) fun v8 => (.u (iRd (iGd (odV v6) true (iLoad1 (odV v8)))) fun v9 => (.u (iRd (iGd (odV v6) true (iMove (odF .d1 .d0)))) fun v10 => (.u (iRd (iGd (odV v6) true (iInt Tryz.prog addF .add (nat_lit 3) (odV v10) (odV (.i (.ofNat (nat_lit 1))))))) fun v11 => (.u (iRd (iGd (odV v6) true (iIdx (nat_lit 7) (odV v9) (odV v11)))) fun v12 => (.u (iRd (iGd (odV v6) true (iLoadN (nat_lit 7) (odV v12)))) fun v13 => (.u (iEf (iGd (odV v6) true (iCall (nat_lit 149) [(odV v7), (odV v13)]))) fun v14 => (.u (iRd (iPick (odV v6) (odV v14) (odV (.b false)))) fun v15 => (.g (iMove (odV v15)) .d3 .d3 .nil))))))))))))))))))
 (.cond (odF .d3 .d3) (.seq (.reg (.g (iLenL (odF .d1 .d2)) .d3 .d4 (.g (iMove (odV (.i (.ofNat (nat_lit 0))))) .d3 .d5 .nil)))
 (.block (nat_lit 3) (.loop (.seq (.reg (.g (iCmp Tryz.prog ltF .lss (nat_lit 3) (odF .d3 .d5) (odF .d3 .d4)) .d3 .d6 .nil))
 (.seq (.cond (odF .d3 .d6) .skip
 (.exit (nat_lit 3)))
 (.seq (.block (nat_lit 4) (.seq (.reg (.g (iMove (odF .d3 .d5)) .d1 .d4 .nil))
 (.reg (.u (iIdx (nat_lit 11) (odF .d1 .d2) (odF .d1 .d4)) fun v86 => (.u (iFieldAddr (nat_lit 2) (odV v86)) fun v87 => (.u (iLoad1 (odV v87)) fun v88 => (.u (iInt Tryz.prog addF .add (nat_lit 3) (odV v88) (odV (.i (.ofNat (nat_lit 1))))) fun v89 => (.u (iIdx (nat_lit 11) (odF .d1 .d2) (odF .d1 .d4)) fun v90 => (.u (iFieldAddr (nat_lit 2) (odV v90)) fun v91 => (.x (iStore (nat_lit 1) (odV v91) (odV v89)) .nil))))))))))
 (.reg (.u (iInt Tryz.prog addF .add (nat_lit 3) (odF .d3 .d5) (odV (.i (.ofNat (nat_lit 1))))) fun v92 => (.g (iMove (odV v92)) .d3 .d5 .nil)))))))))
 .skip))
 (.reg (.u (iMove (odF .d0 .d6)) fun v93 => (.u (iAppend (nat_lit 11) (nat_lit 168) (odV v93) (odF .d1 .d2)) fun v95 => (.g (iMove (odV v95)) .d0 .d6 .nil))))))))))
 (.reg (.u (iInt Tryz.prog addF .add (nat_lit 3) (odF .d2 .d6) (odV (.i (.ofNat (nat_lit 1))))) fun v96 => (.g (iMove (odV v96)) .d2 .d6 .nil)))))))))
 (.seq (.reg (.u (iLoadN (nat_lit 7) (odF .d0 .d3)) fun v98 => (.u (iCall (nat_lit 125) [(odV v98)]) fun v99 => (.u (iExtract (nat_lit 0) (odV v99)) fun v100 => (.u (iExtract (nat_lit 1) (odV v99)) fun v101 => (.g (iNew (nat_lit 7) [(.i (.ofNat (nat_lit 0))), (.i (.ofNat (nat_lit 0))), (.b false), (.sc (.slice none (nat_lit 0) (nat_lit 0))), (.s []), (.sc (.slice none (nat_lit 0) (nat_lit 0))), (.sc (.slice none (nat_lit 0) (nat_lit 0)))]) .d1 .d5 (.x (iStore (nat_lit 7) (odF .d1 .d5) (odV v100)) (.g (iMove (odV v101)) .d1 .d6 .nil))))))))
 (.seq (.seq (.reg (.g (iNot (odF .d1 .d6)) .d3 .d7 .nil))
 (.cond (odF .d3 .d7) (.seq (.reg (.g (iMove (odF .d0 .d6)) .d0 .d4 (.g (iMove (odV (.b true))) .d0 .d5 .nil)))
 .ret)
 .skip))
 (.seq (.reg (.u (iLoadN (nat_lit 5) (odF .d0 .d2)) fun v106 => (.u (iLoadN (nat_lit 7) (odF .d1 .d5)) fun v107 => (.u (iCall (nat_lit 150) [(odV v106), (odV v107)]) fun v108 => (.u (iExtract (nat_lit 0) (odV v108)) fun v109 => (.u (iExtract (nat_lit 1) (odV v108)) fun v110 => (.g (iMove (odV v109)) .d1 .d7 (.g (iMove (odV v110)) .d1 .d6 .nil))))))))
 (.seq (.reg (.u (iAppend (nat_lit 11) (nat_lit 168) (odF .d0 .d6) (odF .d1 .d7)) fun v113 => (.cu (odF .d1 .d6) true (iLoadN (nat_lit 5) (odF .d0 .d2)) fun v116 => (.cu (odF .d1 .d6) true (iLoadN (nat_lit 7) (odF .d1 .d5)) fun v117 => (.cu (odF .d1 .d6) true (iCall (nat_lit 149) [(odV v116), (odV v117)]) fun v118 => (.cu (odF .d1 .d6) true (iNot (odV v118)) fun v119 => (.u (iPick (odF .d1 .d6) (odV v119) (odV (.b false))) fun v120 => (.g (iMove (odV v113)) .d0 .d4 (.g (iMove (odV v120)) .d0 .d5 .nil)))))))))
 .ret))))))))), [(.d0, .d0), (.d0, .d1)], [.t (odF .d0 .d4), .t (odF .d0 .d5)]⟩
def c151 : CFn := ⟨(.seq (.reg (.g (iMove (odV (.b false))) .d0 .d2 .nil))
 (.seq (.reg (.u (iCall (nat_lit 159) [(odF .d0 .d0), (odF .d0 .d1)]) fun v7 => (.u (iCmp Tryz.prog geF .geq (nat_lit 3) (odV v7) (odV (.i (.ofNat (nat_lit 0))))) fun v8 => (.g (iMove (odV v8)) .d0 .d2 .nil))))
 .ret)), [(.d0, .d0), (.d0, .d1)], [.t (odF .d0 .d2)]⟩
def c152 : CFn := ⟨(.seq (.reg (.g (iBox (odF .d0 .d0)) .d0 .d2 (.g (iMove (odV (.b false))) .d0 .d3 .nil)))
 (.seq (.reg (.u (iFieldAddr (nat_lit 0) (odF .d0 .d2)) fun v4 => (.u (iLoad1 (odV v4)) fun v5 => (.u (iFieldAddr (nat_lit 0) (odF .d0 .d1)) fun v6 => (.u (iLoad1 (odV v6)) fun v7 => (.u (iEq Tryz.prog false (nat_lit 9) (odV v5) (odV v7)) fun v8 => (.cu (odV v8) true (iFieldAddr (nat_lit 1) (odF .d0 .d2)) fun v10 => (.cu (odV v8) true (iLoad1 (odV v10)) fun v11 => (.cu (odV v8) true (iFieldAddr (nat_lit 1) (odF .d0 .d1)) fun v12 => (.cu (odV v8) true (iLoad1 (odV v12)) fun v13 => (.cu (odV v8) true (iEq Tryz.prog false (nat_lit 3) (odV v11) (odV v13)) fun v14 => (.u (iPick (odV v8) (odV v14) (odV (.b false))) fun v15 => (.g (iMove (odV v15)) .d0 .d3 .nil)))))))))))))
 .ret)), [(.d0, .d0), (.d0, .d1)], [.t (odF .d0 .d3)]⟩
def c153 : CFn := ⟨(.seq (.reg (.g (iMove (odV (.sc (.slice none (nat_lit 0) (nat_lit 0))))) .d0 .d2 .nil))
 (.seq (.reg (.g (iMove (odV (.sc (.slice none (nat_lit 0) (nat_lit 0))))) .d0 .d3 .nil))
 (.seq (.reg (.g (iMove (odV (.i (.ofNat (nat_lit 0))))) .d0 .d4 .nil))
 (.seq (.seq (.reg (.g (iMove (odV (.i (.ofNat (nat_lit 0))))) .d0 .d5 .nil))
 (.block (nat_lit 0) (.loop (.seq (.seq (.reg (.u (iLenL (odF .d0 .d0)) fun v11 => (.u (iCmp Tryz.prog ltF .lss (nat_lit 3) (odF .d0 .d5) (odV v11)) fun v12 => (.cu (odV v12) false (iMove (odF .d0 .d5)) fun v14 => (.cu (odV v12) false (iMove (odF .d0 .d1)) fun v15 => (.cu (odV v12) false (iLenL (odV v15)) fun v16 => (.cu (odV v12) false (iCmp Tryz.prog ltF .lss (nat_lit 3) (odV v14) (odV v16)) fun v17 => (.g (iPick (odV v12) (odV (.b true)) (odV v17)) .d0 .d7 .nil))))))))
 (.cond (odF .d0 .d7) .skip
 (.exit (nat_lit 0))))
 (.seq (.block (nat_lit 1) (.seq (.reg (.u (iCall (nat_lit 160) [(odF .d0 .d0), (odF .d0 .d5)]) fun v23 => (.u (iCall (nat_lit 160) [(odF .d0 .d1), (odF .d0 .d5)]) fun v26 => (.u (iInt Tryz.prog addF .add (nat_lit 3) (odV v23) (odV v26)) fun v27 => (.u (iInt Tryz.prog addF .add (nat_lit 3) (odV v27) (odF .d0 .d4)) fun v29 => (.g (iMove (odV v29)) .d0 .d6 .nil))))))
 (.seq (.reg (.u (iMove (odF .d0 .d3)) fun v30 => (.u (iBin Tryz.prog .rem (nat_lit 3) (odF .d0 .d6) (odV (.i (.ofNat (nat_lit 65536))))) fun v32 => (.u (iBuildSlice [(.i (.ofNat (nat_lit 0)))] (nat_lit 1) (nat_lit 1) [((nat_lit 0), (nat_lit 1), (odV v32))]) fun v33 => (.u (iAppend (nat_lit 1) (nat_lit 8) (odV v30) (odV v33)) fun v34 => (.g (iMove (odV v34)) .d0 .d3 .nil))))))
 (.reg (.u (iBin Tryz.prog .quo (nat_lit 3) (odF .d0 .d6) (odV (.i (.ofNat (nat_lit 65536))))) fun v36 => (.g (iMove (odV v36)) .d0 .d4 .nil))))))
 (.reg (.u (iMove (odF .d0 .d5)) fun v19 => (.u (iInt Tryz.prog addF .add (nat_lit 3) (odV v19) (odV (.i (.ofNat (nat_lit 1))))) fun v20 => (.g (iMove (odV v20)) .d0 .d5 .nil)))))))))
 (.seq (.reg (.u (iBuildSlice [(.i (.ofNat (nat_lit 0)))] (nat_lit 1) (nat_lit 1) [((nat_lit 0), (nat_lit 1), (odF .d0 .d4))]) fun v39 => (.u (iAppend (nat_lit 1) (nat_lit 8) (odF .d0 .d3) (odV v39)) fun v40 => (.u (iCall (nat_lit 161) [(odV v40)]) fun v41 => (.g (iMove (odV v41)) .d0 .d2 .nil)))))
 .ret))))), [(.d0, .d0), (.d0, .d1)], [.t (odF .d0 .d2)]⟩
def c154 : CFn := ⟨(.seq (.reg (.g (iMove (odV (.sc (.slice none (nat_lit 0) (nat_lit 0))))) .d0 .d2 .nil))
 (.seq (.reg (.u (iLenL (odF .d0 .d0)) fun v13 => (.u (iLenL (odF .d0 .d1)) fun v15 => (.u (iInt Tryz.prog addF .add (nat_lit 3) (odV v13) (odV v15)) fun v16 => (.u (iInt Tryz.prog addF .add (nat_lit 3) (odV v16) (odV (.i (.ofNat (nat_lit 1))))) fun v17 => (.u (iMake (nat_lit 1) (nat_lit 8) [(.i (.ofNat (nat_lit 0)))] (odV v17) (odV v17)) fun v18 => (.g (iMove (odV v18)) .d0 .d3 .nil)))))))
 (.seq (.seq (.reg (.g (iMove (odV (.i (.ofNat (nat_lit 0))))) .d0 .d4 .nil))
 (.block (nat_lit 0) (.loop (.seq (.seq (.reg (.u (iLenL (odF .d0 .d0)) fun v21 => (.g (iCmp Tryz.prog ltF .lss (nat_lit 3) (odF .d0 .d4) (odV v21)) .d1 .d2 .nil)))
 (.cond (odF .d1 .d2) .skip
 (.exit (nat_lit 0))))
 (.seq (.block (nat_lit 1) (.seq (.reg (.g (iMove (odV (.i (.ofNat (nat_lit 0))))) .d0 .d5 .nil))
 (.seq (.seq (.reg (.g (iMove (odV (.i (.ofNat (nat_lit 0))))) .d0 .d6 .nil))
 (.block (nat_lit 2) (.loop (.seq (.seq (.reg (.u (iLenL (odF .d0 .d1)) fun v27 => (.g (iCmp Tryz.prog ltF .lss (nat_lit 3) (odF .d0 .d6) (odV v27)) .d1 .d3 .nil)))
 (.cond (odF .d1 .d3) .skip
 (.exit (nat_lit 2))))
 (.seq (.block (nat_lit 3) (.seq (.reg (.u (iRd (iMove (odF .d0 .d3))) fun v0 => (.u (iRd (iMove (odF .d0 .d4))) fun v1 => (.u (iRd (iMove (odF .d0 .d6))) fun v2 => (.u (iRd (iInt Tryz.prog addF .add (nat_lit 3) (odV v1) (odV v2))) fun v3 => (.u (iRd (iIdx (nat_lit 1) (odV v0) (odV v3))) fun v4 => (.u (iRd (iLoad1 (odV v4))) fun v5 => (.u (iRd (iMove (odF .d0 .d0))) fun v6 => (.u (iRd (iMove (odF .d0 .d4))) fun v7 => (.u (iRd (iIdx (nat_lit 1) (odV v6) (odV v7))) fun v8 => (.u (iRd (iLoad1 (odV v8))) fun v9 => (.u (iRd (iMove (odF .d0 .d1))) fun v10 => (.u (iRd (iMove (odF .d0 .d6))) fun v11 => (.u (iRd (iIdx (nat_lit 1) (odV v10) (odV v11))) fun v12 => (.u (iRd (iLoad1 (odV v12))) fun v13 => (.u (iRd (iInt Tryz.prog mulF .mul (nat_lit 3) (odV v9) (odV v13))) fun v14 => (.u (iRd (iInt Tryz.prog addF .add (nat_lit 3) (odV v5) (odV v14))) fun v15 => (.u (iRd (iMove (odF .d0 .d5))) fun v16 => (.u (iRd (iInt Tryz.prog addF .add (nat_lit 3) (odV v15) (odV v16))) fun v17 => (.u (iRd (iMove (odV v17))) fun v18 => (.g (iMove (odV v18)) .d0 .d7 .nil)))))))))))))))))))))
 (.seq (.reg (.u (iInt Tryz.prog addF .add (nat_lit 3) (odF .d0 .d4) (odF .d0 .d6)) fun v52 => (.u (iBin Tryz.prog .rem (nat_lit 3) (odF .d0 .d7) (odV (.i (.ofNat (nat_lit 65536))))) fun v54 => (.u (iIdx (nat_lit 1) (odF .d0 .d3) (odV v52)) fun v55 => (.x (iStore (nat_lit 1) (odV v55) (odV v54)) .nil)))))
 (.reg (.u (iBin Tryz.prog .quo (nat_lit 3) (odF .d0 .d7) (odV (.i (.ofNat (nat_lit 65536))))) fun v57 => (.g (iMove (odV v57)) .d0 .d5 .nil))))))
 (.reg (.u (iMove (odF .d0 .d6)) fun v29 => (.u (iInt Tryz.prog addF .add (nat_lit 3) (odV v29) (odV (.i (.ofNat (nat_lit 1))))) fun v30 => (.g (iMove (odV v30)) .d0 .d6 .nil)))))))))
 (.seq (.reg (.u (iLenL (odF .d0 .d1)) fun v60 => (.u (iInt Tryz.prog addF .add (nat_lit 3) (odF .d0 .d4) (odV v60)) fun v61 => (.g (iMove (odV v61)) .d1 .d0 .nil))))
 (.block (nat_lit 4) (.loop (.seq (.seq (.reg (.g (iCmp Tryz.prog gtF .gtr (nat_lit 3) (odF .d0 .d5) (odV (.i (.ofNat (nat_lit 0))))) .d1 .d4 .nil))
 (.cond (odF .d1 .d4) .skip
 (.exit (nat_lit 4))))
 (.seq (.block (nat_lit 5) (.seq (.reg (.u (iIdx (nat_lit 1) (odF .d0 .d3) (odF .d1 .d0)) fun v68 => (.u (iLoad1 (odV v68)) fun v69 => (.u (iInt Tryz.prog addF .add (nat_lit 3) (odV v69) (odF .d0 .d5)) fun v71 => (.g (iMove (odV v71)) .d1 .d1 .nil)))))
 (.seq (.reg (.u (iBin Tryz.prog .rem (nat_lit 3) (odF .d1 .d1) (odV (.i (.ofNat (nat_lit 65536))))) fun v75 => (.u (iIdx (nat_lit 1) (odF .d0 .d3) (odF .d1 .d0)) fun v76 => (.x (iStore (nat_lit 1) (odV v76) (odV v75)) .nil))))
 (.reg (.u (iBin Tryz.prog .quo (nat_lit 3) (odF .d1 .d1) (odV (.i (.ofNat (nat_lit 65536))))) fun v78 => (.g (iMove (odV v78)) .d0 .d5 .nil))))))
 (.reg (.u (iMove (odF .d1 .d0)) fun v64 => (.u (iInt Tryz.prog addF .add (nat_lit 3) (odV v64) (odV (.i (.ofNat (nat_lit 1))))) fun v65 => (.g (iMove (odV v65)) .d1 .d0 .nil))))))))))))
 (.reg (.u (iMove (odF .d0 .d4)) fun v23 => (.u (iInt Tryz.prog addF .add (nat_lit 3) (odV v23) (odV (.i (.ofNat (nat_lit 1))))) fun v24 => (.g (iMove (odV v24)) .d0 .d4 .nil)))))))))
 (.seq (.reg (.u (iCall (nat_lit 161) [(odF .d0 .d3)]) fun v80 => (.g (iMove (odV v80)) .d0 .d2 .nil)))
 .ret)))), [(.d0, .d0), (.d0, .d1)], [.t (odF .d0 .d2)]⟩
def c155 : CFn := ⟨(.seq (.reg (.g (iMove (odV (.sc (.slice none (nat_lit 0) (nat_lit 0))))) .d0 .d1 .nil))
 (.seq (.reg (.u (iMove (odF .d0 .d0)) fun v6 => (.u (iCall (nat_lit 161) [(odV v6)]) fun v7 => (.g (iMove (odV v7)) .d0 .d0 .nil))))
 (.seq (.reg (.g (iMove (odV (.sc (.slice none (nat_lit 0) (nat_lit 0))))) .d0 .d2 .nil))
 (.seq (.seq (.reg (.g (iMove (odV (.i (.ofNat (nat_lit 0))))) .d0 .d3 .nil))
 (.block (nat_lit 0) (.loop (.seq (.seq (.reg (.u (iLenL (odF .d0 .d0)) fun v10 => (.g (iCmp Tryz.prog ltF .lss (nat_lit 3) (odF .d0 .d3) (odV v10)) .d0 .d5 .nil)))
 (.cond (odF .d0 .d5) .skip
 (.exit (nat_lit 0))))
 (.seq (.block (nat_lit 1) (.seq (.reg (.u (iIdx (nat_lit 1) (odF .d0 .d0) (odF .d0 .d3)) fun v16 => (.u (iLoad1 (odV v16)) fun v17 => (.u (iPure1 Tryz.prog (Go.convert (nat_lit 3) (nat_lit 86)) (odV v17)) fun v18 => (.g (iMove (odV v18)) .d0 .d4 .nil)))))
 (.seq (.seq (.reg (.u (iInt Tryz.prog addF .add (nat_lit 3) (odF .d0 .d3) (odV (.i (.ofNat (nat_lit 1))))) fun v20 => (.u (iLenL (odF .d0 .d0)) fun v22 => (.g (iCmp Tryz.prog ltF .lss (nat_lit 3) (odV v20) (odV v22)) .d0 .d6 .nil))))
 (.cond (odF .d0 .d6) (.reg (.u (iMove (odF .d0 .d4)) fun v24 => (.u (iInt Tryz.prog addF .add (nat_lit 3) (odF .d0 .d3) (odV (.i (.ofNat (nat_lit 1))))) fun v27 => (.u (iIdx (nat_lit 1) (odF .d0 .d0) (odV v27)) fun v28 => (.u (iLoad1 (odV v28)) fun v29 => (.u (iPure1 Tryz.prog (Go.convert (nat_lit 3) (nat_lit 86)) (odV v29)) fun v30 => (.u (iInt Tryz.prog mulF .mul (nat_lit 86) (odV v30) (odV (.k .u32 (.ofNat (nat_lit 65536))))) fun v31 => (.u (iInt Tryz.prog addF .add (nat_lit 86) (odV v24) (odV v31)) fun v32 => (.g (iMove (odV v32)) .d0 .d4 .nil)))))))))
 .skip))
 (.reg (.u (iMove (odF .d0 .d2)) fun v33 => (.u (iBuildSlice [(.k .u32 (.ofNat (nat_lit 0)))] (nat_lit 1) (nat_lit 1) [((nat_lit 0), (nat_lit 1), (odF .d0 .d4))]) fun v35 => (.u (iAppend (nat_lit 1) (nat_lit 4) (odV v33) (odV v35)) fun v36 => (.g (iMove (odV v36)) .d0 .d2 .nil))))))))
 (.reg (.u (iMove (odF .d0 .d3)) fun v12 => (.u (iInt Tryz.prog addF .add (nat_lit 3) (odV v12) (odV (.i (.ofNat (nat_lit 2))))) fun v13 => (.g (iMove (odV v13)) .d0 .d3 .nil)))))))))
 (.seq (.reg (.g (iMove (odF .d0 .d2)) .d0 .d1 .nil))
 .ret))))), [(.d0, .d0)], [.t (odF .d0 .d1)]⟩
def c156 : CFn := ⟨(.seq (.reg (.g (iMove (odV (.sc (.slice none (nat_lit 0) (nat_lit 0))))) .d0 .d1 .nil))
 (.seq (.reg (.g (iMove (odV (.sc (.slice none (nat_lit 0) (nat_lit 0))))) .d0 .d2 .nil))
 (.seq (.seq (.reg (.g (iMove (odV (.i (.ofNat (nat_lit 0))))) .d0 .d3 .nil))
 (.block (nat_lit 0) (.loop (.seq (.seq (.reg (.u (iLenL (odF .d0 .d0)) fun v7 => (.g (iCmp Tryz.prog ltF .lss (nat_lit 3) (odF .d0 .d3) (odV v7)) .d0 .d4 .nil)))
 (.cond (odF .d0 .d4) .skip
 (.exit (nat_lit 0))))
 (.seq (.block (nat_lit 1) (.reg (.u (iMove (odF .d0 .d2)) fun v11 => (.u (iIdx (nat_lit 1) (odF .d0 .d0) (odF .d0 .d3)) fun v14 => (.u (iLoad1 (odV v14)) fun v15 => (.u (iCall (nat_lit 162) [(odV v15)]) fun v16 => (.u (iCall (nat_lit 153) [(odV v11), (odV v16)]) fun v17 => (.g (iMove (odV v17)) .d0 .d2 .nil))))))))
 (.reg (.u (iMove (odF .d0 .d3)) fun v9 => (.u (iInt Tryz.prog addF .add (nat_lit 3) (odV v9) (odV (.i (.ofNat (nat_lit 1))))) fun v10 => (.g (iMove (odV v10)) .d0 .d3 .nil)))))))))
 (.seq (.reg (.u (iCall (nat_lit 155) [(odF .d0 .d2)]) fun v19 => (.g (iMove (odV v19)) .d0 .d1 .nil)))
 .ret)))), [(.d0, .d0)], [.t (odF .d0 .d1)]⟩
def c157 : CFn := ⟨(.seq (.reg (.g (iBox (odF .d0 .d0)) .d0 .d3 (.g (iBox (odF .d0 .d1)) .d0 .d4 (.g (iBox (odF .d0 .d2)) .d0 .d5 (.g (iMove (odV (.sc (.slice none (nat_lit 0) (nat_lit 0))))) .d0 .d6 (.g (iMove (odV (.b false))) .d0 .d7 .nil))))))
 (.seq (.seq (.reg (.u (iFieldAddr (nat_lit 0) (odF .d0 .d4)) fun v8 => (.g (iLoad1 (odV v8)) .d1 .d0 .nil)))
 (.block (nat_lit 0) (.seq (.reg (.u (iEq Tryz.prog false (nat_lit 3) (odF .d1 .d0) (odV (.i (.ofNat (nat_lit 5))))) fun v11 => (.g (iMove (odV v11)) .d1 .d1 .nil)))
 (.cond (odF .d1 .d1) (.seq (.seq (.reg (.u (iFieldAddr (nat_lit 2) (odF .d0 .d3)) fun v12 => (.u (iLoad1 (odV v12)) fun v13 => (.u (iLoadN (nat_lit 7) (odF .d0 .d4)) fun v14 => (.g (iCallV Tryz.prog (odV v13) [(odV v14)]) .d1 .d2 .nil)))))
 (.cond (odF .d1 .d2) (.seq (.reg (.u (iFieldAddr (nat_lit 0) (odF .d0 .d5)) fun v16 => (.u (iLoad1 (odV v16)) fun v17 => (.u (iEq Tryz.prog false (nat_lit 3) (odV v17) (odV (.i (.ofNat (nat_lit 5))))) fun v18 => (.cu (odV v18) true (iFieldAddr (nat_lit 3) (odF .d0 .d3)) fun v20 => (.cu (odV v18) true (iLoad1 (odV v20)) fun v21 => (.cu (odV v18) true (iLoadN (nat_lit 7) (odF .d0 .d4)) fun v22 => (.cu (odV v18) true (iLoadN (nat_lit 7) (odF .d0 .d5)) fun v23 => (.cu (odV v18) true (iCallV Tryz.prog (odV v21) [(odV v22), (odV v23)]) fun v24 => (.u (iPick (odV v18) (odV v24) (odV (.b false))) fun v25 => (.g (iMove (odV (.sc (.slice none (nat_lit 0) (nat_lit 0))))) .d0 .d6 (.g (iMove (odV v25)) .d0 .d7 .nil))))))))))))
 .ret)
 .skip))
 (.seq (.seq (.reg (.u (iFieldAddr (nat_lit 1) (odF .d0 .d3)) fun v26 => (.u (iLoad1 (odV v26)) fun v27 => (.u (iLoadN (nat_lit 7) (odF .d0 .d4)) fun v28 => (.g (iCallV Tryz.prog (odV v27) [(odV v28)]) .d1 .d3 .nil)))))
 (.cond (odF .d1 .d3) (.seq (.reg (.g (iMove (odV (.sc (.slice none (nat_lit 0) (nat_lit 0))))) .d0 .d6 (.g (iMove (odV (.b true))) .d0 .d7 .nil)))
 .ret)
 .skip))
 (.seq (.reg (.u (iFieldAddr (nat_lit 4) (odF .d0 .d4)) fun v30 => (.u (iLoad1 (odV v30)) fun v31 => (.u (iFieldAddr (nat_lit 1) (odF .d0 .d4)) fun v32 => (.u (iLoad1 (odV v32)) fun v33 => (.u (iLoadN (nat_lit 7) (odF .d0 .d5)) fun v34 => (.u (iBuild (nat_lit 11) [(.s []), (.i (.ofNat (nat_lit 0))), (.i (.ofNat (nat_lit 0))), (.i (.ofNat (nat_lit 0))), (.i (.ofNat (nat_lit 0))), (.b false), (.sc (.slice none (nat_lit 0) (nat_lit 0))), (.s []), (.sc (.slice none (nat_lit 0) (nat_lit 0))), (.sc (.slice none (nat_lit 0) (nat_lit 0))), (.sc (.slice none (nat_lit 0) (nat_lit 0)))] [((nat_lit 0), (nat_lit 1), (odV v31)), ((nat_lit 1), (nat_lit 1), (odV v33)), ((nat_lit 3), (nat_lit 7), (odV v34))]) fun v35 => (.u (iBuildSlice [(.s []), (.i (.ofNat (nat_lit 0))), (.i (.ofNat (nat_lit 0))), (.i (.ofNat (nat_lit 0))), (.i (.ofNat (nat_lit 0))), (.b false), (.sc (.slice none (nat_lit 0) (nat_lit 0))), (.s []), (.sc (.slice none (nat_lit 0) (nat_lit 0))), (.sc (.slice none (nat_lit 0) (nat_lit 0))), (.sc (.slice none (nat_lit 0) (nat_lit 0)))] (nat_lit 1) (nat_lit 11) [((nat_lit 0), (nat_lit 11), (odV v35))]) fun v36 => (.g (iMove (odV v36)) .d0 .d6 (.g (iMove (odV (.b true))) .d0 .d7 .nil))))))))))
 .ret)))
 (.seq (.seq (.reg (.u (iEq Tryz.prog false (nat_lit 3) (odF .d1 .d0) (odV (.i (.ofNat (nat_lit 6))))) fun v38 => (.g (iMove (odV v38)) .d1 .d4 .nil)))
 (.cond (odF .d1 .d4) .skip
 (.reg (.u (iEq Tryz.prog false (nat_lit 3) (odF .d1 .d0) (odV (.i (.ofNat (nat_lit 7))))) fun v39 => (.g (iMove (odV v39)) .d1 .d4 .nil)))))
 (.cond (odF .d1 .d4) (.seq (.seq (.reg (.u (iFieldAddr (nat_lit 0) (odF .d0 .d5)) fun v40 => (.u (iLoad1 (odV v40)) fun v41 => (.u (iFieldAddr (nat_lit 0) (odF .d0 .d4)) fun v42 => (.u (iLoad1 (odV v42)) fun v43 => (.g (iEq Tryz.prog true (nat_lit 3) (odV v41) (odV v43)) .d1 .d5 .nil))))))
 (.cond (odF .d1 .d5) (.seq (.reg (.g (iMove (odV (.sc (.slice none (nat_lit 0) (nat_lit 0))))) .d0 .d6 (.g (iMove (odV (.b false))) .d0 .d7 .nil)))
 .ret)
 .skip))
 (.seq (.reg (.u (iLoadN (nat_lit 5) (odF .d0 .d3)) fun v45 => (.u (iLoadN (nat_lit 7) (odF .d0 .d4)) fun v46 => (.u (iLoadN (nat_lit 7) (odF .d0 .d5)) fun v47 => (.u (iCall (nat_lit 163) [(odV v45), (odV v46), (odV v47)]) fun v48 => (.u (iExtract (nat_lit 0) (odV v48)) fun v49 => (.u (iExtract (nat_lit 1) (odV v48)) fun v50 => (.g (iMove (odV v49)) .d0 .d6 (.g (iMove (odV v50)) .d0 .d7 .nil)))))))))
 .ret))
 .skip))))))
 (.seq (.reg (.u (iLoadN (nat_lit 7) (odF .d0 .d4)) fun v51 => (.u (iLoadN (nat_lit 7) (odF .d0 .d5)) fun v52 => (.u (iCall (nat_lit 164) [(odV v51), (odV v52)]) fun v53 => (.g (iMove (odV (.sc (.slice none (nat_lit 0) (nat_lit 0))))) .d0 .d6 (.g (iMove (odV v53)) .d0 .d7 .nil))))))
 .ret))), [(.d0, .d0), (.d0, .d1), (.d0, .d2)], [.t (odF .d0 .d6), .t (odF .d0 .d7)]⟩
def c158 : CFn := ⟨(.seq (.reg (.g (iBox (odF .d0 .d1)) .d0 .d4 (.g (iNew (nat_lit 7) [(.i (.ofNat (nat_lit 0))), (.i (.ofNat (nat_lit 0))), (.b false), (.sc (.slice none (nat_lit 0) (nat_lit 0))), (.s []), (.sc (.slice none (nat_lit 0) (nat_lit 0))), (.sc (.slice none (nat_lit 0) (nat_lit 0)))]) .d0 .d5 .nil)))
 (.seq (.block (nat_lit 0) (.seq (.reg (.u (iNilCheck Tryz.prog (odF .d0 .d0)) fun v16 => (.u (iFieldAddr (nat_lit 6) (odV v16)) fun v17 => (.u (iLoad1 (odV v17)) fun v18 => (.u (iEq Tryz.prog true (nat_lit 35) (odV v18) (odV (.i (.ofNat (nat_lit 0))))) fun v19 => (.g (iMove (odV v19)) .d1 .d3 .nil))))))
 (.cond (odF .d1 .d3) (.seq (.reg (.u (iBuild (nat_lit 7) [(.i (.ofNat (nat_lit 0))), (.i (.ofNat (nat_lit 0))), (.b false), (.sc (.slice none (nat_lit 0) (nat_lit 0))), (.s []), (.sc (.slice none (nat_lit 0) (nat_lit 0))), (.sc (.slice none (nat_lit 0) (nat_lit 0)))] []) fun v20 => (.x (iStore (nat_lit 7) (odF .d0 .d5) (odV v20)) .nil)))
 .ret)
 (.seq (.reg (.u (iLoadN (nat_lit 7) (odF .d0 .d4)) fun v23 => (.u (iCall (nat_lit 165) [(odF .d0 .d0), (odV v23), (odF .d0 .d3)]) fun v25 => (.g (iMove (odV v25)) .d1 .d4 .nil))))
 (.cond (odF .d1 .d4) (.seq (.reg (.u (iCall (nat_lit 166) [(odF .d0 .d0), (odV (.i (.ofNat (nat_lit 21))))]) fun v27 => (.x (iStore (nat_lit 7) (odF .d0 .d5) (odV v27)) .nil)))
 .ret)
 (.seq (.reg (.u (iFieldAddr (nat_lit 0) (odF .d0 .d4)) fun v29 => (.u (iLoad1 (odV v29)) fun v30 => (.u (iEq Tryz.prog false (nat_lit 3) (odV v30) (odV (.i (.ofNat (nat_lit 5))))) fun v31 => (.g (iMove (odV v31)) .d1 .d5 .nil)))))
 (.cond (odF .d1 .d5) (.seq (.reg (.u (iLoadN (nat_lit 7) (odF .d0 .d4)) fun v33 => (.u (iCall (nat_lit 167) [(odF .d0 .d0), (odV v33), (odF .d0 .d2)]) fun v35 => (.x (iStore (nat_lit 7) (odF .d0 .d5) (odV v35)) .nil))))
 .ret)
 (.seq (.reg (.u (iFieldAddr (nat_lit 0) (odF .d0 .d4)) fun v37 => (.u (iLoad1 (odV v37)) fun v38 => (.u (iEq Tryz.prog false (nat_lit 3) (odV v38) (odV (.i (.ofNat (nat_lit 6))))) fun v39 => (.cu (odV v39) true (iFieldAddr (nat_lit 5) (odF .d0 .d4)) fun v41 => (.cu (odV v39) true (iLoad1 (odV v41)) fun v42 => (.cu (odV v39) true (iLenL (odV v42)) fun v43 => (.cu (odV v39) true (iEq Tryz.prog false (nat_lit 3) (odV v43) (odV (.i (.ofNat (nat_lit 2))))) fun v44 => (.u (iPick (odV v39) (odV v44) (odV (.b false))) fun v45 => (.cu (odV v45) true (iFieldAddr (nat_lit 6) (odF .d0 .d4)) fun v47 => (.cu (odV v45) true (iLoad1 (odV v47)) fun v48 => (.cu (odV v45) true (iLenL (odV v48)) fun v49 => (.cu (odV v45) true (iEq Tryz.prog false (nat_lit 3) (odV v49) (odV (.i (.ofNat (nat_lit 0))))) fun v50 => (.u (iPick (odV v45) (odV v50) (odV (.b false))) fun v51 => (.cu (odV v51) true (iMove (odF .d0 .d0)) fun v53 => (.cu (odV v51) true (iFieldAddr (nat_lit 5) (odF .d0 .d4)) fun v54 => (.cu (odV v51) true (iLoad1 (odV v54)) fun v55 => (.cu (odV v51) true (iIdx (nat_lit 7) (odV v55) (odV (.i (.ofNat (nat_lit 0))))) fun v56 => (.cu (odV v51) true (iLoadN (nat_lit 7) (odV v56)) fun v57 => (.cu (odV v51) true (iMove (odF .d0 .d3)) fun v58 => (.cu (odV v51) true (iCall (nat_lit 165) [(odV v53), (odV v57), (odV v58)]) fun v59 => (.u (iPick (odV v51) (odV v59) (odV (.b false))) fun v60 => (.g (iMove (odV v60)) .d1 .d6 .nil)))))))))))))))))))))))
 (.cond (odF .d1 .d6) (.seq (.reg (.u (iFieldAddr (nat_lit 5) (odF .d0 .d4)) fun v62 => (.u (iLoad1 (odV v62)) fun v63 => (.u (iIdx (nat_lit 7) (odV v63) (odV (.i (.ofNat (nat_lit 1))))) fun v64 => (.u (iLoadN (nat_lit 7) (odV v64)) fun v65 => (.u (iCall (nat_lit 158) [(odF .d0 .d0), (odV v65), (odF .d0 .d2), (odV (.b true))]) fun v67 => (.x (iStore (nat_lit 7) (odF .d0 .d5) (odV v67)) .nil)))))))
 .ret)
 (.seq (.reg (.u (iFieldAddr (nat_lit 0) (odF .d0 .d4)) fun v69 => (.u (iLoad1 (odV v69)) fun v70 => (.u (iEq Tryz.prog true (nat_lit 3) (odV v70) (odV (.i (.ofNat (nat_lit 6))))) fun v71 => (.cu (odV v71) true (iFieldAddr (nat_lit 0) (odF .d0 .d4)) fun v73 => (.cu (odV v71) true (iLoad1 (odV v73)) fun v74 => (.cu (odV v71) true (iEq Tryz.prog true (nat_lit 3) (odV v74) (odV (.i (.ofNat (nat_lit 7))))) fun v75 => (.u (iPick (odV v71) (odV v75) (odV (.b false))) fun v76 => (.g (iMove (odV v76)) .d1 .d7 .nil)))))))))
 (.cond (odF .d1 .d7) (.seq (.reg (.u (iLoadN (nat_lit 7) (odF .d0 .d4)) fun v78 => (.u (iCall (nat_lit 168) [(odF .d0 .d0), (odV v78)]) fun v79 => .nil)))
 (.seq (.reg (.u (iLoadN (nat_lit 7) (odF .d0 .d4)) fun v80 => (.x (iStore (nat_lit 7) (odF .d0 .d5) (odV v80)) .nil)))
 .ret))
 .skip)))))))))))
 (.seq (.reg (.u (iBuild (nat_lit 7) [(.i (.ofNat (nat_lit 0))), (.i (.ofNat (nat_lit 0))), (.b false), (.sc (.slice none (nat_lit 0) (nat_lit 0))), (.s []), (.sc (.slice none (nat_lit 0) (nat_lit 0))), (.sc (.slice none (nat_lit 0) (nat_lit 0)))] []) fun v82 => (.u (iCall (nat_lit 168) [(odF .d0 .d0), (odV v82)]) fun v83 => .nil)))
 (.seq (.reg (.u (iFieldAddr (nat_lit 0) (odF .d0 .d4)) fun v84 => (.u (iLoad1 (odV v84)) fun v85 => (.u (iBuild (nat_lit 7) [(.i (.ofNat (nat_lit 0))), (.i (.ofNat (nat_lit 0))), (.b false), (.sc (.slice none (nat_lit 0) (nat_lit 0))), (.s []), (.sc (.slice none (nat_lit 0) (nat_lit 0))), (.sc (.slice none (nat_lit 0) (nat_lit 0)))] [((nat_lit 0), (nat_lit 1), (odV v85))]) fun v86 => (.g (iNew (nat_lit 7) [(.i (.ofNat (nat_lit 0))), (.i (.ofNat (nat_lit 0))), (.b false), (.sc (.slice none (nat_lit 0) (nat_lit 0))), (.s []), (.sc (.slice none (nat_lit 0) (nat_lit 0))), (.sc (.slice none (nat_lit 0) (nat_lit 0)))]) .d0 .d6 (.x (iStore (nat_lit 7) (odF .d0 .d6) (odV v86)) .nil))))))
 (.seq (.seq (.reg (.g (iMove (odV (.i (.ofNat (nat_lit 0))))) .d0 .d7 .nil))
 (.block (nat_lit 1) (.loop (.seq (.seq (.reg (.u (iFieldAddr (nat_lit 5) (odF .d0 .d4)) fun v88 => (.u (iLoad1 (odV v88)) fun v89 => (.u (iLenL (odV v89)) fun v90 => (.u (iCmp Tryz.prog ltF .lss (nat_lit 3) (odF .d0 .d7) (odV v90)) fun v91 => (.cu (odV v91) true (iMove (odF .d0 .d0)) fun v93 => (.cu (odV v91) true (iNilCheck Tryz.prog (odV v93)) fun v94 => (.cu (odV v91) true (iFieldAddr (nat_lit 6) (odV v94)) fun v95 => (.cu (odV v91) true (iLoad1 (odV v95)) fun v96 => (.cu (odV v91) true (iEq Tryz.prog false (nat_lit 35) (odV v96) (odV (.i (.ofNat (nat_lit 0))))) fun v97 => (.g (iPick (odV v91) (odV v97) (odV (.b false))) .d2 .d0 .nil)))))))))))
 (.cond (odF .d2 .d0) .skip
 (.exit (nat_lit 1))))
 (.block (nat_lit 2) (.seq (.reg (.g (iMove (odV (.i (.ofNat (nat_lit 0))))) .d1 .d0 .nil))
 (.seq (.block (nat_lit 3) (.loop (.seq (.seq (.reg (.u (iInt Tryz.prog addF .add (nat_lit 3) (odF .d0 .d7) (odV (.i (.ofNat (nat_lit 1))))) fun v100 => (.u (iInt Tryz.prog addF .add (nat_lit 3) (odV v100) (odF .d1 .d0)) fun v102 => (.u (iFieldAddr (nat_lit 5) (odF .d0 .d4)) fun v103 => (.u (iLoad1 (odV v103)) fun v104 => (.u (iLenL (odV v104)) fun v105 => (.u (iCmp Tryz.prog ltF .lss (nat_lit 3) (odV v102) (odV v105)) fun v106 => (.cu (odV v106) true (iMove (odF .d0 .d0)) fun v108 => (.cu (odV v106) true (iFieldAddr (nat_lit 5) (odF .d0 .d4)) fun v109 => (.cu (odV v106) true (iLoad1 (odV v109)) fun v110 => (.cu (odV v106) true (iMove (odF .d0 .d7)) fun v111 => (.cu (odV v106) true (iInt Tryz.prog addF .add (nat_lit 3) (odV v111) (odV (.i (.ofNat (nat_lit 1))))) fun v112 => (.cu (odV v106) true (iMove (odF .d1 .d0)) fun v113 => (.cu (odV v106) true (iInt Tryz.prog addF .add (nat_lit 3) (odV v112) (odV v113)) fun v114 => (.cu (odV v106) true (iIdx (nat_lit 7) (odV v110) (odV v114)) fun v115 => (.cu (odV v106) true (iLoadN (nat_lit 7) (odV v115)) fun v116 => (.cu (odV v106) true (iMove (odF .d0 .d3)) fun v117 => (.cu (odV v106) true (iCall (nat_lit 165) [(odV v108), (odV v116), (odV v117)]) fun v118 => (.g (iPick (odV v106) (odV v118) (odV (.b false))) .d2 .d1 .nil)))))))))))))))))))
 (.cond (odF .d2 .d1) .skip
 (.exit (nat_lit 3))))
 (.block (nat_lit 4) (.reg (.u (iMove (odF .d1 .d0)) fun v120 => (.u (iInt Tryz.prog addF .add (nat_lit 3) (odV v120) (odV (.i (.ofNat (nat_lit 1))))) fun v121 => (.g (iMove (odV v121)) .d1 .d0 .nil))))))))
 (.seq (.seq (.reg (.g (iEq Tryz.prog false (nat_lit 3) (odF .d1 .d0) (odV (.i (.ofNat (nat_lit 0))))) .d2 .d2 .nil))
 (.cond (odF .d2 .d2) (.reg (.u (iRd (iFieldAddr (nat_lit 5) (odF .d0 .d6))) fun v0 => (.u (iRd (iLoad1 (odV v0))) fun v1 => (.u (iRd (iMove (odF .d0 .d0))) fun v2 => (.u (iRd (iFieldAddr (nat_lit 5) (odF .d0 .d4))) fun v3 => (.u (iRd (iLoad1 (odV v3))) fun v4 => (.u (iRd (iMove (odF .d0 .d7))) fun v5 => (.u (iRd (iIdx (nat_lit 7) (odV v4) (odV v5))) fun v6 => (.u (iRd (iLoadN (nat_lit 7) (odV v6))) fun v7 => (.u (iRd (iMove (odF .d0 .d2))) fun v8 => (.u (iRd (iMove (odF .d0 .d3))) fun v9 => (.u (iEf (iCall (nat_lit 158) [(odV v2), (odV v7), (odV v8), (odV v9)])) fun v10 => (.x (iChk (iLoad1 (odV v0)) v1) (.x (iChk (iFieldAddr (nat_lit 5) (odF .d0 .d6)) v0) (.u (iRs (alSl [(.i (.ofNat (nat_lit 0))), (.i (.ofNat (nat_lit 0))), (.b false), (.sc (.slice none (nat_lit 0) (nat_lit 0))), (.s []), (.sc (.slice none (nat_lit 0) (nat_lit 0))), (.sc (.slice none (nat_lit 0) (nat_lit 0)))] (nat_lit 1) (nat_lit 7) [((nat_lit 0), (nat_lit 7), (odV v10))])) fun v11 => (.x (iChk (iLoad1 (odV v0)) v1) (.x (iChk (iFieldAddr (nat_lit 5) (odF .d0 .d6)) v0) (.x (iMt (alSl [(.i (.ofNat (nat_lit 0))), (.i (.ofNat (nat_lit 0))), (.b false), (.sc (.slice none (nat_lit 0) (nat_lit 0))), (.s []), (.sc (.slice none (nat_lit 0) (nat_lit 0))), (.sc (.slice none (nat_lit 0) (nat_lit 0)))] (nat_lit 1) (nat_lit 7) [((nat_lit 0), (nat_lit 7), (odV v10))]) v11) (.u (iEf (iAppend (nat_lit 7) (nat_lit 112) (odV v1) (odV v11))) fun v12 => (.u (iRd (iFieldAddr (nat_lit 5) (odF .d0 .d6))) fun v13 => (.u (iEf (iStore (nat_lit 1) (odV v13) (odV v12))) fun v14 => .nil)))))))))))))))))))))
 (.seq (.reg (.u (iFieldAddr (nat_lit 5) (odF .d0 .d4)) fun v139 => (.u (iLoad1 (odV v139)) fun v140 => (.u (iIdx (nat_lit 7) (odV v140) (odF .d0 .d7)) fun v142 => (.u (iLoadN (nat_lit 7) (odV v142)) fun v143 => (.g (iCall (nat_lit 165) [(odF .d0 .d0), (odV v143), (odF .d0 .d3)]) .d2 .d3 .nil))))))
 (.cond (odF .d2 .d3) (.seq (.reg (.u (iCall (nat_lit 166) [(odF .d0 .d0), (odV (.i (.ofNat (nat_lit 21))))]) fun v147 => (.x (iStore (nat_lit 7) (odF .d0 .d5) (odV v147)) .nil)))
 .ret)
 (.reg (.u (iRd (iFieldAddr (nat_lit 5) (odF .d0 .d6))) fun v0 => (.u (iRd (iLoad1 (odV v0))) fun v1 => (.u (iRd (iMove (odF .d0 .d0))) fun v2 => (.u (iRd (iFieldAddr (nat_lit 5) (odF .d0 .d4))) fun v3 => (.u (iRd (iLoad1 (odV v3))) fun v4 => (.u (iRd (iMove (odF .d0 .d7))) fun v5 => (.u (iRd (iIdx (nat_lit 7) (odV v4) (odV v5))) fun v6 => (.u (iRd (iLoadN (nat_lit 7) (odV v6))) fun v7 => (.u (iRd (iMove (odF .d0 .d2))) fun v8 => (.u (iRd (iMove (odF .d1 .d0))) fun v9 => (.u (iRd (iMove (odF .d0 .d3))) fun v10 => (.u (iEf (iCall (nat_lit 169) [(odV v2), (odV v7), (odV v8), (odV v9), (odV v10)])) fun v11 => (.x (iChk (iLoad1 (odV v0)) v1) (.x (iChk (iFieldAddr (nat_lit 5) (odF .d0 .d6)) v0) (.u (iEf (iAppend (nat_lit 7) (nat_lit 112) (odV v1) (odV v11))) fun v12 => (.u (iRd (iFieldAddr (nat_lit 5) (odF .d0 .d6))) fun v13 => (.u (iEf (iStore (nat_lit 1) (odV v13) (odV v12))) fun v14 => .nil))))))))))))))))))))))
 (.reg (.u (iMove (odF .d0 .d7)) fun v162 => (.u (iInt Tryz.prog addF .add (nat_lit 3) (odV (.i (.ofNat (nat_lit 1)))) (odF .d1 .d0)) fun v164 => (.u (iInt Tryz.prog addF .add (nat_lit 3) (odV v162) (odV v164)) fun v165 => (.g (iMove (odV v165)) .d0 .d7 .nil)))))))))))))
 (.seq (.reg (.u (iLoadN (nat_lit 7) (odF .d0 .d4)) fun v167 => (.u (iCall (nat_lit 125) [(odV v167)]) fun v168 => (.u (iExtract (nat_lit 0) (odV v168)) fun v169 => (.u (iExtract (nat_lit 1) (odV v168)) fun v170 => (.g (iNew (nat_lit 7) [(.i (.ofNat (nat_lit 0))), (.i (.ofNat (nat_lit 0))), (.b false), (.sc (.slice none (nat_lit 0) (nat_lit 0))), (.s []), (.sc (.slice none (nat_lit 0) (nat_lit 0))), (.sc (.slice none (nat_lit 0) (nat_lit 0)))]) .d1 .d1 (.x (iStore (nat_lit 7) (odF .d1 .d1) (odV v169)) (.g (iMove (odV v170)) .d1 .d2 .nil))))))))
 (.seq (.seq (.reg (.g (iNot (odF .d1 .d2)) .d2 .d4 .nil))
 (.cond (odF .d2 .d4) (.seq (.reg (.u (iLoadN (nat_lit 7) (odF .d0 .d6)) fun v173 => (.x (iStore (nat_lit 7) (odF .d0 .d5) (odV v173)) .nil)))
 .ret)
 .skip))
 (.seq (.reg (.u (iRd (iMove (odF .d0 .d0))) fun v0 => (.u (iRd (iLoadN (nat_lit 7) (odF .d0 .d6))) fun v1 => (.u (iRd (iMove (odF .d0 .d0))) fun v2 => (.u (iRd (iLoadN (nat_lit 7) (odF .d1 .d1))) fun v3 => (.u (iRd (iMove (odF .d0 .d2))) fun v4 => (.u (iRd (iMove (odF .d0 .d3))) fun v5 => (.u (iEf (iCall (nat_lit 158) [(odV v2), (odV v3), (odV v4), (odV v5)])) fun v6 => (.x (iChk (iLoadN (nat_lit 7) (odF .d0 .d6)) v1) (.x (iChk (iMove (odF .d0 .d0)) v0) (.u (iEf (iCall (nat_lit 170) [(odV v0), (odV v1), (odV v6)])) fun v7 => (.u (iEf (iStore (nat_lit 7) (odF .d0 .d5) (odV v7))) fun v8 => .nil))))))))))))
 .ret)))))))), [(.d0, .d0), (.d0, .d1), (.d0, .d2), (.d0, .d3)], [.cN (nat_lit 7) (odF .d0 .d5)]⟩
def c159 : CFn := ⟨(.seq (.reg (.g (iMove (odV (.i (.ofNat (nat_lit 0))))) .d0 .d2 .nil))
 (.seq (.seq (.reg (.g (iLenL (odF .d0 .d0)) .d0 .d4 (.g (iMove (odV (.i (.ofNat (nat_lit 0))))) .d0 .d5 .nil)))
 (.block (nat_lit 0) (.loop (.seq (.reg (.g (iCmp Tryz.prog ltF .lss (nat_lit 3) (odF .d0 .d5) (odF .d0 .d4)) .d0 .d6 .nil))
 (.seq (.cond (odF .d0 .d6) .skip
 (.exit (nat_lit 0)))
 (.seq (.block (nat_lit 1) (.seq (.reg (.g (iMove (odF .d0 .d5)) .d0 .d3 .nil))
 (.seq (.reg (.u (iIdx (nat_lit 11) (odF .d0 .d0) (odF .d0 .d3)) fun v14 => (.u (iLoadN (nat_lit 11) (odV v14)) fun v15 => (.g (iCallV Tryz.prog (odF .d0 .d1) [(odV v15)]) .d0 .d7 .nil))))
 (.cond (odF .d0 .d7) (.seq (.reg (.g (iMove (odF .d0 .d3)) .d0 .d2 .nil))
 .ret)
 .skip))))
 (.reg (.u (iInt Tryz.prog addF .add (nat_lit 3) (odF .d0 .d5) (odV (.i (.ofNat (nat_lit 1))))) fun v18 => (.g (iMove (odV v18)) .d0 .d5 .nil)))))))))
 (.seq (.reg (.g (iMove (odV (.i (.negSucc (nat_lit 0))))) .d0 .d2 .nil))
 .ret))), [(.d0, .d0), (.d0, .d1)], [.t (odF .d0 .d2)]⟩
def c160 : CFn := ⟨(.seq (.reg (.g (iMove (odV (.i (.ofNat (nat_lit 0))))) .d0 .d2 .nil))
 (.seq (.seq (.reg (.u (iLenL (odF .d0 .d0)) fun v7 => (.g (iCmp Tryz.prog ltF .lss (nat_lit 3) (odF .d0 .d1) (odV v7)) .d0 .d3 .nil)))
 (.cond (odF .d0 .d3) (.seq (.reg (.u (iIdx (nat_lit 1) (odF .d0 .d0) (odF .d0 .d1)) fun v11 => (.u (iLoad1 (odV v11)) fun v12 => (.g (iMove (odV v12)) .d0 .d2 .nil))))
 .ret)
 .skip))
 (.seq (.reg (.g (iMove (odV (.i (.ofNat (nat_lit 0))))) .d0 .d2 .nil))
 .ret))), [(.d0, .d0), (.d0, .d1)], [.t (odF .d0 .d2)]⟩
def c161 : CFn := ⟨(.seq (.reg (.g (iMove (odV (.sc (.slice none (nat_lit 0) (nat_lit 0))))) .d0 .d1 .nil))
 (.seq (.reg (.u (iLenL (odF .d0 .d0)) fun v5 => (.g (iMove (odV v5)) .d0 .d2 .nil)))
 (.seq (.block (nat_lit 0) (.loop (.seq (.seq (.reg (.u (iCmp Tryz.prog gtF .gtr (nat_lit 3) (odF .d0 .d2) (odV (.i (.ofNat (nat_lit 0))))) fun v7 => (.cu (odV v7) true (iMove (odF .d0 .d0)) fun v9 => (.cu (odV v7) true (iMove (odF .d0 .d2)) fun v10 => (.cu (odV v7) true (iInt Tryz.prog subF .sub (nat_lit 3) (odV v10) (odV (.i (.ofNat (nat_lit 1))))) fun v11 => (.cu (odV v7) true (iIdx (nat_lit 1) (odV v9) (odV v11)) fun v12 => (.cu (odV v7) true (iLoad1 (odV v12)) fun v13 => (.cu (odV v7) true (iEq Tryz.prog false (nat_lit 3) (odV v13) (odV (.i (.ofNat (nat_lit 0))))) fun v14 => (.g (iPick (odV v7) (odV v14) (odV (.b false))) .d0 .d3 .nil)))))))))
 (.cond (odF .d0 .d3) .skip
 (.exit (nat_lit 0))))
 (.block (nat_lit 1) (.reg (.u (iMove (odF .d0 .d2)) fun v16 => (.u (iInt Tryz.prog subF .sub (nat_lit 3) (odV v16) (odV (.i (.ofNat (nat_lit 1))))) fun v17 => (.g (iMove (odV v17)) .d0 .d2 .nil))))))))
 (.seq (.reg (.u (iSlice (nat_lit 1) (odF .d0 .d0) none (some (odF .d0 .d2))) fun v20 => (.u (iAppend (nat_lit 1) (nat_lit 8) (odV (.sc (.slice none (nat_lit 0) (nat_lit 0)))) (odV v20)) fun v21 => (.g (iMove (odV v21)) .d0 .d1 .nil))))
 .ret)))), [(.d0, .d0)], [.t (odF .d0 .d1)]⟩
def c162 : CFn := ⟨(.seq (.reg (.g (iMove (odV (.sc (.slice none (nat_lit 0) (nat_lit 0))))) .d0 .d1 .nil))
 (.seq (.reg (.g (iMove (odV (.sc (.slice none (nat_lit 0) (nat_lit 0))))) .d0 .d2 .nil))
 (.seq (.seq (.reg (.g (iMove (odV (.i (.ofNat (nat_lit 0))))) .d0 .d3 .nil))
 (.block (nat_lit 0) (.loop (.seq (.seq (.reg (.u (iLenL (odF .d0 .d0)) fun v7 => (.g (iCmp Tryz.prog ltF .lss (nat_lit 3) (odF .d0 .d3) (odV v7)) .d0 .d4 .nil)))
 (.cond (odF .d0 .d4) .skip
 (.exit (nat_lit 0))))
 (.seq (.block (nat_lit 1) (.reg (.u (iRd (iMove (odF .d0 .d2))) fun v0 => (.u (iRd (iMove (odF .d0 .d0))) fun v1 => (.u (iRd (iMove (odF .d0 .d3))) fun v2 => (.u (iRd (iIdx (nat_lit 1) (odV v1) (odV v2))) fun v3 => (.u (iRd (iLoad1 (odV v3))) fun v4 => (.u (iRd (iBin Tryz.prog .rem (nat_lit 86) (odV v4) (odV (.k .u32 (.ofNat (nat_lit 65536)))))) fun v5 => (.u (iRd (iPure1 Tryz.prog (Go.convert (nat_lit 86) (nat_lit 3)) (odV v5))) fun v6 => (.u (iRd (iMove (odF .d0 .d0))) fun v7 => (.u (iRd (iMove (odF .d0 .d3))) fun v8 => (.u (iRd (iIdx (nat_lit 1) (odV v7) (odV v8))) fun v9 => (.u (iRd (iLoad1 (odV v9))) fun v10 => (.u (iRd (iBin Tryz.prog .quo (nat_lit 86) (odV v10) (odV (.k .u32 (.ofNat (nat_lit 65536)))))) fun v11 => (.u (iRd (iPure1 Tryz.prog (Go.convert (nat_lit 86) (nat_lit 3)) (odV v11))) fun v12 => (.u (iRs (alSl [(.i (.ofNat (nat_lit 0))), (.i (.ofNat (nat_lit 0)))] (nat_lit 2) (nat_lit 1) [((nat_lit 0), (nat_lit 1), (odV v6)), ((nat_lit 1), (nat_lit 1), (odV v12))])) fun v13 => (.x (iChk (iPure1 Tryz.prog (Go.convert (nat_lit 86) (nat_lit 3)) (odV v11)) v12) (.x (iChk (iBin Tryz.prog .quo (nat_lit 86) (odV v10) (odV (.k .u32 (.ofNat (nat_lit 65536))))) v11) (.x (iChk (iLoad1 (odV v9)) v10) (.x (iChk (iIdx (nat_lit 1) (odV v7) (odV v8)) v9) (.x (iChk (iMove (odF .d0 .d3)) v8) (.x (iChk (iMove (odF .d0 .d0)) v7) (.x (iChk (iPure1 Tryz.prog (Go.convert (nat_lit 86) (nat_lit 3)) (odV v5)) v6) (.x (iChk (iBin Tryz.prog .rem (nat_lit 86) (odV v4) (odV (.k .u32 (.ofNat (nat_lit 65536))))) v5) (.x (iChk (iLoad1 (odV v3)) v4) (.x (iChk (iIdx (nat_lit 1) (odV v1) (odV v2)) v3) (.x (iChk (iMove (odF .d0 .d3)) v2) (.x (iChk (iMove (odF .d0 .d0)) v1) (.x (iChk (iMove (odF .d0 .d2)) v0) (.x (iMt (alSl [(.i (.ofNat (nat_lit 0))), (.i (.ofNat (nat_lit 0)))] (nat_lit 2) (nat_lit 1) [((nat_lit 0), (nat_lit 1), (odV v6)), ((nat_lit 1), (nat_lit 1), (odV v12))]) v13) (.u (iEf (iAppend (nat_lit 1) (nat_lit 8) (odV v0) (odV v13))) fun v14 => (.u (iRd (iMove (odV v14))) fun v15 => (.g (iMove (odV v15)) .d0 .d2 .nil)))))))))))))))))))))))))))))))))
 (.reg (.u (iMove (odF .d0 .d3)) fun v9 => (.u (iInt Tryz.prog addF .add (nat_lit 3) (odV v9) (odV (.i (.ofNat (nat_lit 1))))) fun v10 => (.g (iMove (odV v10)) .d0 .d3 .nil)))))))))
 (.seq (.reg (.u (iCall (nat_lit 161) [(odF .d0 .d2)]) fun v27 => (.g (iMove (odV v27)) .d0 .d1 .nil)))
 .ret)))), [(.d0, .d0)], [.t (odF .d0 .d1)]⟩
def c163 : CFn := ⟨(.seq (.reg (.g (iBox (odF .d0 .d0)) .d0 .d3 (.g (iBox (odF .d0 .d1)) .d0 .d4 (.g (iBox (odF .d0 .d2)) .d0 .d5 (.g (iMove (odV (.sc (.slice none (nat_lit 0) (nat_lit 0))))) .d0 .d6 (.g (iMove (odV (.b false))) .d0 .d7 .nil))))))
 (.seq (.reg (.u (iFieldAddr (nat_lit 5) (odF .d0 .d4)) fun v23 => (.u (iLoad1 (odV v23)) fun v24 => (.u (iLoadN (nat_lit 5) (odF .d0 .d3)) fun v25 => (.u (iFn (.func (nat_lit 149)) [(odV v25)] []) fun v26 => (.u (iCall (nat_lit 141) [(odV v24), (odV v26)]) fun v27 => (.g (iMove (odV v27)) .d1 .d0 .nil)))))))
 (.seq (.reg (.u (iFieldAddr (nat_lit 5) (odF .d0 .d4)) fun v28 => (.u (iLoad1 (odV v28)) fun v29 => (.u (iLenL (odV v29)) fun v30 => (.g (iMove (odV v30)) .d1 .d1 (.g (iMove (odV (.i (.ofNat (nat_lit 0))))) .d1 .d2 .nil))))))
 (.seq (.seq (.reg (.g (iCmp Tryz.prog geF .geq (nat_lit 3) (odF .d1 .d0) (odV (.i (.ofNat (nat_lit 0))))) .d2 .d7 .nil))
 (.cond (odF .d2 .d7) (.seq (.reg (.u (iMove (odF .d1 .d1)) fun v33 => (.u (iInt Tryz.prog subF .sub (nat_lit 3) (odV v33) (odV (.i (.ofNat (nat_lit 2))))) fun v34 => (.g (iMove (odV v34)) .d1 .d1 .nil))))
 (.reg (.u (iFieldAddr (nat_lit 5) (odF .d0 .d5)) fun v35 => (.u (iLoad1 (odV v35)) fun v36 => (.u (iLenL (odV v36)) fun v37 => (.u (iInt Tryz.prog subF .sub (nat_lit 3) (odV v37) (odF .d1 .d1)) fun v39 => (.g (iMove (odV v39)) .d1 .d2 .nil)))))))
 .skip))
 (.seq (.reg (.u (iLoadN (nat_lit 7) (odF .d0 .d4)) fun v41 => (.u (iCall (nat_lit 125) [(odV v41)]) fun v42 => (.u (iExtract (nat_lit 0) (odV v42)) fun v43 => (.u (iExtract (nat_lit 1) (odV v42)) fun v44 => (.g (iNew (nat_lit 7) [(.i (.ofNat (nat_lit 0))), (.i (.ofNat (nat_lit 0))), (.b false), (.sc (.slice none (nat_lit 0) (nat_lit 0))), (.s []), (.sc (.slice none (nat_lit 0) (nat_lit 0))), (.sc (.slice none (nat_lit 0) (nat_lit 0)))]) .d1 .d3 (.x (iStore (nat_lit 7) (odF .d1 .d3) (odV v43)) (.g (iMove (odV v44)) .d1 .d4 .nil))))))))
 (.seq (.seq (.reg (.u (iCmp Tryz.prog ltF .lss (nat_lit 3) (odF .d1 .d2) (odV (.i (.ofNat (nat_lit 0))))) fun v46 => (.cu (odV v46) false (iFieldAddr (nat_lit 5) (odF .d0 .d5)) fun v48 => (.cu (odV v46) false (iLoad1 (odV v48)) fun v49 => (.cu (odV v46) false (iLenL (odV v49)) fun v50 => (.cu (odV v46) false (iMove (odF .d1 .d1)) fun v51 => (.cu (odV v46) false (iCmp Tryz.prog ltF .lss (nat_lit 3) (odV v50) (odV v51)) fun v52 => (.u (iPick (odV v46) (odV (.b true)) (odV v52)) fun v53 => (.cu (odV v53) false (iMove (odF .d1 .d4)) fun v55 => (.cu (odV v53) false (iNot (odV v55)) fun v56 => (.cu (odV v53) false (iMove (odV v56)) fun v57 => (.cu (odV v57) true (iMove (odF .d1 .d1)) fun v58 => (.cu (odV v57) true (iMove (odF .d1 .d2)) fun v59 => (.cu (odV v57) true (iInt Tryz.prog addF .add (nat_lit 3) (odV v58) (odV v59)) fun v60 => (.cu (odV v57) true (iFieldAddr (nat_lit 5) (odF .d0 .d5)) fun v61 => (.cu (odV v57) true (iLoad1 (odV v61)) fun v62 => (.cu (odV v57) true (iLenL (odV v62)) fun v63 => (.cu (odV v57) true (iEq Tryz.prog true (nat_lit 3) (odV v60) (odV v63)) fun v64 => (.cu (odV v57) true (iMove (odV v64)) fun v65 => (.cu (odV v65) false (iFieldAddr (nat_lit 0) (odF .d0 .d5)) fun v66 => (.cu (odV v65) false (iLoad1 (odV v66)) fun v67 => (.cu (odV v65) false (iEq Tryz.prog false (nat_lit 3) (odV v67) (odV (.i (.ofNat (nat_lit 6))))) fun v68 => (.cu (odV v65) false (iMove (odV v68)) fun v69 => (.cu (odV v69) true (iFieldAddr (nat_lit 6) (odF .d0 .d5)) fun v70 => (.cu (odV v69) true (iLoad1 (odV v70)) fun v71 => (.cu (odV v69) true (iLenL (odV v71)) fun v72 => (.cu (odV v69) true (iCmp Tryz.prog gtF .gtr (nat_lit 3) (odV v72) (odV (.i (.ofNat (nat_lit 0))))) fun v73 => (.cu (odV v65) false (iPick (odV v69) (odV v73) (odV (.b false))) fun v74 => (.cu (odV v57) true (iPick (odV v65) (odV (.b true)) (odV v74)) fun v75 => (.cu (odV v53) false (iPick (odV v57) (odV v75) (odV (.b false))) fun v76 => (.g (iPick (odV v53) (odV (.b true)) (odV v76)) .d3 .d0 .nil)))))))))))))))))))))))))))))))
 (.cond (odF .d3 .d0) (.seq (.reg (.g (iMove (odV (.sc (.slice none (nat_lit 0) (nat_lit 0))))) .d0 .d6 (.g (iMove (odV (.b false))) .d0 .d7 .nil)))
 .ret)
 .skip))
 (.seq (.reg (.g (iMove (odV (.sc (.slice none (nat_lit 0) (nat_lit 0))))) .d1 .d5 .nil))
 (.seq (.reg (.g (iMove (odV (.i (.ofNat (nat_lit 0))))) .d1 .d6 .nil))
 (.seq (.seq (.reg (.u (iFieldAddr (nat_lit 5) (odF .d0 .d4)) fun v78 => (.g (iLoad1 (odV v78)) .d3 .d1 (.g (iLenL (odF .d3 .d1)) .d3 .d2 (.g (iMove (odV (.i (.ofNat (nat_lit 0))))) .d3 .d3 .nil)))))
 (.block (nat_lit 0) (.loop (.seq (.reg (.g (iCmp Tryz.prog ltF .lss (nat_lit 3) (odF .d3 .d3) (odF .d3 .d2)) .d3 .d4 .nil))
 (.seq (.cond (odF .d3 .d4) .skip
 (.exit (nat_lit 0)))
 (.seq (.block (nat_lit 1) (.seq (.reg (.u (iIdx (nat_lit 7) (odF .d3 .d1) (odF .d3 .d3)) fun v84 => (.u (iLoadN (nat_lit 7) (odV v84)) fun v85 => (.g (iNew (nat_lit 7) [(.i (.ofNat (nat_lit 0))), (.i (.ofNat (nat_lit 0))), (.b false), (.sc (.slice none (nat_lit 0) (nat_lit 0))), (.s []), (.sc (.slice none (nat_lit 0) (nat_lit 0))), (.sc (.slice none (nat_lit 0) (nat_lit 0)))]) .d2 .d0 (.g (iMove (odF .d3 .d3)) .d1 .d7 (.x (iStore (nat_lit 7) (odF .d2 .d0) (odV v85)) .nil))))))
 (.seq (.block (nat_lit 2) (.seq (.reg (.u (iEq Tryz.prog false (nat_lit 3) (odF .d1 .d7) (odF .d1 .d0)) fun v89 => (.g (iMove (odV v89)) .d3 .d5 .nil)))
 (.cond (odF .d3 .d5) (.exit (nat_lit 1))
 (.seq (.reg (.u (iInt Tryz.prog addF .add (nat_lit 3) (odF .d1 .d7) (odV (.i (.ofNat (nat_lit 1))))) fun v92 => (.u (iEq Tryz.prog false (nat_lit 3) (odV v92) (odF .d1 .d0)) fun v94 => (.g (iMove (odV v94)) .d3 .d6 .nil))))
 (.cond (odF .d3 .d6) (.seq (.reg (.u (iRd (iLoadN (nat_lit 5) (odF .d0 .d3))) fun v0 => (.u (iRd (iLoadN (nat_lit 7) (odF .d2 .d0))) fun v1 => (.u (iRd (iFieldAddr (nat_lit 5) (odF .d0 .d5))) fun v2 => (.u (iRd (iLoad1 (odV v2))) fun v3 => (.u (iRd (iMove (odF .d1 .d6))) fun v4 => (.u (iRd (iMove (odF .d1 .d6))) fun v5 => (.u (iRd (iMove (odF .d1 .d2))) fun v6 => (.u (iRd (iInt Tryz.prog addF .add (nat_lit 3) (odV v5) (odV v6))) fun v7 => (.u (iRd (iSlice (nat_lit 7) (odV v3) (some (odV v4)) (some (odV v7)))) fun v8 => (.u (iEf (iCall (nat_lit 171) [(odV v0), (odV v1), (odV v8)])) fun v9 => (.u (iRd (iMove (odV v9))) fun v10 => (.u (iRd (iExtract (nat_lit 0) (odV v10))) fun v11 => (.u (iRd (iExtract (nat_lit 1) (odV v10))) fun v12 => (.u (iRd (iMove (odV v11))) fun v13 => (.u (iRd (iMove (odV v12))) fun v14 => (.g (iMove (odV v14)) .d2 .d2 (.g (iMove (odV v13)) .d2 .d1 .nil))))))))))))))))))
 (.seq (.seq (.reg (.g (iNot (odF .d2 .d2)) .d3 .d7 .nil))
 (.cond (odF .d3 .d7) (.seq (.reg (.g (iMove (odV (.sc (.slice none (nat_lit 0) (nat_lit 0))))) .d0 .d6 (.g (iMove (odV (.b false))) .d0 .d7 .nil)))
 .ret)
 .skip))
 (.seq (.reg (.u (iMove (odF .d1 .d5)) fun v110 => (.u (iAppend (nat_lit 11) (nat_lit 168) (odV v110) (odF .d2 .d1)) fun v112 => (.g (iMove (odV v112)) .d1 .d5 .nil))))
 (.seq (.reg (.u (iMove (odF .d1 .d6)) fun v113 => (.u (iInt Tryz.prog addF .add (nat_lit 3) (odV v113) (odF .d1 .d2)) fun v115 => (.g (iMove (odV v115)) .d1 .d6 .nil))))
 (.exit (nat_lit 1))))))
 .skip)))))
 (.seq (.reg (.u (iRd (iLoadN (nat_lit 5) (odF .d0 .d3))) fun v0 => (.u (iRd (iLoadN (nat_lit 7) (odF .d2 .d0))) fun v1 => (.u (iRd (iFieldAddr (nat_lit 5) (odF .d0 .d5))) fun v2 => (.u (iRd (iLoad1 (odV v2))) fun v3 => (.u (iRd (iMove (odF .d1 .d6))) fun v4 => (.u (iRd (iIdx (nat_lit 7) (odV v3) (odV v4))) fun v5 => (.u (iRd (iLoadN (nat_lit 7) (odV v5))) fun v6 => (.u (iEf (iCall (nat_lit 157) [(odV v0), (odV v1), (odV v6)])) fun v7 => (.u (iRd (iMove (odV v7))) fun v8 => (.u (iRd (iExtract (nat_lit 0) (odV v8))) fun v9 => (.u (iRd (iExtract (nat_lit 1) (odV v8))) fun v10 => (.u (iRd (iMove (odV v9))) fun v11 => (.u (iRd (iMove (odV v10))) fun v12 => (.g (iMove (odV v12)) .d2 .d4 (.g (iMove (odV v11)) .d2 .d3 .nil))))))))))))))))
 (.seq (.seq (.reg (.g (iNot (odF .d2 .d4)) .d4 .d0 .nil))
 (.cond (odF .d4 .d0) (.seq (.reg (.g (iMove (odV (.sc (.slice none (nat_lit 0) (nat_lit 0))))) .d0 .d6 (.g (iMove (odV (.b false))) .d0 .d7 .nil)))
 .ret)
 .skip))
 (.seq (.reg (.u (iMove (odF .d1 .d5)) fun v129 => (.u (iAppend (nat_lit 11) (nat_lit 168) (odV v129) (odF .d2 .d3)) fun v131 => (.g (iMove (odV v131)) .d1 .d5 .nil))))
 (.reg (.u (iMove (odF .d1 .d6)) fun v132 => (.u (iInt Tryz.prog addF .add (nat_lit 3) (odV v132) (odV (.i (.ofNat (nat_lit 1))))) fun v133 => (.g (iMove (odV v133)) .d1 .d6 .nil))))))))))
 (.reg (.u (iInt Tryz.prog addF .add (nat_lit 3) (odF .d3 .d3) (odV (.i (.ofNat (nat_lit 1))))) fun v134 => (.g (iMove (odV v134)) .d3 .d3 .nil)))))))))
 (.seq (.seq (.reg (.g (iNot (odF .d1 .d4)) .d4 .d1 .nil))
 (.cond (odF .d4 .d1) (.seq (.reg (.g (iMove (odF .d1 .d5)) .d0 .d6 (.g (iMove (odV (.b true))) .d0 .d7 .nil)))
 .ret)
 .skip))
 (.seq (.reg (.u (iRd (iLoadN (nat_lit 5) (odF .d0 .d3))) fun v0 => (.u (iRd (iLoadN (nat_lit 7) (odF .d1 .d3))) fun v1 => (.u (iRd (iLoadN (nat_lit 7) (odF .d0 .d5))) fun v2 => (.u (iRd (iMove (odF .d1 .d6))) fun v3 => (.u (iEf (iCall (nat_lit 172) [(odV v2), (odV v3)])) fun v4 => (.x (iChk (iLoadN (nat_lit 7) (odF .d1 .d3)) v1) (.x (iChk (iLoadN (nat_lit 5) (odF .d0 .d3)) v0) (.u (iEf (iCall (nat_lit 157) [(odV v0), (odV v1), (odV v4)])) fun v5 => (.u (iRd (iMove (odV v5))) fun v6 => (.u (iRd (iExtract (nat_lit 0) (odV v6))) fun v7 => (.u (iRd (iExtract (nat_lit 1) (odV v6))) fun v8 => (.u (iRd (iMove (odV v7))) fun v9 => (.u (iRd (iMove (odV v8))) fun v10 => (.g (iMove (odV v10)) .d2 .d6 (.g (iMove (odV v9)) .d2 .d5 .nil))))))))))))))))
 (.seq (.reg (.u (iAppend (nat_lit 11) (nat_lit 168) (odF .d1 .d5) (odF .d2 .d5)) fun v149 => (.g (iMove (odV v149)) .d0 .d6 (.g (iMove (odF .d2 .d6)) .d0 .d7 .nil))))
 .ret)))))))))))), [(.d0, .d0), (.d0, .d1), (.d0, .d2)], [.t (odF .d0 .d6), .t (odF .d0 .d7)]⟩
def c164 : CFn := ⟨(.seq (.reg (.g (iBox (odF .d0 .d0)) .d0 .d2 (.g (iBox (odF .d0 .d1)) .d0 .d3 (.g (iMove (odV (.b false))) .d0 .d4 .nil))))
 (.seq (.seq (.reg (.u (iFieldAddr (nat_lit 0) (odF .d0 .d2)) fun v9 => (.u (iLoad1 (odV v9)) fun v10 => (.u (iFieldAddr (nat_lit 0) (odF .d0 .d3)) fun v11 => (.u (iLoad1 (odV v11)) fun v12 => (.g (iEq Tryz.prog true (nat_lit 3) (odV v10) (odV v12)) .d1 .d1 .nil))))))
 (.cond (odF .d1 .d1) (.seq (.reg (.g (iMove (odV (.b false))) .d0 .d4 .nil))
 .ret)
 .skip))
 (.seq (.seq (.reg (.u (iFieldAddr (nat_lit 0) (odF .d0 .d2)) fun v14 => (.g (iLoad1 (odV v14)) .d1 .d2 .nil)))
 (.block (nat_lit 0) (.seq (.reg (.u (iEq Tryz.prog false (nat_lit 3) (odF .d1 .d2) (odV (.i (.ofNat (nat_lit 1))))) fun v17 => (.g (iMove (odV v17)) .d1 .d3 .nil)))
 (.cond (odF .d1 .d3) (.seq (.reg (.u (iFieldAddr (nat_lit 2) (odF .d0 .d2)) fun v18 => (.u (iLoadN (nat_lit 2) (odV v18)) fun v19 => (.u (iFieldAddr (nat_lit 2) (odF .d0 .d3)) fun v20 => (.u (iLoadN (nat_lit 2) (odV v20)) fun v21 => (.u (iCall (nat_lit 173) [(odV v19), (odV v21)]) fun v22 => (.u (iEq Tryz.prog false (nat_lit 3) (odV v22) (odV (.i (.ofNat (nat_lit 0))))) fun v23 => (.g (iMove (odV v23)) .d0 .d4 .nil))))))))
 .ret)
 (.seq (.seq (.reg (.u (iEq Tryz.prog false (nat_lit 3) (odF .d1 .d2) (odV (.i (.ofNat (nat_lit 2))))) fun v25 => (.g (iMove (odV v25)) .d1 .d4 .nil)))
 (.cond (odF .d1 .d4) .skip
 (.seq (.reg (.u (iEq Tryz.prog false (nat_lit 3) (odF .d1 .d2) (odV (.i (.ofNat (nat_lit 3))))) fun v26 => (.g (iMove (odV v26)) .d1 .d4 .nil)))
 (.cond (odF .d1 .d4) .skip
 (.reg (.u (iEq Tryz.prog false (nat_lit 3) (odF .d1 .d2) (odV (.i (.ofNat (nat_lit 9))))) fun v27 => (.g (iMove (odV v27)) .d1 .d4 .nil)))))))
 (.cond (odF .d1 .d4) (.seq (.reg (.u (iFieldAddr (nat_lit 1) (odF .d0 .d2)) fun v28 => (.u (iLoad1 (odV v28)) fun v29 => (.u (iFieldAddr (nat_lit 1) (odF .d0 .d3)) fun v30 => (.u (iLoad1 (odV v30)) fun v31 => (.u (iEq Tryz.prog false (nat_lit 3) (odV v29) (odV v31)) fun v32 => (.g (iMove (odV v32)) .d0 .d4 .nil)))))))
 .ret)
 (.seq (.reg (.u (iEq Tryz.prog false (nat_lit 3) (odF .d1 .d2) (odV (.i (.ofNat (nat_lit 4))))) fun v34 => (.g (iMove (odV v34)) .d1 .d5 .nil)))
 (.cond (odF .d1 .d5) (.seq (.reg (.u (iFieldAddr (nat_lit 4) (odF .d0 .d2)) fun v35 => (.u (iLoad1 (odV v35)) fun v36 => (.u (iFieldAddr (nat_lit 4) (odF .d0 .d3)) fun v37 => (.u (iLoad1 (odV v37)) fun v38 => (.u (iEq Tryz.prog false (nat_lit 9) (odV v36) (odV v38)) fun v39 => (.g (iMove (odV v39)) .d0 .d4 .nil)))))))
 .ret)
 (.seq (.reg (.u (iEq Tryz.prog false (nat_lit 3) (odF .d1 .d2) (odV (.i (.ofNat (nat_lit 5))))) fun v41 => (.g (iMove (odV v41)) .d1 .d6 .nil)))
 (.cond (odF .d1 .d6) (.seq (.reg (.u (iLoadN (nat_lit 7) (odF .d0 .d2)) fun v42 => (.u (iLoadN (nat_lit 7) (odF .d0 .d3)) fun v43 => (.u (iCall (nat_lit 146) [(odV v42), (odV v43)]) fun v44 => (.g (iMove (odV v44)) .d0 .d4 .nil)))))
 .ret)
 (.seq (.reg (.u (iEq Tryz.prog false (nat_lit 3) (odF .d1 .d2) (odV (.i (.ofNat (nat_lit 10))))) fun v46 => (.g (iMove (odV v46)) .d1 .d7 .nil)))
 (.cond (odF .d1 .d7) (.seq (.reg (.u (iFieldAddr (nat_lit 4) (odF .d0 .d2)) fun v47 => (.u (iLoad1 (odV v47)) fun v48 => (.u (iFieldAddr (nat_lit 4) (odF .d0 .d3)) fun v49 => (.u (iLoad1 (odV v49)) fun v50 => (.u (iEq Tryz.prog false (nat_lit 9) (odV v48) (odV v50)) fun v51 => (.cu (odV v51) true (iFieldAddr (nat_lit 5) (odF .d0 .d2)) fun v53 => (.cu (odV v51) true (iLoad1 (odV v53)) fun v54 => (.cu (odV v51) true (iFieldAddr (nat_lit 5) (odF .d0 .d3)) fun v55 => (.cu (odV v51) true (iLoad1 (odV v55)) fun v56 => (.cu (odV v51) true (iCall (nat_lit 174) [(odV v54), (odV v56), (odV (.fn (.func (nat_lit 164)) [] []))]) fun v57 => (.u (iPick (odV v51) (odV v57) (odV (.b false))) fun v58 => (.g (iMove (odV v58)) .d0 .d4 .nil)))))))))))))
 .ret)
 (.seq (.reg (.u (iEq Tryz.prog false (nat_lit 3) (odF .d1 .d2) (odV (.i (.ofNat (nat_lit 7))))) fun v60 => (.g (iMove (odV v60)) .d2 .d0 .nil)))
 (.cond (odF .d2 .d0) (.seq (.reg (.u (iFieldAddr (nat_lit 5) (odF .d0 .d2)) fun v61 => (.u (iLoad1 (odV v61)) fun v62 => (.u (iFieldAddr (nat_lit 5) (odF .d0 .d3)) fun v63 => (.u (iLoad1 (odV v63)) fun v64 => (.u (iCall (nat_lit 174) [(odV v62), (odV v64), (odV (.fn (.func (nat_lit 164)) [] []))]) fun v65 => (.g (iMove (odV v65)) .d0 .d4 .nil)))))))
 .ret)
 (.seq (.reg (.u (iEq Tryz.prog false (nat_lit 3) (odF .d1 .d2) (odV (.i (.ofNat (nat_lit 6))))) fun v67 => (.g (iMove (odV v67)) .d2 .d1 .nil)))
 (.cond (odF .d2 .d1) (.seq (.reg (.u (iLoadN (nat_lit 7) (odF .d0 .d2)) fun v69 => (.u (iCall (nat_lit 125) [(odV v69)]) fun v70 => (.u (iExtract (nat_lit 0) (odV v70)) fun v71 => (.u (iExtract (nat_lit 1) (odV v70)) fun v72 => (.g (iNew (nat_lit 7) [(.i (.ofNat (nat_lit 0))), (.i (.ofNat (nat_lit 0))), (.b false), (.sc (.slice none (nat_lit 0) (nat_lit 0))), (.s []), (.sc (.slice none (nat_lit 0) (nat_lit 0))), (.sc (.slice none (nat_lit 0) (nat_lit 0)))]) .d0 .d5 (.x (iStore (nat_lit 7) (odF .d0 .d5) (odV v71)) (.g (iMove (odV v72)) .d0 .d6 .nil))))))))
 (.seq (.reg (.u (iLoadN (nat_lit 7) (odF .d0 .d3)) fun v74 => (.u (iCall (nat_lit 125) [(odV v74)]) fun v75 => (.u (iExtract (nat_lit 0) (odV v75)) fun v76 => (.u (iExtract (nat_lit 1) (odV v75)) fun v77 => (.g (iNew (nat_lit 7) [(.i (.ofNat (nat_lit 0))), (.i (.ofNat (nat_lit 0))), (.b false), (.sc (.slice none (nat_lit 0) (nat_lit 0))), (.s []), (.sc (.slice none (nat_lit 0) (nat_lit 0))), (.sc (.slice none (nat_lit 0) (nat_lit 0)))]) .d0 .d7 (.x (iStore (nat_lit 7) (odF .d0 .d7) (odV v76)) (.g (iMove (odV v77)) .d1 .d0 .nil))))))))
 (.seq (.reg (.u (iFieldAddr (nat_lit 5) (odF .d0 .d2)) fun v78 => (.u (iLoad1 (odV v78)) fun v79 => (.u (iFieldAddr (nat_lit 5) (odF .d0 .d3)) fun v80 => (.u (iLoad1 (odV v80)) fun v81 => (.u (iCall (nat_lit 174) [(odV v79), (odV v81), (odV (.fn (.func (nat_lit 164)) [] []))]) fun v82 => (.cu (odV v82) true (iMove (odF .d0 .d6)) fun v84 => (.cu (odV v82) true (iMove (odF .d1 .d0)) fun v85 => (.cu (odV v82) true (iEq Tryz.prog false (nat_lit 4) (odV v84) (odV v85)) fun v86 => (.u (iPick (odV v82) (odV v86) (odV (.b false))) fun v87 => (.cu (odV v87) true (iMove (odF .d0 .d6)) fun v89 => (.cu (odV v87) true (iNot (odV v89)) fun v90 => (.cu (odV v87) true (iMove (odV v90)) fun v91 => (.cu (odV v91) false (iLoadN (nat_lit 7) (odF .d0 .d5)) fun v92 => (.cu (odV v91) false (iLoadN (nat_lit 7) (odF .d0 .d7)) fun v93 => (.cu (odV v91) false (iCall (nat_lit 164) [(odV v92), (odV v93)]) fun v94 => (.cu (odV v87) true (iPick (odV v91) (odV (.b true)) (odV v94)) fun v95 => (.u (iPick (odV v87) (odV v95) (odV (.b false))) fun v96 => (.g (iMove (odV v96)) .d0 .d4 .nil)))))))))))))))))))
 .ret)))
 .skip))))))))))))))))
 (.seq (.reg (.g (iMove (odV (.b true))) .d0 .d4 .nil))
 .ret)))), [(.d0, .d0), (.d0, .d1)], [.t (odF .d0 .d4)]⟩
def c165 : CFn := ⟨(.seq (.reg (.g (iBox (odF .d0 .d1)) .d0 .d3 (.g (iMove (odV (.b false))) .d0 .d4 .nil)))
 (.seq (.reg (.u (iRd (iMove (odF .d0 .d2))) fun v0 => (.u (iRd (iNot (odV v0))) fun v1 => (.u (iRd (iMove (odV v1))) fun v2 => (.u (iRd (iGd (odV v2) true (iMove (odF .d0 .d0)))) fun v3 => (.u (iRd (iGd (odV v2) true (iNilCheck Tryz.prog (odV v3)))) fun v4 => (.u (iRd (iGd (odV v2) true (iFieldAddr (nat_lit 0) (odV v4)))) fun v5 => (.u (iRd (iGd (odV v2) true (iLoadN (nat_lit 5) (odV v5)))) fun v6 => (.u (iRd (iGd (odV v2) true (iLoadN (nat_lit 7) (odF .d0 .d3)))) fun v7 => (.u (iEf (iGd (odV v2) true (iCall (nat_lit 149) [(odV v6), (odV v7)]))) fun v8 => (.u (iRd (iPick (odV v2) (odV v8) (odV (.b false)))) fun v9 => (.u (iRd (iMove (odV v9))) fun v10 => (.g (iMove (odV v10)) .d0 .d4 .nil)))))))))))))
 .ret)), [(.d0, .d0), (.d0, .d1), (.d0, .d2)], [.t (odF .d0 .d4)]⟩
def c166 : CFn := ⟨(.seq (.reg (.g (iNew (nat_lit 7) [(.i (.ofNat (nat_lit 0))), (.i (.ofNat (nat_lit 0))), (.b false), (.sc (.slice none (nat_lit 0) (nat_lit 0))), (.s []), (.sc (.slice none (nat_lit 0) (nat_lit 0))), (.sc (.slice none (nat_lit 0) (nat_lit 0)))]) .d0 .d2 .nil))
 (.seq (.seq (.reg (.u (iNilCheck Tryz.prog (odF .d0 .d0)) fun v6 => (.u (iFieldAddr (nat_lit 6) (odV v6)) fun v7 => (.u (iLoad1 (odV v7)) fun v8 => (.g (iEq Tryz.prog false (nat_lit 35) (odV v8) (odV (.i (.ofNat (nat_lit 0))))) .d0 .d3 .nil)))))
 (.cond (odF .d0 .d3) (.reg (.u (iNilCheck Tryz.prog (odF .d0 .d0)) fun v12 => (.u (iFieldAddr (nat_lit 6) (odV v12)) fun v13 => (.x (iStore (nat_lit 1) (odV v13) (odF .d0 .d1)) .nil))))
 .skip))
 (.seq (.reg (.u (iBuild (nat_lit 7) [(.i (.ofNat (nat_lit 0))), (.i (.ofNat (nat_lit 0))), (.b false), (.sc (.slice none (nat_lit 0) (nat_lit 0))), (.s []), (.sc (.slice none (nat_lit 0) (nat_lit 0))), (.sc (.slice none (nat_lit 0) (nat_lit 0)))] []) fun v14 => (.x (iStore (nat_lit 7) (odF .d0 .d2) (odV v14)) .nil)))
 .ret))), [(.d0, .d0), (.d0, .d1)], [.cN (nat_lit 7) (odF .d0 .d2)]⟩
def c167 : CFn := ⟨(.seq (.reg (.g (iBox (odF .d0 .d1)) .d0 .d3 (.g (iNew (nat_lit 7) [(.i (.ofNat (nat_lit 0))), (.i (.ofNat (nat_lit 0))), (.b false), (.sc (.slice none (nat_lit 0) (nat_lit 0))), (.s []), (.sc (.slice none (nat_lit 0) (nat_lit 0))), (.sc (.slice none (nat_lit 0) (nat_lit 0)))]) .d0 .d4 .nil)))
 (.seq (.reg (.u (iLoadN (nat_lit 7) (odF .d0 .d3)) fun v8 => (.u (iCall (nat_lit 175) [(odV v8), (odF .d0 .d2)]) fun v10 => (.g (iMove (odV v10)) .d0 .d5 .nil))))
 (.seq (.seq (.reg (.g (iCmp Tryz.prog ltF .lss (nat_lit 3) (odF .d0 .d5) (odV (.i (.ofNat (nat_lit 0))))) .d0 .d6 .nil))
 (.cond (odF .d0 .d6) (.seq (.reg (.u (iRd (iMove (odF .d0 .d0))) fun v0 => (.u (iRd (iNilCheck Tryz.prog (odV v0))) fun v1 => (.u (iRd (iFieldAddr (nat_lit 0) (odV v1))) fun v2 => (.u (iRd (iFieldAddr (nat_lit 4) (odV v2))) fun v3 => (.u (iRd (iLoad1 (odV v3))) fun v4 => (.u (iRd (iLoadN (nat_lit 7) (odF .d0 .d3))) fun v5 => (.u (iEf (iCallV Tryz.prog (odV v4) [(odV v5)])) fun v6 => (.u (iEf (iStore (nat_lit 7) (odF .d0 .d3) (odV v6))) fun v7 => .nil)))))))))
 (.seq (.reg (.u (iLoadN (nat_lit 7) (odF .d0 .d3)) fun v21 => (.u (iCall (nat_lit 168) [(odF .d0 .d0), (odV v21)]) fun v22 => .nil)))
 (.seq (.reg (.u (iLoadN (nat_lit 7) (odF .d0 .d3)) fun v23 => (.x (iStore (nat_lit 7) (odF .d0 .d4) (odV v23)) .nil)))
 .ret)))
 .skip))
 (.seq (.seq (.reg (.u (iIdx (nat_lit 11) (odF .d0 .d2) (odF .d0 .d5)) fun v26 => (.u (iFieldAddr (nat_lit 2) (odV v26)) fun v27 => (.u (iLoad1 (odV v27)) fun v28 => (.g (iCmp Tryz.prog gtF .gtr (nat_lit 3) (odV v28) (odV (.i (.ofNat (nat_lit 0))))) .d0 .d7 .nil)))))
 (.cond (odF .d0 .d7) (.seq (.reg (.u (iCall (nat_lit 166) [(odF .d0 .d0), (odV (.i (.ofNat (nat_lit 21))))]) fun v31 => (.x (iStore (nat_lit 7) (odF .d0 .d4) (odV v31)) .nil)))
 .ret)
 .skip))
 (.seq (.reg (.u (iIdx (nat_lit 11) (odF .d0 .d2) (odF .d0 .d5)) fun v35 => (.u (iFieldAddr (nat_lit 3) (odV v35)) fun v36 => (.u (iLoadN (nat_lit 7) (odV v36)) fun v37 => (.u (iCall (nat_lit 168) [(odF .d0 .d0), (odV v37)]) fun v38 => .nil)))))
 (.seq (.reg (.u (iIdx (nat_lit 11) (odF .d0 .d2) (odF .d0 .d5)) fun v41 => (.u (iFieldAddr (nat_lit 3) (odV v41)) fun v42 => (.u (iLoadN (nat_lit 7) (odV v42)) fun v43 => (.x (iStore (nat_lit 7) (odF .d0 .d4) (odV v43)) .nil)))))
 .ret)))))), [(.d0, .d0), (.d0, .d1), (.d0, .d2)], [.cN (nat_lit 7) (odF .d0 .d4)]⟩
def c168 : CFn := ⟨(.seq (.reg (.g (iBox (odF .d0 .d1)) .d0 .d2 .nil))
 (.seq (.seq (.reg (.u (iNilCheck Tryz.prog (odF .d0 .d0)) fun v7 => (.u (iFieldAddr (nat_lit 5) (odV v7)) fun v8 => (.u (iLoad1 (odV v8)) fun v9 => (.u (iInt Tryz.prog subF .sub (nat_lit 3) (odV v9) (odV (.i (.ofNat (nat_lit 1))))) fun v10 => (.u (iNilCheck Tryz.prog (odF .d0 .d0)) fun v11 => (.u (iFieldAddr (nat_lit 5) (odV v11)) fun v12 => (.x (iStore (nat_lit 1) (odV v12) (odV v10)) .nil))))))))
 (.seq (.reg (.u (iNilCheck Tryz.prog (odF .d0 .d0)) fun v14 => (.u (iFieldAddr (nat_lit 5) (odV v14)) fun v15 => (.u (iLoad1 (odV v15)) fun v16 => (.g (iCmp Tryz.prog ltF .lss (nat_lit 3) (odV v16) (odV (.i (.ofNat (nat_lit 0))))) .d0 .d4 .nil)))))
 (.cond (odF .d0 .d4) (.reg (.u (iCall (nat_lit 166) [(odF .d0 .d0), (odV (.i (.ofNat (nat_lit 22))))]) fun v19 => .nil))
 .skip)))
 (.seq (.reg (.u (iLoadN (nat_lit 7) (odF .d0 .d2)) fun v20 => (.g (iCall (nat_lit 96) [(odV v20)]) .d0 .d5 (.g (iLenL (odF .d0 .d5)) .d0 .d6 (.g (iMove (odV (.i (.ofNat (nat_lit 0))))) .d0 .d7 .nil)))))
 (.block (nat_lit 0) (.loop (.seq (.reg (.g (iCmp Tryz.prog ltF .lss (nat_lit 3) (odF .d0 .d7) (odF .d0 .d6)) .d1 .d0 .nil))
 (.seq (.cond (odF .d1 .d0) .skip
 (.exit (nat_lit 0)))
 (.seq (.block (nat_lit 1) (.seq (.reg (.u (iIdx (nat_lit 7) (odF .d0 .d5) (odF .d0 .d7)) fun v25 => (.u (iLoadN (nat_lit 7) (odV v25)) fun v26 => (.g (iNew (nat_lit 7) [(.i (.ofNat (nat_lit 0))), (.i (.ofNat (nat_lit 0))), (.b false), (.sc (.slice none (nat_lit 0) (nat_lit 0))), (.s []), (.sc (.slice none (nat_lit 0) (nat_lit 0))), (.sc (.slice none (nat_lit 0) (nat_lit 0)))]) .d0 .d3 (.x (iStore (nat_lit 7) (odF .d0 .d3) (odV v26)) .nil)))))
 (.seq (.seq (.reg (.u (iNilCheck Tryz.prog (odF .d0 .d0)) fun v28 => (.u (iFieldAddr (nat_lit 6) (odV v28)) fun v29 => (.u (iLoad1 (odV v29)) fun v30 => (.g (iEq Tryz.prog true (nat_lit 35) (odV v30) (odV (.i (.ofNat (nat_lit 0))))) .d1 .d1 .nil)))))
 (.cond (odF .d1 .d1) .ret
 .skip))
 (.reg (.u (iLoadN (nat_lit 7) (odF .d0 .d3)) fun v33 => (.u (iCall (nat_lit 168) [(odF .d0 .d0), (odV v33)]) fun v34 => .nil))))))
 (.reg (.u (iInt Tryz.prog addF .add (nat_lit 3) (odF .d0 .d7) (odV (.i (.ofNat (nat_lit 1))))) fun v35 => (.g (iMove (odV v35)) .d0 .d7 .nil))))))))))), [(.d0, .d0), (.d0, .d1)], []⟩
def c169 : CFn := ⟨(.seq (.reg (.g (iBox (odF .d0 .d1)) .d0 .d5 (.g (iBox (odF .d0 .d2)) .d0 .d6 (.g (iMove (odV (.sc (.slice none (nat_lit 0) (nat_lit 0))))) .d0 .d7 .nil))))
 (.seq (.reg (.g (iNew (nat_lit 1) [(.sc (.slice none (nat_lit 0) (nat_lit 0)))]) .d1 .d0 .nil))
 (.seq (.reg (.u (iLoadN (nat_lit 7) (odF .d0 .d5)) fun v18 => (.u (iFn (.func (nat_lit 177)) [] [(odF .d0 .d6), (odF .d1 .d0)]) fun v19 => (.u (iCall (nat_lit 176) [(odV v18), (odV v19)]) fun v20 => .nil))))
 (.seq (.seq (.reg (.u (iLoad1 (odF .d1 .d0)) fun v21 => (.u (iLenL (odV v21)) fun v22 => (.u (iEq Tryz.prog false (nat_lit 3) (odV v22) (odV (.i (.ofNat (nat_lit 0))))) fun v23 => (.cu (odV v23) false (iLoad1 (odF .d1 .d0)) fun v25 => (.cu (odV v23) false (iFn (.func (nat_lit 180)) [] [(odF .d1 .d0)]) fun v26 => (.cu (odV v23) false (iCall (nat_lit 178) [(odV v25), (odV v26)]) fun v27 => (.g (iPick (odV v23) (odV (.b true)) (odV v27)) .d1 .d6 .nil))))))))
 (.cond (odF .d1 .d6) (.seq (.reg (.u (iCall (nat_lit 166) [(odF .d0 .d0), (odV (.i (.ofNat (nat_lit 21))))]) fun v30 => .nil))
 (.seq (.reg (.g (iMove (odV (.sc (.slice none (nat_lit 0) (nat_lit 0))))) .d0 .d7 .nil))
 .ret))
 .skip))
 (.seq (.reg (.g (iMove (odV (.sc (.slice none (nat_lit 0) (nat_lit 0))))) .d1 .d1 .nil))
 (.seq (.seq (.reg (.g (iMove (odV (.i (.ofNat (nat_lit 0))))) .d1 .d2 .nil))
 (.block (nat_lit 0) (.loop (.seq (.seq (.reg (.u (iLoad1 (odF .d1 .d0)) fun v32 => (.u (iIdx (nat_lit 12) (odV v32) (odV (.i (.ofNat (nat_lit 0))))) fun v33 => (.u (iFieldAddr (nat_lit 0) (odV v33)) fun v34 => (.u (iFieldAddr (nat_lit 10) (odV v34)) fun v35 => (.u (iLoad1 (odV v35)) fun v36 => (.u (iLenL (odV v36)) fun v37 => (.u (iCmp Tryz.prog ltF .lss (nat_lit 3) (odF .d1 .d2) (odV v37)) fun v38 => (.cu (odV v38) true (iMove (odF .d0 .d0)) fun v40 => (.cu (odV v38) true (iNilCheck Tryz.prog (odV v40)) fun v41 => (.cu (odV v38) true (iFieldAddr (nat_lit 6) (odV v41)) fun v42 => (.cu (odV v38) true (iLoad1 (odV v42)) fun v43 => (.cu (odV v38) true (iEq Tryz.prog false (nat_lit 35) (odV v43) (odV (.i (.ofNat (nat_lit 0))))) fun v44 => (.g (iPick (odV v38) (odV v44) (odV (.b false))) .d1 .d7 .nil))))))))))))))
 (.cond (odF .d1 .d7) .skip
 (.exit (nat_lit 0))))
 (.seq (.block (nat_lit 1) (.seq (.reg (.u (iLoad1 (odF .d0 .d6)) fun v48 => (.u (iCall (nat_lit 181) [(odV v48)]) fun v49 => (.g (iMove (odV v49)) .d1 .d3 .nil))))
 (.seq (.seq (.reg (.g (iLoad1 (odF .d1 .d0)) .d2 .d0 (.g (iLenL (odF .d2 .d0)) .d2 .d1 (.g (iMove (odV (.i (.ofNat (nat_lit 0))))) .d2 .d2 .nil))))
 (.block (nat_lit 2) (.loop (.seq (.reg (.g (iCmp Tryz.prog ltF .lss (nat_lit 3) (odF .d2 .d2) (odF .d2 .d1)) .d2 .d3 .nil))
 (.seq (.cond (odF .d2 .d3) .skip
 (.exit (nat_lit 2)))
 (.seq (.block (nat_lit 3) (.seq (.reg (.u (iIdx (nat_lit 12) (odF .d2 .d0) (odF .d2 .d2)) fun v54 => (.u (iLoadN (nat_lit 12) (odV v54)) fun v55 => (.g (iNew (nat_lit 12) [(.s []), (.i (.ofNat (nat_lit 0))), (.i (.ofNat (nat_lit 0))), (.i (.ofNat (nat_lit 0))), (.i (.ofNat (nat_lit 0))), (.b false), (.sc (.slice none (nat_lit 0) (nat_lit 0))), (.s []), (.sc (.slice none (nat_lit 0) (nat_lit 0))), (.sc (.slice none (nat_lit 0) (nat_lit 0))), (.sc (.slice none (nat_lit 0) (nat_lit 0))), (.i (.ofNat (nat_lit 0)))]) .d1 .d4 (.x (iStore (nat_lit 12) (odF .d1 .d4) (odV v55)) .nil)))))
 (.seq (.reg (.u (iFieldAddr (nat_lit 0) (odF .d1 .d4)) fun v56 => (.u (iFieldAddr (nat_lit 10) (odV v56)) fun v57 => (.u (iLoad1 (odV v57)) fun v58 => (.u (iIdx (nat_lit 11) (odV v58) (odF .d1 .d2)) fun v60 => (.u (iLoadN (nat_lit 11) (odV v60)) fun v61 => (.g (iNew (nat_lit 11) [(.s []), (.i (.ofNat (nat_lit 0))), (.i (.ofNat (nat_lit 0))), (.i (.ofNat (nat_lit 0))), (.i (.ofNat (nat_lit 0))), (.b false), (.sc (.slice none (nat_lit 0) (nat_lit 0))), (.s []), (.sc (.slice none (nat_lit 0) (nat_lit 0))), (.sc (.slice none (nat_lit 0) (nat_lit 0))), (.sc (.slice none (nat_lit 0) (nat_lit 0)))]) .d1 .d5 (.x (iStore (nat_lit 11) (odF .d1 .d5) (odV v61)) .nil))))))))
 (.seq (.reg (.u (iRd (iFieldAddr (nat_lit 0) (odF .d1 .d4))) fun v0 => (.u (iRd (iFieldAddr (nat_lit 0) (odV v0))) fun v1 => (.u (iRd (iLoad1 (odV v1))) fun v2 => (.u (iRd (iFieldAddr (nat_lit 0) (odF .d1 .d4))) fun v3 => (.u (iRd (iFieldAddr (nat_lit 1) (odV v3))) fun v4 => (.u (iRd (iLoad1 (odV v4))) fun v5 => (.u (iRd (iFieldAddr (nat_lit 0) (odF .d1 .d5))) fun v6 => (.u (iEf (iStore (nat_lit 1) (odV v6) (odV v2))) fun v7 => (.x (iChk (iLoad1 (odV v4)) v5) (.x (iChk (iFieldAddr (nat_lit 1) (odV v3)) v4) (.x (iChk (iFieldAddr (nat_lit 0) (odF .d1 .d4)) v3) (.u (iRd (iFieldAddr (nat_lit 1) (odF .d1 .d5))) fun v8 => (.u (iEf (iStore (nat_lit 1) (odV v8) (odV v5))) fun v9 => .nil))))))))))))))
 (.reg (.u (iFieldAddr (nat_lit 11) (odF .d1 .d4)) fun v71 => (.u (iLoad1 (odV v71)) fun v72 => (.u (iLoadN (nat_lit 11) (odF .d1 .d5)) fun v73 => (.u (iIdx (nat_lit 11) (odF .d1 .d3) (odV v72)) fun v74 => (.x (iStore (nat_lit 11) (odV v74) (odV v73)) .nil))))))))))
 (.reg (.u (iInt Tryz.prog addF .add (nat_lit 3) (odF .d2 .d2) (odV (.i (.ofNat (nat_lit 1))))) fun v75 => (.g (iMove (odV v75)) .d2 .d2 .nil)))))))))
 (.seq (.reg (.g (iCmp Tryz.prog gtF .gtr (nat_lit 3) (odF .d0 .d3) (odV (.i (.ofNat (nat_lit 1))))) .d2 .d4 .nil))
 (.cond (odF .d2 .d4) (.reg (.u (iMove (odF .d1 .d1)) fun v78 => (.u (iLoadN (nat_lit 7) (odF .d0 .d5)) fun v80 => (.u (iInt Tryz.prog subF .sub (nat_lit 3) (odF .d0 .d3) (odV (.i (.ofNat (nat_lit 1))))) fun v83 => (.u (iCall (nat_lit 169) [(odF .d0 .d0), (odV v80), (odF .d1 .d3), (odV v83), (odF .d0 .d4)]) fun v85 => (.u (iAppend (nat_lit 7) (nat_lit 112) (odV v78) (odV v85)) fun v86 => (.g (iMove (odV v86)) .d1 .d1 .nil)))))))
 (.reg (.u (iMove (odF .d1 .d1)) fun v87 => (.u (iLoadN (nat_lit 7) (odF .d0 .d5)) fun v89 => (.u (iCall (nat_lit 158) [(odF .d0 .d0), (odV v89), (odF .d1 .d3), (odF .d0 .d4)]) fun v92 => (.u (iBuildSlice [(.i (.ofNat (nat_lit 0))), (.i (.ofNat (nat_lit 0))), (.b false), (.sc (.slice none (nat_lit 0) (nat_lit 0))), (.s []), (.sc (.slice none (nat_lit 0) (nat_lit 0))), (.sc (.slice none (nat_lit 0) (nat_lit 0)))] (nat_lit 1) (nat_lit 7) [((nat_lit 0), (nat_lit 7), (odV v92))]) fun v93 => (.u (iAppend (nat_lit 7) (nat_lit 112) (odV v87) (odV v93)) fun v94 => (.g (iMove (odV v94)) .d1 .d1 .nil))))))))))))
 (.reg (.u (iMove (odF .d1 .d2)) fun v46 => (.u (iInt Tryz.prog addF .add (nat_lit 3) (odV v46) (odV (.i (.ofNat (nat_lit 1))))) fun v47 => (.g (iMove (odV v47)) .d1 .d2 .nil)))))))))
 (.seq (.reg (.g (iMove (odF .d1 .d1)) .d0 .d7 .nil))
 .ret))))))), [(.d0, .d0), (.d0, .d1), (.d0, .d2), (.d0, .d3), (.d0, .d4)], [.t (odF .d0 .d7)]⟩
def c170 : CFn := ⟨(.seq (.reg (.g (iBox (odF .d0 .d1)) .d0 .d3 (.g (iBox (odF .d0 .d2)) .d0 .d4 (.g (iNew (nat_lit 7) [(.i (.ofNat (nat_lit 0))), (.i (.ofNat (nat_lit 0))), (.b false), (.sc (.slice none (nat_lit 0) (nat_lit 0))), (.s []), (.sc (.slice none (nat_lit 0) (nat_lit 0))), (.sc (.slice none (nat_lit 0) (nat_lit 0)))]) .d0 .d5 .nil))))
 (.seq (.seq (.reg (.u (iFieldAddr (nat_lit 5) (odF .d0 .d3)) fun v7 => (.u (iLoad1 (odV v7)) fun v8 => (.u (iLenL (odV v8)) fun v9 => (.g (iEq Tryz.prog false (nat_lit 3) (odV v9) (odV (.i (.ofNat (nat_lit 0))))) .d0 .d6 .nil)))))
 (.cond (odF .d0 .d6) (.seq (.reg (.u (iNilCheck Tryz.prog (odF .d0 .d0)) fun v12 => (.u (iFieldAddr (nat_lit 5) (odV v12)) fun v13 => (.u (iLoad1 (odV v13)) fun v14 => (.u (iInt Tryz.prog addF .add (nat_lit 3) (odV v14) (odV (.i (.ofNat (nat_lit 1))))) fun v15 => (.u (iNilCheck Tryz.prog (odF .d0 .d0)) fun v16 => (.u (iFieldAddr (nat_lit 5) (odV v16)) fun v17 => (.x (iStore (nat_lit 1) (odV v17) (odV v15)) .nil))))))))
 (.seq (.reg (.u (iLoadN (nat_lit 7) (odF .d0 .d4)) fun v18 => (.x (iStore (nat_lit 7) (odF .d0 .d5) (odV v18)) .nil)))
 .ret))
 .skip))
 (.seq (.seq (.reg (.u (iFieldAddr (nat_lit 0) (odF .d0 .d4)) fun v19 => (.u (iLoad1 (odV v19)) fun v20 => (.g (iEq Tryz.prog true (nat_lit 3) (odV v20) (odV (.i (.ofNat (nat_lit 6))))) .d0 .d7 .nil))))
 (.cond (odF .d0 .d7) (.seq (.reg (.u (iLoadN (nat_lit 7) (odF .d0 .d4)) fun v22 => (.u (iBuildSlice [(.i (.ofNat (nat_lit 0))), (.i (.ofNat (nat_lit 0))), (.b false), (.sc (.slice none (nat_lit 0) (nat_lit 0))), (.s []), (.sc (.slice none (nat_lit 0) (nat_lit 0))), (.sc (.slice none (nat_lit 0) (nat_lit 0)))] (nat_lit 1) (nat_lit 7) [((nat_lit 0), (nat_lit 7), (odV v22))]) fun v23 => (.u (iFieldAddr (nat_lit 6) (odF .d0 .d3)) fun v24 => (.x (iStore (nat_lit 1) (odV v24) (odV v23)) .nil)))))
 (.seq (.reg (.u (iLoadN (nat_lit 7) (odF .d0 .d3)) fun v25 => (.x (iStore (nat_lit 7) (odF .d0 .d5) (odV v25)) .nil)))
 .ret))
 .skip))
 (.seq (.reg (.u (iNilCheck Tryz.prog (odF .d0 .d0)) fun v27 => (.u (iFieldAddr (nat_lit 5) (odV v27)) fun v28 => (.u (iLoad1 (odV v28)) fun v29 => (.u (iInt Tryz.prog addF .add (nat_lit 3) (odV v29) (odV (.i (.ofNat (nat_lit 1))))) fun v30 => (.u (iNilCheck Tryz.prog (odF .d0 .d0)) fun v31 => (.u (iFieldAddr (nat_lit 5) (odV v31)) fun v32 => (.x (iStore (nat_lit 1) (odV v32) (odV v30)) .nil))))))))
 (.seq (.reg (.u (iFieldAddr (nat_lit 5) (odF .d0 .d3)) fun v33 => (.u (iLoad1 (odV v33)) fun v34 => (.u (iFieldAddr (nat_lit 5) (odF .d0 .d4)) fun v35 => (.u (iLoad1 (odV v35)) fun v36 => (.u (iAppend (nat_lit 7) (nat_lit 112) (odV v34) (odV v36)) fun v37 => (.u (iFieldAddr (nat_lit 5) (odF .d0 .d3)) fun v38 => (.x (iStore (nat_lit 1) (odV v38) (odV v37)) .nil))))))))
 (.seq (.reg (.u (iFieldAddr (nat_lit 6) (odF .d0 .d4)) fun v39 => (.u (iLoad1 (odV v39)) fun v40 => (.u (iFieldAddr (nat_lit 6) (odF .d0 .d3)) fun v41 => (.x (iStore (nat_lit 1) (odV v41) (odV v40)) .nil)))))
 (.seq (.reg (.u (iLoadN (nat_lit 7) (odF .d0 .d3)) fun v42 => (.x (iStore (nat_lit 7) (odF .d0 .d5) (odV v42)) .nil)))
 .ret))))))), [(.d0, .d0), (.d0, .d1), (.d0, .d2)], [.cN (nat_lit 7) (odF .d0 .d5)]⟩
def c171 : CFn := ⟨(.seq (.reg (.g (iBox (odF .d0 .d0)) .d0 .d3 (.g (iBox (odF .d0 .d1)) .d0 .d4 (.g (iMove (odV (.sc (.slice none (nat_lit 0) (nat_lit 0))))) .d0 .d5 (.g (iMove (odV (.b false))) .d0 .d6 .nil)))))
 (.seq (.reg (.u (iLoadN (nat_lit 5) (odF .d0 .d3)) fun v18 => (.u (iLoadN (nat_lit 7) (odF .d0 .d4)) fun v19 => (.u (iCall (nat_lit 150) [(odV v18), (odV v19)]) fun v20 => (.u (iExtract (nat_lit 0) (odV v20)) fun v21 => (.u (iExtract (nat_lit 1) (odV v20)) fun v22 => (.g (iMove (odV v21)) .d0 .d7 (.u (iMove (odV v22)) fun v9 => .nil))))))))
 (.seq (.seq (.reg (.g (iLenL (odF .d0 .d7)) .d1 .d6 (.g (iMove (odV (.i (.ofNat (nat_lit 0))))) .d1 .d7 .nil)))
 (.block (nat_lit 0) (.loop (.seq (.reg (.g (iCmp Tryz.prog ltF .lss (nat_lit 3) (odF .d1 .d7) (odF .d1 .d6)) .d2 .d0 .nil))
 (.seq (.cond (odF .d2 .d0) .skip
 (.exit (nat_lit 0)))
 (.seq (.block (nat_lit 1) (.seq (.reg (.g (iMove (odF .d1 .d7)) .d1 .d0 .nil))
 (.reg (.u (iIdx (nat_lit 11) (odF .d0 .d7) (odF .d1 .d0)) fun v30 => (.u (iFieldAddr (nat_lit 2) (odV v30)) fun v31 => (.u (iLoad1 (odV v31)) fun v32 => (.u (iInt Tryz.prog addF .add (nat_lit 3) (odV v32) (odV (.i (.ofNat (nat_lit 1))))) fun v33 => (.u (iIdx (nat_lit 11) (odF .d0 .d7) (odF .d1 .d0)) fun v34 => (.u (iFieldAddr (nat_lit 2) (odV v34)) fun v35 => (.x (iStore (nat_lit 1) (odV v35) (odV v33)) .nil))))))))))
 (.reg (.u (iInt Tryz.prog addF .add (nat_lit 3) (odF .d1 .d7) (odV (.i (.ofNat (nat_lit 1))))) fun v36 => (.g (iMove (odV v36)) .d1 .d7 .nil)))))))))
 (.seq (.seq (.reg (.g (iMove (odF .d0 .d2)) .d2 .d1 (.g (iLenL (odF .d2 .d1)) .d2 .d2 (.g (iMove (odV (.i (.ofNat (nat_lit 0))))) .d2 .d3 .nil))))
 (.block (nat_lit 2) (.loop (.seq (.reg (.g (iCmp Tryz.prog ltF .lss (nat_lit 3) (odF .d2 .d3) (odF .d2 .d2)) .d2 .d4 .nil))
 (.seq (.cond (odF .d2 .d4) .skip
 (.exit (nat_lit 2)))
 (.seq (.block (nat_lit 3) (.seq (.reg (.u (iIdx (nat_lit 7) (odF .d2 .d1) (odF .d2 .d3)) fun v41 => (.u (iLoadN (nat_lit 7) (odV v41)) fun v42 => (.g (iNew (nat_lit 7) [(.i (.ofNat (nat_lit 0))), (.i (.ofNat (nat_lit 0))), (.b false), (.sc (.slice none (nat_lit 0) (nat_lit 0))), (.s []), (.sc (.slice none (nat_lit 0) (nat_lit 0))), (.sc (.slice none (nat_lit 0) (nat_lit 0)))]) .d1 .d1 (.x (iStore (nat_lit 7) (odF .d1 .d1) (odV v42)) .nil)))))
 (.seq (.reg (.u (iLoadN (nat_lit 5) (odF .d0 .d3)) fun v44 => (.u (iLoadN (nat_lit 7) (odF .d0 .d4)) fun v45 => (.u (iLoadN (nat_lit 7) (odF .d1 .d1)) fun v46 => (.u (iCall (nat_lit 157) [(odV v44), (odV v45), (odV v46)]) fun v47 => (.u (iExtract (nat_lit 0) (odV v47)) fun v48 => (.u (iExtract (nat_lit 1) (odV v47)) fun v49 => (.g (iMove (odV v48)) .d1 .d2 (.g (iMove (odV v49)) .d1 .d3 .nil)))))))))
 (.seq (.seq (.reg (.g (iNot (odF .d1 .d3)) .d2 .d5 .nil))
 (.cond (odF .d2 .d5) (.seq (.reg (.g (iMove (odV (.sc (.slice none (nat_lit 0) (nat_lit 0))))) .d0 .d5 (.g (iMove (odV (.b false))) .d0 .d6 .nil)))
 .ret)
 .skip))
 (.seq (.reg (.g (iMove (odF .d1 .d2)) .d2 .d6 (.g (iLenL (odF .d2 .d6)) .d2 .d7 (.g (iMove (odV (.i (.ofNat (nat_lit 0))))) .d3 .d0 .nil))))
 (.block (nat_lit 4) (.loop (.seq (.reg (.g (iCmp Tryz.prog ltF .lss (nat_lit 3) (odF .d3 .d0) (odF .d2 .d7)) .d3 .d1 .nil))
 (.seq (.cond (odF .d3 .d1) .skip
 (.exit (nat_lit 4)))
 (.seq (.block (nat_lit 5) (.seq (.reg (.u (iIdx (nat_lit 11) (odF .d2 .d6) (odF .d3 .d0)) fun v57 => (.u (iLoadN (nat_lit 11) (odV v57)) fun v58 => (.g (iNew (nat_lit 11) [(.s []), (.i (.ofNat (nat_lit 0))), (.i (.ofNat (nat_lit 0))), (.i (.ofNat (nat_lit 0))), (.i (.ofNat (nat_lit 0))), (.b false), (.sc (.slice none (nat_lit 0) (nat_lit 0))), (.s []), (.sc (.slice none (nat_lit 0) (nat_lit 0))), (.sc (.slice none (nat_lit 0) (nat_lit 0))), (.sc (.slice none (nat_lit 0) (nat_lit 0)))]) .d1 .d5 (.g (iMove (odF .d3 .d0)) .d1 .d4 (.x (iStore (nat_lit 11) (odF .d1 .d5) (odV v58)) .nil))))))
 (.reg (.u (iRd (iMove (odF .d0 .d7))) fun v0 => (.u (iRd (iMove (odF .d1 .d4))) fun v1 => (.u (iRd (iIdx (nat_lit 11) (odV v0) (odV v1))) fun v2 => (.u (iRd (iFieldAddr (nat_lit 10) (odV v2))) fun v3 => (.u (iRd (iLoad1 (odV v3))) fun v4 => (.u (iRd (iLoadN (nat_lit 11) (odF .d1 .d5))) fun v5 => (.u (iRd (iLenL (odV v4))) fun v6 => (.u (iRs (alSl [(.s []), (.i (.ofNat (nat_lit 0))), (.i (.ofNat (nat_lit 0))), (.i (.ofNat (nat_lit 0))), (.i (.ofNat (nat_lit 0))), (.b false), (.sc (.slice none (nat_lit 0) (nat_lit 0))), (.s []), (.sc (.slice none (nat_lit 0) (nat_lit 0))), (.sc (.slice none (nat_lit 0) (nat_lit 0))), (.sc (.slice none (nat_lit 0) (nat_lit 0)))] (nat_lit 1) (nat_lit 11) [((nat_lit 0), (nat_lit 11), (odV (.agg (nat_lit 11) [(.s []), (.i (.ofNat (nat_lit 0))), (.i (.ofNat (nat_lit 0))), (.i (.ofNat (nat_lit 0))), (.i (.ofNat (nat_lit 0))), (.b false), (.sc (.slice none (nat_lit 0) (nat_lit 0))), (.s []), (.sc (.slice none (nat_lit 0) (nat_lit 0))), (.sc (.slice none (nat_lit 0) (nat_lit 0))), (.sc (.slice none (nat_lit 0) (nat_lit 0)))])))])) fun v7 => (.x (iChk (iLenL (odV v4)) v6) (.x (iChk (iLoadN (nat_lit 11) (odF .d1 .d5)) v5) (.x (iChk (iLoad1 (odV v3)) v4) (.x (iChk (iFieldAddr (nat_lit 10) (odV v2)) v3) (.x (iChk (iIdx (nat_lit 11) (odV v0) (odV v1)) v2) (.x (iChk (iMove (odF .d1 .d4)) v1) (.x (iChk (iMove (odF .d0 .d7)) v0) (.x (iMt (alSl [(.s []), (.i (.ofNat (nat_lit 0))), (.i (.ofNat (nat_lit 0))), (.i (.ofNat (nat_lit 0))), (.i (.ofNat (nat_lit 0))), (.b false), (.sc (.slice none (nat_lit 0) (nat_lit 0))), (.s []), (.sc (.slice none (nat_lit 0) (nat_lit 0))), (.sc (.slice none (nat_lit 0) (nat_lit 0))), (.sc (.slice none (nat_lit 0) (nat_lit 0)))] (nat_lit 1) (nat_lit 11) [((nat_lit 0), (nat_lit 11), (odV (.agg (nat_lit 11) [(.s []), (.i (.ofNat (nat_lit 0))), (.i (.ofNat (nat_lit 0))), (.i (.ofNat (nat_lit 0))), (.i (.ofNat (nat_lit 0))), (.b false), (.sc (.slice none (nat_lit 0) (nat_lit 0))), (.s []), (.sc (.slice none (nat_lit 0) (nat_lit 0))), (.sc (.slice none (nat_lit 0) (nat_lit 0))), (.sc (.slice none (nat_lit 0) (nat_lit 0)))])))]) v7) (.u (iEf (iAppend (nat_lit 11) (nat_lit 168) (odV v4) (odV v7))) fun v8 => (.u (iRd (iIdx (nat_lit 11) (odV v8) (odV v6))) fun v9 => (.u (iRd (iIdx (nat_lit 11) (odV v0) (odV v1))) fun v11 => (.u (iRd (iFieldAddr (nat_lit 10) (odV v11))) fun v12 => (.x (iPair (nat_lit 11) (odV v9) (nat_lit 1) (odV v12)) (.x (iSide (iStore (nat_lit 1) (odV v12) (odV v8)) [((iIdx (nat_lit 11) (odV v8) (odV v6)), v9)]) (.x (iEf (iStore (nat_lit 11) (odV v9) (odV v5))) (.x (iChk (iFieldAddr (nat_lit 10) (odV v11)) v12) (.x (iChk (iIdx (nat_lit 11) (odV v0) (odV v1)) v11) (.x (iEf (iStore (nat_lit 1) (odV v12) (odV v8))) .nil)))))))))))))))))))))))))))))
 (.reg (.u (iInt Tryz.prog addF .add (nat_lit 3) (odF .d3 .d0) (odV (.i (.ofNat (nat_lit 1))))) fun v71 => (.g (iMove (odV v71)) .d3 .d0 .nil)))))))))))))
 (.reg (.u (iInt Tryz.prog addF .add (nat_lit 3) (odF .d2 .d3) (odV (.i (.ofNat (nat_lit 1))))) fun v72 => (.g (iMove (odV v72)) .d2 .d3 .nil)))))))))
 (.seq (.reg (.g (iMove (odF .d0 .d7)) .d0 .d5 (.g (iMove (odV (.b true))) .d0 .d6 .nil)))
 .ret))))), [(.d0, .d0), (.d0, .d1), (.d0, .d2)], [.t (odF .d0 .d5), .t (odF .d0 .d6)]⟩
def c172 : CFn := ⟨(.seq (.reg (.g (iBox (odF .d0 .d0)) .d0 .d2 (.g (iNew (nat_lit 7) [(.i (.ofNat (nat_lit 0))), (.i (.ofNat (nat_lit 0))), (.b false), (.sc (.slice none (nat_lit 0) (nat_lit 0))), (.s []), (.sc (.slice none (nat_lit 0) (nat_lit 0))), (.sc (.slice none (nat_lit 0) (nat_lit 0)))]) .d0 .d3 .nil)))
 (.seq (.seq (.reg (.u (iFieldAddr (nat_lit 5) (odF .d0 .d2)) fun v7 => (.u (iLoad1 (odV v7)) fun v8 => (.u (iLenL (odV v8)) fun v9 => (.u (iEq Tryz.prog false (nat_lit 3) (odF .d0 .d1) (odV v9)) fun v10 => (.cu (odV v10) true (iFieldAddr (nat_lit 6) (odF .d0 .d2)) fun v12 => (.cu (odV v10) true (iLoad1 (odV v12)) fun v13 => (.cu (odV v10) true (iLenL (odV v13)) fun v14 => (.cu (odV v10) true (iCmp Tryz.prog gtF .gtr (nat_lit 3) (odV v14) (odV (.i (.ofNat (nat_lit 0))))) fun v15 => (.g (iPick (odV v10) (odV v15) (odV (.b false))) .d0 .d5 .nil))))))))))
 (.cond (odF .d0 .d5) (.seq (.reg (.u (iFieldAddr (nat_lit 6) (odF .d0 .d2)) fun v17 => (.u (iLoad1 (odV v17)) fun v18 => (.u (iIdx (nat_lit 7) (odV v18) (odV (.i (.ofNat (nat_lit 0))))) fun v19 => (.u (iLoadN (nat_lit 7) (odV v19)) fun v20 => (.x (iStore (nat_lit 7) (odF .d0 .d3) (odV v20)) .nil))))))
 .ret)
 .skip))
 (.seq (.reg (.u (iFieldAddr (nat_lit 5) (odF .d0 .d2)) fun v21 => (.u (iLoad1 (odV v21)) fun v22 => (.u (iSlice (nat_lit 7) (odV v22) (some (odF .d0 .d1)) none) fun v24 => (.u (iBuild (nat_lit 7) [(.i (.ofNat (nat_lit 0))), (.i (.ofNat (nat_lit 0))), (.b false), (.sc (.slice none (nat_lit 0) (nat_lit 0))), (.s []), (.sc (.slice none (nat_lit 0) (nat_lit 0))), (.sc (.slice none (nat_lit 0) (nat_lit 0)))] [((nat_lit 0), (nat_lit 1), (odV (.i (.ofNat (nat_lit 6))))), ((nat_lit 5), (nat_lit 1), (odV v24))]) fun v25 => (.g (iNew (nat_lit 7) [(.i (.ofNat (nat_lit 0))), (.i (.ofNat (nat_lit 0))), (.b false), (.sc (.slice none (nat_lit 0) (nat_lit 0))), (.s []), (.sc (.slice none (nat_lit 0) (nat_lit 0))), (.sc (.slice none (nat_lit 0) (nat_lit 0)))]) .d0 .d4 (.x (iStore (nat_lit 7) (odF .d0 .d4) (odV v25)) .nil)))))))
 (.seq (.seq (.reg (.u (iFieldAddr (nat_lit 6) (odF .d0 .d2)) fun v26 => (.u (iLoad1 (odV v26)) fun v27 => (.u (iLenL (odV v27)) fun v28 => (.g (iCmp Tryz.prog gtF .gtr (nat_lit 3) (odV v28) (odV (.i (.ofNat (nat_lit 0))))) .d0 .d6 .nil)))))
 (.cond (odF .d0 .d6) (.reg (.u (iFieldAddr (nat_lit 6) (odF .d0 .d2)) fun v30 => (.u (iLoad1 (odV v30)) fun v31 => (.u (iSlice (nat_lit 7) (odV v31) none (some (odV (.i (.ofNat (nat_lit 1)))))) fun v32 => (.u (iFieldAddr (nat_lit 6) (odF .d0 .d4)) fun v33 => (.x (iStore (nat_lit 1) (odV v33) (odV v32)) .nil))))))
 .skip))
 (.seq (.reg (.u (iLoadN (nat_lit 7) (odF .d0 .d4)) fun v34 => (.x (iStore (nat_lit 7) (odF .d0 .d3) (odV v34)) .nil)))
 .ret))))), [(.d0, .d0), (.d0, .d1)], [.cN (nat_lit 7) (odF .d0 .d3)]⟩
def c173 : CFn := ⟨(.seq (.reg (.g (iBox (odF .d0 .d0)) .d0 .d2 (.g (iBox (odF .d0 .d1)) .d0 .d3 (.g (iMove (odV (.i (.ofNat (nat_lit 0))))) .d0 .d4 .nil))))
 (.seq (.reg (.u (iLoadN (nat_lit 2) (odF .d0 .d2)) fun v5 => (.u (iLoadN (nat_lit 2) (odF .d0 .d3)) fun v6 => (.u (iCall (nat_lit 183) [(odV v5), (odV v6)]) fun v7 => (.u (iCall (nat_lit 182) [(odV v7)]) fun v8 => (.u (iCall (nat_lit 184) [(odV v8)]) fun v9 => (.g (iMove (odV v9)) .d0 .d4 .nil)))))))
 .ret)), [(.d0, .d0), (.d0, .d1)], [.t (odF .d0 .d4)]⟩
def c174 : CFn := ⟨(.seq (.reg (.g (iMove (odV (.b false))) .d0 .d3 .nil))
 (.seq (.seq (.reg (.u (iLenL (odF .d0 .d0)) fun v11 => (.u (iLenL (odF .d0 .d1)) fun v13 => (.g (iEq Tryz.prog true (nat_lit 3) (odV v11) (odV v13)) .d0 .d7 .nil))))
 (.cond (odF .d0 .d7) (.seq (.reg (.g (iMove (odV (.b false))) .d0 .d3 .nil))
 .ret)
 .skip))
 (.seq (.seq (.reg (.g (iMove (odF .d0 .d0)) .d1 .d0 (.g (iLenL (odF .d1 .d0)) .d1 .d1 (.g (iMove (odV (.i (.ofNat (nat_lit 0))))) .d1 .d2 .nil))))
 (.block (nat_lit 0) (.loop (.seq (.reg (.g (iCmp Tryz.prog ltF .lss (nat_lit 3) (odF .d1 .d2) (odF .d1 .d1)) .d1 .d3 .nil))
 (.seq (.cond (odF .d1 .d3) .skip
 (.exit (nat_lit 0)))
 (.seq (.block (nat_lit 1) (.seq (.reg (.u (iIdx (nat_lit 7) (odF .d1 .d0) (odF .d1 .d2)) fun v20 => (.u (iLoadN (nat_lit 7) (odV v20)) fun v21 => (.g (iNew (nat_lit 7) [(.i (.ofNat (nat_lit 0))), (.i (.ofNat (nat_lit 0))), (.b false), (.sc (.slice none (nat_lit 0) (nat_lit 0))), (.s []), (.sc (.slice none (nat_lit 0) (nat_lit 0))), (.sc (.slice none (nat_lit 0) (nat_lit 0)))]) .d0 .d5 (.g (iMove (odF .d1 .d2)) .d0 .d4 (.x (iStore (nat_lit 7) (odF .d0 .d5) (odV v21)) .nil))))))
 (.seq (.reg (.u (iIdx (nat_lit 7) (odF .d0 .d1) (odF .d0 .d4)) fun v24 => (.u (iLoadN (nat_lit 7) (odV v24)) fun v25 => (.g (iNew (nat_lit 7) [(.i (.ofNat (nat_lit 0))), (.i (.ofNat (nat_lit 0))), (.b false), (.sc (.slice none (nat_lit 0) (nat_lit 0))), (.s []), (.sc (.slice none (nat_lit 0) (nat_lit 0))), (.sc (.slice none (nat_lit 0) (nat_lit 0)))]) .d0 .d6 (.x (iStore (nat_lit 7) (odF .d0 .d6) (odV v25)) .nil)))))
 (.seq (.reg (.u (iLoadN (nat_lit 7) (odF .d0 .d5)) fun v27 => (.u (iLoadN (nat_lit 7) (odF .d0 .d6)) fun v28 => (.u (iCallV Tryz.prog (odF .d0 .d2) [(odV v27), (odV v28)]) fun v29 => (.g (iNot (odV v29)) .d1 .d4 .nil)))))
 (.cond (odF .d1 .d4) (.seq (.reg (.g (iMove (odV (.b false))) .d0 .d3 .nil))
 .ret)
 .skip)))))
 (.reg (.u (iInt Tryz.prog addF .add (nat_lit 3) (odF .d1 .d2) (odV (.i (.ofNat (nat_lit 1))))) fun v31 => (.g (iMove (odV v31)) .d1 .d2 .nil)))))))))
 (.seq (.reg (.g (iMove (odV (.b true))) .d0 .d3 .nil))
 .ret)))), [(.d0, .d0), (.d0, .d1), (.d0, .d2)], [.t (odF .d0 .d3)]⟩
def c175 : CFn := ⟨(.seq (.reg (.g (iBox (odF .d0 .d0)) .d0 .d2 (.g (iMove (odV (.i (.ofNat (nat_lit 0))))) .d0 .d3 .nil)))
 (.seq (.reg (.u (iFn (.func (nat_lit 185)) [] [(odF .d0 .d2)]) fun v6 => (.u (iCall (nat_lit 159) [(odF .d0 .d1), (odV v6)]) fun v7 => (.g (iMove (odV v7)) .d0 .d3 .nil))))
 .ret)), [(.d0, .d0), (.d0, .d1)], [.t (odF .d0 .d3)]⟩
def c176 : CFn := ⟨(.seq (.reg (.g (iBox (odF .d0 .d0)) .d0 .d2 .nil))
 (.seq (.seq (.reg (.u (iFieldAddr (nat_lit 0) (odF .d0 .d2)) fun v8 => (.u (iLoad1 (odV v8)) fun v9 => (.g (iEq Tryz.prog false (nat_lit 3) (odV v9) (odV (.i (.ofNat (nat_lit 5))))) .d0 .d6 .nil))))
 (.cond (odF .d0 .d6) (.reg (.u (iLoadN (nat_lit 7) (odF .d0 .d2)) fun v12 => (.u (iCallV Tryz.prog (odF .d0 .d1) [(odV v12)]) fun v13 => .nil)))
 .skip))
 (.seq (.seq (.reg (.u (iFieldAddr (nat_lit 0) (odF .d0 .d2)) fun v14 => (.u (iLoad1 (odV v14)) fun v15 => (.u (iEq Tryz.prog false (nat_lit 3) (odV v15) (odV (.i (.ofNat (nat_lit 6))))) fun v16 => (.cu (odV v16) false (iFieldAddr (nat_lit 0) (odF .d0 .d2)) fun v18 => (.cu (odV v16) false (iLoad1 (odV v18)) fun v19 => (.cu (odV v16) false (iEq Tryz.prog false (nat_lit 3) (odV v19) (odV (.i (.ofNat (nat_lit 7))))) fun v20 => (.g (iPick (odV v16) (odV (.b true)) (odV v20)) .d0 .d7 .nil))))))))
 (.cond (odF .d0 .d7) (.seq (.reg (.u (iFieldAddr (nat_lit 5) (odF .d0 .d2)) fun v22 => (.g (iLoad1 (odV v22)) .d1 .d0 (.g (iLenL (odF .d1 .d0)) .d1 .d1 (.g (iMove (odV (.i (.ofNat (nat_lit 0))))) .d1 .d2 .nil)))))
 (.block (nat_lit 0) (.loop (.seq (.reg (.g (iCmp Tryz.prog ltF .lss (nat_lit 3) (odF .d1 .d2) (odF .d1 .d1)) .d1 .d3 .nil))
 (.seq (.cond (odF .d1 .d3) .skip
 (.exit (nat_lit 0)))
 (.seq (.block (nat_lit 1) (.seq (.reg (.u (iIdx (nat_lit 7) (odF .d1 .d0) (odF .d1 .d2)) fun v27 => (.u (iLoadN (nat_lit 7) (odV v27)) fun v28 => (.g (iNew (nat_lit 7) [(.i (.ofNat (nat_lit 0))), (.i (.ofNat (nat_lit 0))), (.b false), (.sc (.slice none (nat_lit 0) (nat_lit 0))), (.s []), (.sc (.slice none (nat_lit 0) (nat_lit 0))), (.sc (.slice none (nat_lit 0) (nat_lit 0)))]) .d0 .d3 (.x (iStore (nat_lit 7) (odF .d0 .d3) (odV v28)) .nil)))))
 (.reg (.u (iLoadN (nat_lit 7) (odF .d0 .d3)) fun v29 => (.u (iCall (nat_lit 176) [(odV v29), (odF .d0 .d1)]) fun v31 => .nil)))))
 (.reg (.u (iInt Tryz.prog addF .add (nat_lit 3) (odF .d1 .d2) (odV (.i (.ofNat (nat_lit 1))))) fun v32 => (.g (iMove (odV v32)) .d1 .d2 .nil)))))))))
 .skip))
 (.seq (.reg (.u (iLoadN (nat_lit 7) (odF .d0 .d2)) fun v34 => (.u (iCall (nat_lit 125) [(odV v34)]) fun v35 => (.u (iExtract (nat_lit 0) (odV v35)) fun v36 => (.u (iExtract (nat_lit 1) (odV v35)) fun v37 => (.g (iNew (nat_lit 7) [(.i (.ofNat (nat_lit 0))), (.i (.ofNat (nat_lit 0))), (.b false), (.sc (.slice none (nat_lit 0) (nat_lit 0))), (.s []), (.sc (.slice none (nat_lit 0) (nat_lit 0))), (.sc (.slice none (nat_lit 0) (nat_lit 0)))]) .d0 .d4 (.x (iStore (nat_lit 7) (odF .d0 .d4) (odV v36)) (.g (iMove (odV v37)) .d0 .d5 .nil))))))))
 (.seq (.reg (.g (iMove (odF .d0 .d5)) .d1 .d4 .nil))
 (.cond (odF .d1 .d4) (.reg (.u (iLoadN (nat_lit 7) (odF .d0 .d4)) fun v39 => (.u (iCall (nat_lit 176) [(odV v39), (odF .d0 .d1)]) fun v41 => .nil)))
 .skip)))))), [(.d0, .d0), (.d0, .d1)], []⟩
def c177 : CFn := ⟨(.seq (.reg (.g (iBox (odF .d0 .d0)) .d0 .d3 .nil))
 (.seq (.reg (.u (iLoadN (nat_lit 7) (odF .d0 .d3)) fun v5 => (.u (iLoad1 (odF .d0 .d1)) fun v6 => (.u (iCall (nat_lit 175) [(odV v5), (odV v6)]) fun v7 => (.g (iNew (nat_lit 1) [(.i (.ofNat (nat_lit 0)))]) .d0 .d4 (.x (iStore (nat_lit 1) (odF .d0 .d4) (odV v7)) .nil))))))
 (.seq (.reg (.u (iLoad1 (odF .d0 .d4)) fun v8 => (.u (iCmp Tryz.prog geF .geq (nat_lit 3) (odV v8) (odV (.i (.ofNat (nat_lit 0))))) fun v9 => (.cu (odV v9) true (iLoad1 (odF .d0 .d1)) fun v11 => (.cu (odV v9) true (iLoad1 (odF .d0 .d4)) fun v12 => (.cu (odV v9) true (iIdx (nat_lit 11) (odV v11) (odV v12)) fun v13 => (.cu (odV v9) true (iFieldAddr (nat_lit 2) (odV v13)) fun v14 => (.cu (odV v9) true (iLoad1 (odV v14)) fun v15 => (.cu (odV v9) true (iCmp Tryz.prog gtF .gtr (nat_lit 3) (odV v15) (odV (.i (.ofNat (nat_lit 0))))) fun v16 => (.u (iPick (odV v9) (odV v16) (odV (.b false))) fun v17 => (.cu (odV v17) true (iLoad1 (odF .d0 .d2)) fun v19 => (.cu (odV v17) true (iFn (.func (nat_lit 179)) [] [(odF .d0 .d4)]) fun v20 => (.cu (odV v17) true (iCall (nat_lit 178) [(odV v19), (odV v20)]) fun v21 => (.cu (odV v17) true (iNot (odV v21)) fun v22 => (.g (iPick (odV v17) (odV v22) (odV (.b false))) .d0 .d5 .nil)))))))))))))))
 (.cond (odF .d0 .d5) (.reg (.u (iRd (iLoad1 (odF .d0 .d2))) fun v0 => (.u (iRd (iLoad1 (odF .d0 .d1))) fun v1 => (.u (iRd (iLoad1 (odF .d0 .d4))) fun v2 => (.u (iRd (iIdx (nat_lit 11) (odV v1) (odV v2))) fun v3 => (.u (iRd (iLoadN (nat_lit 11) (odV v3))) fun v4 => (.u (iRd (iLoad1 (odF .d0 .d4))) fun v5 => (.u (iRd (iBuild (nat_lit 12) [(.s []), (.i (.ofNat (nat_lit 0))), (.i (.ofNat (nat_lit 0))), (.i (.ofNat (nat_lit 0))), (.i (.ofNat (nat_lit 0))), (.b false), (.sc (.slice none (nat_lit 0) (nat_lit 0))), (.s []), (.sc (.slice none (nat_lit 0) (nat_lit 0))), (.sc (.slice none (nat_lit 0) (nat_lit 0))), (.sc (.slice none (nat_lit 0) (nat_lit 0))), (.i (.ofNat (nat_lit 0)))] [((nat_lit 0), (nat_lit 11), (odV v4)), ((nat_lit 11), (nat_lit 1), (odV v5))])) fun v6 => (.u (iRs (alSl [(.s []), (.i (.ofNat (nat_lit 0))), (.i (.ofNat (nat_lit 0))), (.i (.ofNat (nat_lit 0))), (.i (.ofNat (nat_lit 0))), (.b false), (.sc (.slice none (nat_lit 0) (nat_lit 0))), (.s []), (.sc (.slice none (nat_lit 0) (nat_lit 0))), (.sc (.slice none (nat_lit 0) (nat_lit 0))), (.sc (.slice none (nat_lit 0) (nat_lit 0))), (.i (.ofNat (nat_lit 0)))] (nat_lit 1) (nat_lit 12) [((nat_lit 0), (nat_lit 12), (odV v6))])) fun v7 => (.x (iChk (iBuild (nat_lit 12) [(.s []), (.i (.ofNat (nat_lit 0))), (.i (.ofNat (nat_lit 0))), (.i (.ofNat (nat_lit 0))), (.i (.ofNat (nat_lit 0))), (.b false), (.sc (.slice none (nat_lit 0) (nat_lit 0))), (.s []), (.sc (.slice none (nat_lit 0) (nat_lit 0))), (.sc (.slice none (nat_lit 0) (nat_lit 0))), (.sc (.slice none (nat_lit 0) (nat_lit 0))), (.i (.ofNat (nat_lit 0)))] [((nat_lit 0), (nat_lit 11), (odV v4)), ((nat_lit 11), (nat_lit 1), (odV v5))]) v6) (.x (iChk (iLoad1 (odF .d0 .d4)) v5) (.x (iChk (iLoadN (nat_lit 11) (odV v3)) v4) (.x (iChk (iIdx (nat_lit 11) (odV v1) (odV v2)) v3) (.x (iChk (iLoad1 (odF .d0 .d4)) v2) (.x (iChk (iLoad1 (odF .d0 .d1)) v1) (.x (iChk (iLoad1 (odF .d0 .d2)) v0) (.x (iMt (alSl [(.s []), (.i (.ofNat (nat_lit 0))), (.i (.ofNat (nat_lit 0))), (.i (.ofNat (nat_lit 0))), (.i (.ofNat (nat_lit 0))), (.b false), (.sc (.slice none (nat_lit 0) (nat_lit 0))), (.s []), (.sc (.slice none (nat_lit 0) (nat_lit 0))), (.sc (.slice none (nat_lit 0) (nat_lit 0))), (.sc (.slice none (nat_lit 0) (nat_lit 0))), (.i (.ofNat (nat_lit 0)))] (nat_lit 1) (nat_lit 12) [((nat_lit 0), (nat_lit 12), (odV v6))]) v7) (.u (iEf (iAppend (nat_lit 12) (nat_lit 176) (odV v0) (odV v7))) fun v8 => (.u (iEf (iStore (nat_lit 1) (odF .d0 .d2) (odV v8))) fun v9 => .nil)))))))))))))))))))
 .skip)))), [(.d0, .d0), (.d0, .d1), (.d0, .d2)], []⟩
def c178 : CFn := ⟨(.seq (.reg (.g (iMove (odV (.b false))) .d0 .d2 .nil))
 (.seq (.reg (.u (iCall (nat_lit 186) [(odF .d0 .d0), (odF .d0 .d1)]) fun v7 => (.u (iCmp Tryz.prog geF .geq (nat_lit 3) (odV v7) (odV (.i (.ofNat (nat_lit 0))))) fun v8 => (.g (iMove (odV v8)) .d0 .d2 .nil))))
 .ret)), [(.d0, .d0), (.d0, .d1)], [.t (odF .d0 .d2)]⟩
def c179 : CFn := ⟨(.seq (.reg (.g (iBox (odF .d0 .d0)) .d0 .d2 (.g (iMove (odV (.b false))) .d0 .d3 .nil)))
 (.seq (.reg (.u (iFieldAddr (nat_lit 11) (odF .d0 .d2)) fun v4 => (.u (iLoad1 (odV v4)) fun v5 => (.u (iLoad1 (odF .d0 .d1)) fun v6 => (.u (iEq Tryz.prog false (nat_lit 3) (odV v5) (odV v6)) fun v7 => (.g (iMove (odV v7)) .d0 .d3 .nil))))))
 .ret)), [(.d0, .d0), (.d0, .d1)], [.t (odF .d0 .d3)]⟩
def c180 : CFn := ⟨(.seq (.reg (.g (iBox (odF .d0 .d0)) .d0 .d2 (.g (iMove (odV (.b false))) .d0 .d3 .nil)))
 (.seq (.reg (.u (iRd (iFieldAddr (nat_lit 0) (odF .d0 .d2))) fun v0 => (.u (iRd (iFieldAddr (nat_lit 10) (odV v0))) fun v1 => (.u (iRd (iLoad1 (odV v1))) fun v2 => (.u (iRd (iLenL (odV v2))) fun v3 => (.u (iRd (iLoad1 (odF .d0 .d1))) fun v4 => (.u (iRd (iIdx (nat_lit 12) (odV v4) (odV (.i (.ofNat (nat_lit 0)))))) fun v5 => (.u (iRd (iFieldAddr (nat_lit 0) (odV v5))) fun v6 => (.u (iRd (iFieldAddr (nat_lit 10) (odV v6))) fun v7 => (.u (iRd (iLoad1 (odV v7))) fun v8 => (.u (iRd (iLenL (odV v8))) fun v9 => (.u (iRd (iEq Tryz.prog true (nat_lit 3) (odV v3) (odV v9))) fun v10 => (.u (iRd (iMove (odV v10))) fun v11 => (.g (iMove (odV v11)) .d0 .d3 .nil))))))))))))))
 .ret)), [(.d0, .d0), (.d0, .d1)], [.t (odF .d0 .d3)]⟩
def c181 : CFn := ⟨(.seq (.reg (.g (iMove (odV (.sc (.slice none (nat_lit 0) (nat_lit 0))))) .d0 .d1 .nil))
 (.seq (.seq (.reg (.g (iEq Tryz.prog false (nat_lit 160) (odF .d0 .d0) (odV (.sc (.slice none (nat_lit 0) (nat_lit 0))))) .d0 .d2 .nil))
 (.cond (odF .d0 .d2) (.seq (.reg (.g (iMove (odV (.sc (.slice none (nat_lit 0) (nat_lit 0))))) .d0 .d1 .nil))
 .ret)
 .skip))
 (.seq (.reg (.u (iBuildSlice [] (nat_lit 0) (nat_lit 11) []) fun v5 => (.u (iAppend (nat_lit 11) (nat_lit 168) (odV v5) (odF .d0 .d0)) fun v7 => (.g (iMove (odV v7)) .d0 .d1 .nil))))
 .ret))), [(.d0, .d0)], [.t (odF .d0 .d1)]⟩
def c182 : CFn := ⟨(.seq (.reg (.g (iBox (odF .d0 .d0)) .d0 .d1 (.g (iNew (nat_lit 2) [(.sc (.slice none (nat_lit 0) (nat_lit 0))), (.b false)]) .d0 .d2 .nil)))
 (.seq (.reg (.u (iFieldAddr (nat_lit 1) (odF .d0 .d1)) fun v3 => (.u (iLoad1 (odV v3)) fun v4 => (.u (iBuild (nat_lit 1) [(.sc (.slice none (nat_lit 0) (nat_lit 0)))] [((nat_lit 0), (nat_lit 1), (odV v4))]) fun v5 => (.u (iFieldAddr (nat_lit 0) (odF .d0 .d1)) fun v6 => (.u (iLoad1 (odV v6)) fun v7 => (.u (iBuild (nat_lit 2) [(.sc (.slice none (nat_lit 0) (nat_lit 0))), (.b false)] [((nat_lit 0), (nat_lit 1), (odV v5)), ((nat_lit 1), (nat_lit 1), (odV v7))]) fun v8 => (.x (iStore (nat_lit 2) (odF .d0 .d2) (odV v8)) .nil))))))))
 .ret)), [(.d0, .d0)], [.cN (nat_lit 2) (odF .d0 .d2)]⟩
def c183 : CFn := ⟨(.seq (.reg (.g (iBox (odF .d0 .d0)) .d0 .d2 (.g (iBox (odF .d0 .d1)) .d0 .d3 (.g (iNew (nat_lit 2) [(.b false), (.sc (.slice none (nat_lit 0) (nat_lit 0)))]) .d0 .d4 .nil))))
 (.seq (.reg (.u (iRd (iLoadN (nat_lit 2) (odF .d0 .d2))) fun v0 => (.u (iRd (iLoadN (nat_lit 2) (odF .d0 .d3))) fun v1 => (.u (iEf (iCall (nat_lit 188) [(odV v1)])) fun v2 => (.x (iChk (iLoadN (nat_lit 2) (odF .d0 .d2)) v0) (.u (iRs (alSl [(.b false), (.sc (.slice none (nat_lit 0) (nat_lit 0))), (.b false), (.sc (.slice none (nat_lit 0) (nat_lit 0)))] (nat_lit 2) (nat_lit 2) [((nat_lit 0), (nat_lit 2), (odV v0)), ((nat_lit 2), (nat_lit 2), (odV v2))])) fun v3 => (.x (iChk (iLoadN (nat_lit 2) (odF .d0 .d2)) v0) (.x (iMt (alSl [(.b false), (.sc (.slice none (nat_lit 0) (nat_lit 0))), (.b false), (.sc (.slice none (nat_lit 0) (nat_lit 0)))] (nat_lit 2) (nat_lit 2) [((nat_lit 0), (nat_lit 2), (odV v0)), ((nat_lit 2), (nat_lit 2), (odV v2))]) v3) (.u (iEf (iCall (nat_lit 187) [(odV v3)])) fun v4 => (.u (iEf (iStore (nat_lit 2) (odF .d0 .d4) (odV v4))) fun v5 => .nil))))))))))
 .ret)), [(.d0, .d0), (.d0, .d1)], [.cN (nat_lit 2) (odF .d0 .d4)]⟩
def c184 : CFn := ⟨(.seq (.reg (.g (iBox (odF .d0 .d0)) .d0 .d1 (.g (iMove (odV (.i (.ofNat (nat_lit 0))))) .d0 .d2 .nil)))
 (.seq (.block (nat_lit 0) (.seq (.reg (.u (iFieldAddr (nat_lit 0) (odF .d0 .d1)) fun v4 => (.u (iLoadN (nat_lit 1) (odV v4)) fun v5 => (.u (iCall (nat_lit 189) [(odV v5)]) fun v6 => (.g (iMove (odV v6)) .d0 .d3 .nil)))))
 (.cond (odF .d0 .d3) (.seq (.reg (.g (iMove (odV (.i (.ofNat (nat_lit 0))))) .d0 .d2 .nil))
 .ret)
 (.seq (.reg (.u (iFieldAddr (nat_lit 1) (odF .d0 .d1)) fun v8 => (.u (iLoad1 (odV v8)) fun v9 => (.g (iMove (odV v9)) .d0 .d4 .nil))))
 (.cond (odF .d0 .d4) (.seq (.reg (.g (iMove (odV (.i (.negSucc (nat_lit 0))))) .d0 .d2 .nil))
 .ret)
 .skip)))))
 (.seq (.reg (.g (iMove (odV (.i (.ofNat (nat_lit 1))))) .d0 .d2 .nil))
 .ret))), [(.d0, .d0)], [.t (odF .d0 .d2)]⟩
def c185 : CFn := ⟨(.seq (.reg (.g (iBox (odF .d0 .d0)) .d0 .d2 (.g (iMove (odV (.b false))) .d0 .d3 .nil)))
 (.seq (.reg (.u (iFieldAddr (nat_lit 0) (odF .d0 .d2)) fun v4 => (.u (iLoad1 (odV v4)) fun v5 => (.u (iFieldAddr (nat_lit 4) (odF .d0 .d1)) fun v6 => (.u (iLoad1 (odV v6)) fun v7 => (.u (iEq Tryz.prog false (nat_lit 9) (odV v5) (odV v7)) fun v8 => (.cu (odV v8) true (iFieldAddr (nat_lit 1) (odF .d0 .d2)) fun v10 => (.cu (odV v8) true (iLoad1 (odV v10)) fun v11 => (.cu (odV v8) true (iFieldAddr (nat_lit 1) (odF .d0 .d1)) fun v12 => (.cu (odV v8) true (iLoad1 (odV v12)) fun v13 => (.cu (odV v8) true (iEq Tryz.prog false (nat_lit 3) (odV v11) (odV v13)) fun v14 => (.u (iPick (odV v8) (odV v14) (odV (.b false))) fun v15 => (.g (iMove (odV v15)) .d0 .d3 .nil)))))))))))))
 .ret)), [(.d0, .d0), (.d0, .d1)], [.t (odF .d0 .d3)]⟩
def c186 : CFn := ⟨(.seq (.reg (.g (iMove (odV (.i (.ofNat (nat_lit 0))))) .d0 .d2 .nil))
 (.seq (.seq (.reg (.g (iLenL (odF .d0 .d0)) .d0 .d4 (.g (iMove (odV (.i (.ofNat (nat_lit 0))))) .d0 .d5 .nil)))
 (.block (nat_lit 0) (.loop (.seq (.reg (.g (iCmp Tryz.prog ltF .lss (nat_lit 3) (odF .d0 .d5) (odF .d0 .d4)) .d0 .d6 .nil))
 (.seq (.cond (odF .d0 .d6) .skip
 (.exit (nat_lit 0)))
 (.seq (.block (nat_lit 1) (.seq (.reg (.g (iMove (odF .d0 .d5)) .d0 .d3 .nil))
 (.seq (.reg (.u (iIdx (nat_lit 12) (odF .d0 .d0) (odF .d0 .d3)) fun v14 => (.u (iLoadN (nat_lit 12) (odV v14)) fun v15 => (.g (iCallV Tryz.prog (odF .d0 .d1) [(odV v15)]) .d0 .d7 .nil))))
 (.cond (odF .d0 .d7) (.seq (.reg (.g (iMove (odF .d0 .d3)) .d0 .d2 .nil))
 .ret)
 .skip))))
 (.reg (.u (iInt Tryz.prog addF .add (nat_lit 3) (odF .d0 .d5) (odV (.i (.ofNat (nat_lit 1))))) fun v18 => (.g (iMove (odV v18)) .d0 .d5 .nil)))))))))
 (.seq (.reg (.g (iMove (odV (.i (.negSucc (nat_lit 0))))) .d0 .d2 .nil))
 .ret))), [(.d0, .d0), (.d0, .d1)], [.t (odF .d0 .d2)]⟩
def c187 : CFn := ⟨(.seq (.reg (.g (iNew (nat_lit 2) [(.b false), (.sc (.slice none (nat_lit 0) (nat_lit 0)))]) .d0 .d1 .nil))
 (.seq (.reg (.u (iBuild (nat_lit 2) [(.sc (.slice none (nat_lit 0) (nat_lit 0))), (.b false)] []) fun v6 => (.g (iNew (nat_lit 2) [(.sc (.slice none (nat_lit 0) (nat_lit 0))), (.b false)]) .d0 .d2 (.x (iStore (nat_lit 2) (odF .d0 .d2) (odV v6)) .nil))))
 (.seq (.seq (.reg (.g (iMove (odF .d0 .d0)) .d0 .d4 (.g (iLenL (odF .d0 .d4)) .d0 .d5 (.g (iMove (odV (.i (.ofNat (nat_lit 0))))) .d0 .d6 .nil))))
 (.block (nat_lit 0) (.loop (.seq (.reg (.g (iCmp Tryz.prog ltF .lss (nat_lit 3) (odF .d0 .d6) (odF .d0 .d5)) .d0 .d7 .nil))
 (.seq (.cond (odF .d0 .d7) .skip
 (.exit (nat_lit 0)))
 (.seq (.block (nat_lit 1) (.seq (.reg (.u (iIdx (nat_lit 2) (odF .d0 .d4) (odF .d0 .d6)) fun v11 => (.u (iLoadN (nat_lit 2) (odV v11)) fun v12 => (.g (iNew (nat_lit 2) [(.b false), (.sc (.slice none (nat_lit 0) (nat_lit 0)))]) .d0 .d3 (.x (iStore (nat_lit 2) (odF .d0 .d3) (odV v12)) .nil)))))
 (.reg (.u (iRd (iLoadN (nat_lit 2) (odF .d0 .d2))) fun v0 => (.u (iRd (iLoadN (nat_lit 2) (odF .d0 .d3))) fun v1 => (.u (iEf (iCall (nat_lit 182) [(odV v1)])) fun v2 => (.x (iChk (iLoadN (nat_lit 2) (odF .d0 .d2)) v0) (.u (iEf (iCall (nat_lit 190) [(odV v0), (odV v2)])) fun v3 => (.u (iEf (iStore (nat_lit 2) (odF .d0 .d2) (odV v3))) fun v4 => .nil)))))))))
 (.reg (.u (iInt Tryz.prog addF .add (nat_lit 3) (odF .d0 .d6) (odV (.i (.ofNat (nat_lit 1))))) fun v17 => (.g (iMove (odV v17)) .d0 .d6 .nil)))))))))
 (.seq (.reg (.u (iLoadN (nat_lit 2) (odF .d0 .d2)) fun v18 => (.u (iCall (nat_lit 191) [(odV v18)]) fun v19 => (.x (iStore (nat_lit 2) (odF .d0 .d1) (odV v19)) .nil))))
 .ret)))), [(.d0, .d0)], [.cN (nat_lit 2) (odF .d0 .d1)]⟩
def c188 : CFn := ⟨(.seq (.reg (.g (iBox (odF .d0 .d0)) .d0 .d1 (.g (iNew (nat_lit 2) [(.b false), (.sc (.slice none (nat_lit 0) (nat_lit 0)))]) .d0 .d2 .nil)))
 (.seq (.reg (.u (iLoadN (nat_lit 2) (odF .d0 .d1)) fun v4 => (.u (iCall (nat_lit 182) [(odV v4)]) fun v5 => (.g (iNew (nat_lit 2) [(.sc (.slice none (nat_lit 0) (nat_lit 0))), (.b false)]) .d0 .d3 (.x (iStore (nat_lit 2) (odF .d0 .d3) (odV v5)) .nil)))))
 (.seq (.reg (.u (iFieldAddr (nat_lit 1) (odF .d0 .d3)) fun v6 => (.u (iLoad1 (odV v6)) fun v7 => (.u (iNot (odV v7)) fun v8 => (.u (iFieldAddr (nat_lit 1) (odF .d0 .d3)) fun v9 => (.x (iStore (nat_lit 1) (odV v9) (odV v8)) .nil))))))
 (.seq (.reg (.u (iLoadN (nat_lit 2) (odF .d0 .d3)) fun v10 => (.u (iCall (nat_lit 191) [(odV v10)]) fun v11 => (.x (iStore (nat_lit 2) (odF .d0 .d2) (odV v11)) .nil))))
 .ret)))), [(.d0, .d0)], [.cN (nat_lit 2) (odF .d0 .d2)]⟩
def c189 : CFn := ⟨(.seq (.reg (.g (iBox (odF .d0 .d0)) .d0 .d1 (.g (iMove (odV (.b false))) .d0 .d2 .nil)))
 (.seq (.reg (.u (iLoadN (nat_lit 1) (odF .d0 .d1)) fun v3 => (.u (iCall (nat_lit 192) [(odV v3)]) fun v4 => (.u (iEq Tryz.prog false (nat_lit 3) (odV v4) (odV (.i (.ofNat (nat_lit 0))))) fun v5 => (.g (iMove (odV v5)) .d0 .d2 .nil)))))
 .ret)), [(.d0, .d0)], [.t (odF .d0 .d2)]⟩
def c190 : CFn := ⟨(.seq (.reg (.g (iBox (odF .d0 .d0)) .d0 .d2 (.g (iBox (odF .d0 .d1)) .d0 .d3 (.g (iNew (nat_lit 2) [(.sc (.slice none (nat_lit 0) (nat_lit 0))), (.b false)]) .d0 .d4 .nil))))
 (.seq (.block (nat_lit 0) (.seq (.reg (.u (iFieldAddr (nat_lit 1) (odF .d0 .d2)) fun v8 => (.u (iLoad1 (odV v8)) fun v9 => (.u (iFieldAddr (nat_lit 1) (odF .d0 .d3)) fun v10 => (.u (iLoad1 (odV v10)) fun v11 => (.u (iEq Tryz.prog false (nat_lit 4) (odV v9) (odV v11)) fun v12 => (.g (iMove (odV v12)) .d0 .d6 .nil)))))))
 (.cond (odF .d0 .d6) (.seq (.reg (.u (iRd (iFieldAddr (nat_lit 0) (odF .d0 .d2))) fun v0 => (.u (iRd (iFieldAddr (nat_lit 0) (odV v0))) fun v1 => (.u (iRd (iLoad1 (odV v1))) fun v2 => (.u (iRd (iFieldAddr (nat_lit 0) (odF .d0 .d3))) fun v3 => (.u (iRd (iFieldAddr (nat_lit 0) (odV v3))) fun v4 => (.u (iRd (iLoad1 (odV v4))) fun v5 => (.u (iRd (iFieldAddr (nat_lit 1) (odF .d0 .d2))) fun v8 => (.u (iRd (iLoad1 (odV v8))) fun v9 => (.u (iEf (iCall (nat_lit 193) [(odV v2), (odV v5), (odV (.sc (.slice none (nat_lit 0) (nat_lit 0))))])) fun v6 => (.x (iChk (iLoad1 (odV v8)) v9) (.x (iChk (iFieldAddr (nat_lit 1) (odF .d0 .d2)) v8) (.u (iRd (iBuild (nat_lit 1) [(.sc (.slice none (nat_lit 0) (nat_lit 0)))] [((nat_lit 0), (nat_lit 1), (odV v6))])) fun v7 => (.u (iRd (iBuild (nat_lit 2) [(.sc (.slice none (nat_lit 0) (nat_lit 0))), (.b false)] [((nat_lit 0), (nat_lit 1), (odV v7)), ((nat_lit 1), (nat_lit 1), (odV v9))])) fun v10 => (.u (iEf (iStore (nat_lit 2) (odF .d0 .d4) (odV v10))) fun v11 => .nil)))))))))))))))
 .ret)
 (.seq (.reg (.u (iFieldAddr (nat_lit 0) (odF .d0 .d2)) fun v25 => (.u (iLoadN (nat_lit 1) (odV v25)) fun v26 => (.u (iFieldAddr (nat_lit 0) (odF .d0 .d3)) fun v27 => (.u (iLoadN (nat_lit 1) (odV v27)) fun v28 => (.u (iCall (nat_lit 194) [(odV v26), (odV v28)]) fun v29 => (.u (iCmp Tryz.prog ltF .lss (nat_lit 3) (odV v29) (odV (.i (.ofNat (nat_lit 0))))) fun v30 => (.g (iMove (odV v30)) .d0 .d7 .nil))))))))
 (.cond (odF .d0 .d7) (.reg (.u (iLoadN (nat_lit 2) (odF .d0 .d3)) fun v31 => (.u (iLoadN (nat_lit 2) (odF .d0 .d2)) fun v32 => (.x (iStore (nat_lit 2) (odF .d0 .d2) (odV v31)) (.x (iStore (nat_lit 2) (odF .d0 .d3) (odV v32)) .nil)))))
 .skip)))))
 (.seq (.reg (.u (iFieldAddr (nat_lit 0) (odF .d0 .d2)) fun v34 => (.u (iFieldAddr (nat_lit 0) (odV v34)) fun v35 => (.u (iLoad1 (odV v35)) fun v36 => (.u (iFieldAddr (nat_lit 0) (odF .d0 .d3)) fun v37 => (.u (iFieldAddr (nat_lit 0) (odV v37)) fun v38 => (.u (iLoad1 (odV v38)) fun v39 => (.u (iCall (nat_lit 195) [(odV v36), (odV v39)]) fun v40 => (.u (iExtract (nat_lit 0) (odV v40)) fun v41 => (.u (iExtract (nat_lit 1) (odV v40)) fun v42 => (.g (iMove (odV v41)) .d0 .d5 (.u (iMove (odV v42)) fun v6 => .nil))))))))))))
 (.seq (.reg (.u (iBuild (nat_lit 1) [(.sc (.slice none (nat_lit 0) (nat_lit 0)))] [((nat_lit 0), (nat_lit 1), (odF .d0 .d5))]) fun v44 => (.u (iFieldAddr (nat_lit 1) (odF .d0 .d2)) fun v45 => (.u (iLoad1 (odV v45)) fun v46 => (.u (iBuild (nat_lit 2) [(.sc (.slice none (nat_lit 0) (nat_lit 0))), (.b false)] [((nat_lit 0), (nat_lit 1), (odV v44)), ((nat_lit 1), (nat_lit 1), (odV v46))]) fun v47 => (.x (iStore (nat_lit 2) (odF .d0 .d4) (odV v47)) .nil))))))
 .ret)))), [(.d0, .d0), (.d0, .d1)], [.cN (nat_lit 2) (odF .d0 .d4)]⟩
def c191 : CFn := ⟨(.seq (.reg (.g (iBox (odF .d0 .d0)) .d0 .d1 (.g (iNew (nat_lit 2) [(.b false), (.sc (.slice none (nat_lit 0) (nat_lit 0)))]) .d0 .d2 .nil)))
 (.seq (.seq (.reg (.u (iFieldAddr (nat_lit 0) (odF .d0 .d1)) fun v3 => (.u (iLoadN (nat_lit 1) (odV v3)) fun v4 => (.g (iCall (nat_lit 189) [(odV v4)]) .d0 .d3 .nil))))
 (.cond (odF .d0 .d3) (.seq (.reg (.u (iBuild (nat_lit 2) [(.b false), (.sc (.slice none (nat_lit 0) (nat_lit 0)))] []) fun v6 => (.x (iStore (nat_lit 2) (odF .d0 .d2) (odV v6)) .nil)))
 .ret)
 .skip))
 (.seq (.reg (.u (iRd (iFieldAddr (nat_lit 1) (odF .d0 .d1))) fun v0 => (.u (iRd (iLoad1 (odV v0))) fun v1 => (.u (iRd (iFieldAddr (nat_lit 0) (odF .d0 .d1))) fun v2 => (.u (iRd (iFieldAddr (nat_lit 0) (odV v2))) fun v3 => (.u (iRd (iLoad1 (odV v3))) fun v4 => (.u (iEf (iCall (nat_lit 193) [(odV v4), (odV (.sc (.slice none (nat_lit 0) (nat_lit 0)))), (odV (.sc (.slice none (nat_lit 0) (nat_lit 0))))])) fun v5 => (.x (iChk (iLoad1 (odV v0)) v1) (.x (iChk (iFieldAddr (nat_lit 1) (odF .d0 .d1)) v0) (.u (iRd (iBuild (nat_lit 2) [(.b false), (.sc (.slice none (nat_lit 0) (nat_lit 0)))] [((nat_lit 0), (nat_lit 1), (odV v1)), ((nat_lit 1), (nat_lit 1), (odV v5))])) fun v6 => (.u (iEf (iStore (nat_lit 2) (odF .d0 .d2) (odV v6))) fun v7 => .nil)))))))))))
 .ret))), [(.d0, .d0)], [.cN (nat_lit 2) (odF .d0 .d2)]⟩
def c192 : CFn := ⟨(.seq (.reg (.g (iBox (odF .d0 .d0)) .d0 .d1 (.g (iMove (odV (.i (.ofNat (nat_lit 0))))) .d0 .d2 .nil)))
 (.seq (.reg (.u (iFieldAddr (nat_lit 0) (odF .d0 .d1)) fun v3 => (.u (iLoad1 (odV v3)) fun v4 => (.u (iCall (nat_lit 196) [(odV v4)]) fun v5 => (.g (iMove (odV v5)) .d0 .d2 .nil)))))
 .ret)), [(.d0, .d0)], [.t (odF .d0 .d2)]⟩
def c193 : CFn := ⟨(.seq (.reg (.g (iMove (odV (.sc (.slice none (nat_lit 0) (nat_lit 0))))) .d0 .d3 .nil))
 (.seq (.reg (.u (iCall (nat_lit 197) [(odF .d0 .d0), (odF .d0 .d1)]) fun v12 => (.g (iMove (odV v12)) .d0 .d4 .nil)))
 (.seq (.seq (.reg (.g (iMove (odF .d0 .d2)) .d0 .d6 (.g (iLenL (odF .d0 .d6)) .d0 .d7 (.g (iMove (odV (.i (.ofNat (nat_lit 0))))) .d1 .d0 .nil))))
 (.block (nat_lit 0) (.loop (.seq (.reg (.g (iCmp Tryz.prog ltF .lss (nat_lit 3) (odF .d1 .d0) (odF .d0 .d7)) .d1 .d1 .nil))
 (.seq (.cond (odF .d1 .d1) .skip
 (.exit (nat_lit 0)))
 (.seq (.block (nat_lit 1) (.seq (.reg (.u (iIdx (nat_lit 1) (odF .d0 .d6) (odF .d1 .d0)) fun v17 => (.u (iLoad1 (odV v17)) fun v18 => (.g (iMove (odV v18)) .d0 .d5 .nil))))
 (.reg (.u (iMove (odF .d0 .d4)) fun v19 => (.u (iCall (nat_lit 197) [(odV v19), (odF .d0 .d5)]) fun v21 => (.g (iMove (odV v21)) .d0 .d4 .nil))))))
 (.reg (.u (iInt Tryz.prog addF .add (nat_lit 3) (odF .d1 .d0) (odV (.i (.ofNat (nat_lit 1))))) fun v22 => (.g (iMove (odV v22)) .d1 .d0 .nil)))))))))
 (.seq (.reg (.g (iMove (odF .d0 .d4)) .d0 .d3 .nil))
 .ret)))), [(.d0, .d0), (.d0, .d1), (.d0, .d2)], [.t (odF .d0 .d3)]⟩
def c194 : CFn := ⟨(.seq (.reg (.g (iBox (odF .d0 .d0)) .d0 .d2 (.g (iBox (odF .d0 .d1)) .d0 .d3 (.g (iMove (odV (.i (.ofNat (nat_lit 0))))) .d0 .d4 .nil))))
 (.seq (.reg (.u (iFieldAddr (nat_lit 0) (odF .d0 .d2)) fun v5 => (.u (iLoad1 (odV v5)) fun v6 => (.u (iFieldAddr (nat_lit 0) (odF .d0 .d3)) fun v7 => (.u (iLoad1 (odV v7)) fun v8 => (.u (iCall (nat_lit 198) [(odV v6), (odV v8)]) fun v9 => (.g (iMove (odV v9)) .d0 .d4 .nil)))))))
 .ret)), [(.d0, .d0), (.d0, .d1)], [.t (odF .d0 .d4)]⟩
def c195 : CFn := ⟨(.seq (.reg (.g (iMove (odV (.sc (.slice none (nat_lit 0) (nat_lit 0))))) .d0 .d2 (.g (iMove (odV (.b false))) .d0 .d3 .nil)))
 (.seq (.seq (.reg (.u (iCall (nat_lit 198) [(odF .d0 .d0), (odF .d0 .d1)]) fun v14 => (.g (iCmp Tryz.prog ltF .lss (nat_lit 3) (odV v14) (odV (.i (.ofNat (nat_lit 0))))) .d1 .d2 .nil)))
 (.cond (odF .d1 .d2) (.seq (.reg (.g (iMove (odV (.sc (.slice none (nat_lit 0) (nat_lit 0))))) .d0 .d2 (.g (iMove (odV (.b false))) .d0 .d3 .nil)))
 .ret)
 .skip))
 (.seq (.reg (.u (iMove (odF .d0 .d0)) fun v16 => (.u (iCall (nat_lit 199) [(odV v16)]) fun v17 => (.u (iMove (odF .d0 .d1)) fun v18 => (.u (iCall (nat_lit 199) [(odV v18)]) fun v19 => (.g (iMove (odV v17)) .d0 .d0 (.g (iMove (odV v19)) .d0 .d1 .nil)))))))
 (.seq (.reg (.u (iLenL (odF .d0 .d0)) fun v21 => (.u (iMake (nat_lit 1) (nat_lit 4) [(.k .u32 (.ofNat (nat_lit 0)))] (odV v21) (odV v21)) fun v22 => (.g (iMove (odV v22)) .d0 .d4 .nil))))
 (.seq (.reg (.g (iMove (odV (.k .u64 (.ofNat (nat_lit 0))))) .d0 .d5 .nil))
 (.seq (.seq (.reg (.g (iMove (odF .d0 .d0)) .d1 .d3 (.g (iLenL (odF .d1 .d3)) .d1 .d4 (.g (iMove (odV (.i (.ofNat (nat_lit 0))))) .d1 .d5 .nil))))
 (.block (nat_lit 0) (.loop (.seq (.reg (.g (iCmp Tryz.prog ltF .lss (nat_lit 3) (odF .d1 .d5) (odF .d1 .d4)) .d1 .d6 .nil))
 (.seq (.cond (odF .d1 .d6) .skip
 (.exit (nat_lit 0)))
 (.seq (.block (nat_lit 1) (.seq (.reg (.u (iIdx (nat_lit 1) (odF .d1 .d3) (odF .d1 .d5)) fun v28 => (.u (iLoad1 (odV v28)) fun v29 => (.g (iMove (odF .d1 .d5)) .d0 .d6 (.g (iMove (odV v29)) .d0 .d7 .nil)))))
 (.seq (.reg (.g (iMove (odF .d0 .d5)) .d1 .d0 .nil))
 (.seq (.seq (.reg (.u (iLenL (odF .d0 .d1)) fun v33 => (.g (iCmp Tryz.prog ltF .lss (nat_lit 3) (odF .d0 .d6) (odV v33)) .d1 .d7 .nil)))
 (.cond (odF .d1 .d7) (.reg (.u (iMove (odF .d1 .d0)) fun v35 => (.u (iIdx (nat_lit 1) (odF .d0 .d1) (odF .d0 .d6)) fun v38 => (.u (iLoad1 (odV v38)) fun v39 => (.u (iPure1 Tryz.prog (Go.convert (nat_lit 86) (nat_lit 228)) (odV v39)) fun v40 => (.u (iInt Tryz.prog addF .add (nat_lit 228) (odV v35) (odV v40)) fun v41 => (.g (iMove (odV v41)) .d1 .d0 .nil)))))))
 .skip))
 (.seq (.reg (.u (iPure1 Tryz.prog (Go.convert (nat_lit 86) (nat_lit 228)) (odF .d0 .d7)) fun v43 => (.u (iInt Tryz.prog subF .sub (nat_lit 228) (odV v43) (odF .d1 .d0)) fun v45 => (.g (iMove (odV v45)) .d1 .d1 .nil))))
 (.seq (.reg (.u (iPure1 Tryz.prog (Go.convert (nat_lit 228) (nat_lit 86)) (odF .d1 .d1)) fun v49 => (.u (iIdx (nat_lit 1) (odF .d0 .d4) (odF .d0 .d6)) fun v50 => (.x (iStore (nat_lit 1) (odV v50) (odV v49)) .nil))))
 (.reg (.u (iBin Tryz.prog .shr (nat_lit 228) (odF .d1 .d1) (odV (.k .u64 (.ofNat (nat_lit 63))))) fun v52 => (.g (iMove (odV v52)) .d0 .d5 .nil)))))))))
 (.reg (.u (iInt Tryz.prog addF .add (nat_lit 3) (odF .d1 .d5) (odV (.i (.ofNat (nat_lit 1))))) fun v53 => (.g (iMove (odV v53)) .d1 .d5 .nil)))))))))
 (.seq (.reg (.u (iCall (nat_lit 199) [(odF .d0 .d4)]) fun v55 => (.g (iMove (odV v55)) .d0 .d2 (.g (iMove (odV (.b true))) .d0 .d3 .nil))))
 .ret))))))), [(.d0, .d0), (.d0, .d1)], [.t (odF .d0 .d2), .t (odF .d0 .d3)]⟩
def c196 : CFn := ⟨(.seq (.reg (.g (iMove (odV (.i (.ofNat (nat_lit 0))))) .d0 .d1 .nil))
 (.seq (.reg (.u (iMove (odF .d0 .d0)) fun v3 => (.u (iCall (nat_lit 199) [(odV v3)]) fun v4 => (.g (iMove (odV v4)) .d0 .d0 .nil))))
 (.seq (.seq (.reg (.u (iLenL (odF .d0 .d0)) fun v6 => (.g (iEq Tryz.prog false (nat_lit 3) (odV v6) (odV (.i (.ofNat (nat_lit 0))))) .d0 .d2 .nil)))
 (.cond (odF .d0 .d2) (.seq (.reg (.g (iMove (odV (.i (.ofNat (nat_lit 0))))) .d0 .d1 .nil))
 .ret)
 .skip))
 (.seq (.reg (.u (iLenL (odF .d0 .d0)) fun v9 => (.u (iInt Tryz.prog subF .sub (nat_lit 3) (odV v9) (odV (.i (.ofNat (nat_lit 1))))) fun v10 => (.u (iInt Tryz.prog mulF .mul (nat_lit 3) (odV (.i (.ofNat (nat_lit 32)))) (odV v10)) fun v11 => (.u (iLenL (odF .d0 .d0)) fun v14 => (.u (iInt Tryz.prog subF .sub (nat_lit 3) (odV v14) (odV (.i (.ofNat (nat_lit 1))))) fun v15 => (.u (iIdx (nat_lit 1) (odF .d0 .d0) (odV v15)) fun v16 => (.u (iLoad1 (odV v16)) fun v17 => (.u (iCall (nat_lit 200) [(odV v17)]) fun v18 => (.u (iInt Tryz.prog addF .add (nat_lit 3) (odV v11) (odV v18)) fun v19 => (.g (iMove (odV v19)) .d0 .d1 .nil)))))))))))
 .ret)))), [(.d0, .d0)], [.t (odF .d0 .d1)]⟩
def c197 : CFn := ⟨(.seq (.reg (.g (iMove (odV (.sc (.slice none (nat_lit 0) (nat_lit 0))))) .d0 .d2 .nil))
 (.seq (.seq (.reg (.u (iLenL (odF .d0 .d0)) fun v10 => (.u (iLenL (odF .d0 .d1)) fun v12 => (.g (iCmp Tryz.prog ltF .lss (nat_lit 3) (odV v10) (odV v12)) .d0 .d7 .nil))))
 (.cond (odF .d0 .d7) (.reg (.u (iMove (odF .d0 .d1)) fun v14 => (.u (iMove (odF .d0 .d0)) fun v15 => (.g (iMove (odV v14)) .d0 .d0 (.g (iMove (odV v15)) .d0 .d1 .nil)))))
 .skip))
 (.seq (.reg (.u (iLenL (odF .d0 .d0)) fun v17 => (.u (iInt Tryz.prog addF .add (nat_lit 3) (odV v17) (odV (.i (.ofNat (nat_lit 1))))) fun v18 => (.u (iMake (nat_lit 1) (nat_lit 4) [(.k .u32 (.ofNat (nat_lit 0)))] (odV v18) (odV v18)) fun v19 => (.g (iMove (odV v19)) .d0 .d3 .nil)))))
 (.seq (.reg (.g (iMove (odV (.k .u64 (.ofNat (nat_lit 0))))) .d0 .d4 .nil))
 (.seq (.seq (.reg (.g (iMove (odF .d0 .d0)) .d1 .d0 (.g (iLenL (odF .d1 .d0)) .d1 .d1 (.g (iMove (odV (.i (.ofNat (nat_lit 0))))) .d1 .d2 .nil))))
 (.block (nat_lit 0) (.loop (.seq (.reg (.g (iCmp Tryz.prog ltF .lss (nat_lit 3) (odF .d1 .d2) (odF .d1 .d1)) .d1 .d3 .nil))
 (.seq (.cond (odF .d1 .d3) .skip
 (.exit (nat_lit 0)))
 (.seq (.block (nat_lit 1) (.seq (.reg (.u (iIdx (nat_lit 1) (odF .d1 .d0) (odF .d1 .d2)) fun v25 => (.u (iLoad1 (odV v25)) fun v26 => (.g (iMove (odF .d1 .d2)) .d0 .d5 (.g (iMove (odV v26)) .d0 .d6 .nil)))))
 (.seq (.reg (.u (iMove (odF .d0 .d4)) fun v27 => (.u (iPure1 Tryz.prog (Go.convert (nat_lit 86) (nat_lit 228)) (odF .d0 .d6)) fun v29 => (.u (iInt Tryz.prog addF .add (nat_lit 228) (odV v27) (odV v29)) fun v30 => (.g (iMove (odV v30)) .d0 .d4 .nil)))))
 (.seq (.seq (.reg (.u (iLenL (odF .d0 .d1)) fun v33 => (.g (iCmp Tryz.prog ltF .lss (nat_lit 3) (odF .d0 .d5) (odV v33)) .d1 .d4 .nil)))
 (.cond (odF .d1 .d4) (.reg (.u (iMove (odF .d0 .d4)) fun v35 => (.u (iIdx (nat_lit 1) (odF .d0 .d1) (odF .d0 .d5)) fun v38 => (.u (iLoad1 (odV v38)) fun v39 => (.u (iPure1 Tryz.prog (Go.convert (nat_lit 86) (nat_lit 228)) (odV v39)) fun v40 => (.u (iInt Tryz.prog addF .add (nat_lit 228) (odV v35) (odV v40)) fun v41 => (.g (iMove (odV v41)) .d0 .d4 .nil)))))))
 .skip))
 (.seq (.reg (.u (iPure1 Tryz.prog (Go.convert (nat_lit 228) (nat_lit 86)) (odF .d0 .d4)) fun v45 => (.u (iIdx (nat_lit 1) (odF .d0 .d3) (odF .d0 .d5)) fun v46 => (.x (iStore (nat_lit 1) (odV v46) (odV v45)) .nil))))
 (.reg (.u (iMove (odF .d0 .d4)) fun v47 => (.u (iBin Tryz.prog .shr (nat_lit 228) (odV v47) (odV (.k .u64 (.ofNat (nat_lit 32))))) fun v48 => (.g (iMove (odV v48)) .d0 .d4 .nil)))))))))
 (.reg (.u (iInt Tryz.prog addF .add (nat_lit 3) (odF .d1 .d2) (odV (.i (.ofNat (nat_lit 1))))) fun v49 => (.g (iMove (odV v49)) .d1 .d2 .nil)))))))))
 (.seq (.reg (.u (iLenL (odF .d0 .d0)) fun v52 => (.u (iPure1 Tryz.prog (Go.convert (nat_lit 228) (nat_lit 86)) (odF .d0 .d4)) fun v54 => (.u (iIdx (nat_lit 1) (odF .d0 .d3) (odV v52)) fun v55 => (.x (iStore (nat_lit 1) (odV v55) (odV v54)) .nil)))))
 (.seq (.reg (.u (iCall (nat_lit 199) [(odF .d0 .d3)]) fun v57 => (.g (iMove (odV v57)) .d0 .d2 .nil)))
 .ret))))))), [(.d0, .d0), (.d0, .d1)], [.t (odF .d0 .d2)]⟩
def c198 : CFn := ⟨(.seq (.reg (.g (iMove (odV (.i (.ofNat (nat_lit 0))))) .d0 .d2 .nil))
 (.seq (.reg (.u (iMove (odF .d0 .d0)) fun v6 => (.u (iCall (nat_lit 199) [(odV v6)]) fun v7 => (.u (iMove (odF .d0 .d1)) fun v8 => (.u (iCall (nat_lit 199) [(odV v8)]) fun v9 => (.g (iMove (odV v7)) .d0 .d0 (.g (iMove (odV v9)) .d0 .d1 .nil)))))))
 (.seq (.block (nat_lit 0) (.seq (.reg (.u (iLenL (odF .d0 .d0)) fun v12 => (.u (iLenL (odF .d0 .d1)) fun v14 => (.u (iCmp Tryz.prog ltF .lss (nat_lit 3) (odV v12) (odV v14)) fun v15 => (.g (iMove (odV v15)) .d0 .d4 .nil)))))
 (.cond (odF .d0 .d4) (.seq (.reg (.g (iMove (odV (.i (.negSucc (nat_lit 0))))) .d0 .d2 .nil))
 .ret)
 (.seq (.reg (.u (iLenL (odF .d0 .d0)) fun v18 => (.u (iLenL (odF .d0 .d1)) fun v20 => (.u (iCmp Tryz.prog gtF .gtr (nat_lit 3) (odV v18) (odV v20)) fun v21 => (.g (iMove (odV v21)) .d0 .d5 .nil)))))
 (.cond (odF .d0 .d5) (.seq (.reg (.g (iMove (odV (.i (.ofNat (nat_lit 1))))) .d0 .d2 .nil))
 .ret)
 .skip)))))
 (.seq (.seq (.reg (.u (iLenL (odF .d0 .d0)) fun v23 => (.u (iInt Tryz.prog subF .sub (nat_lit 3) (odV v23) (odV (.i (.ofNat (nat_lit 1))))) fun v24 => (.g (iMove (odV v24)) .d0 .d3 .nil))))
 (.block (nat_lit 1) (.loop (.seq (.seq (.reg (.g (iCmp Tryz.prog geF .geq (nat_lit 3) (odF .d0 .d3) (odV (.i (.ofNat (nat_lit 0))))) .d0 .d6 .nil))
 (.cond (odF .d0 .d6) .skip
 (.exit (nat_lit 1))))
 (.seq (.block (nat_lit 2) (.block (nat_lit 3) (.seq (.reg (.u (iRd (iMove (odF .d0 .d0))) fun v0 => (.u (iRd (iMove (odF .d0 .d3))) fun v1 => (.u (iRd (iIdx (nat_lit 1) (odV v0) (odV v1))) fun v2 => (.u (iRd (iLoad1 (odV v2))) fun v3 => (.u (iRd (iMove (odF .d0 .d1))) fun v4 => (.u (iRd (iMove (odF .d0 .d3))) fun v5 => (.u (iRd (iIdx (nat_lit 1) (odV v4) (odV v5))) fun v6 => (.u (iRd (iLoad1 (odV v6))) fun v7 => (.u (iRd (iCmp Tryz.prog ltF .lss (nat_lit 86) (odV v3) (odV v7))) fun v8 => (.u (iRd (iMove (odV v8))) fun v9 => (.g (iMove (odV v9)) .d0 .d7 .nil))))))))))))
 (.cond (odF .d0 .d7) (.seq (.reg (.g (iMove (odV (.i (.negSucc (nat_lit 0))))) .d0 .d2 .nil))
 .ret)
 (.seq (.reg (.u (iRd (iMove (odF .d0 .d0))) fun v0 => (.u (iRd (iMove (odF .d0 .d3))) fun v1 => (.u (iRd (iIdx (nat_lit 1) (odV v0) (odV v1))) fun v2 => (.u (iRd (iLoad1 (odV v2))) fun v3 => (.u (iRd (iMove (odF .d0 .d1))) fun v4 => (.u (iRd (iMove (odF .d0 .d3))) fun v5 => (.u (iRd (iIdx (nat_lit 1) (odV v4) (odV v5))) fun v6 => (.u (iRd (iLoad1 (odV v6))) fun v7 => (.u (iRd (iCmp Tryz.prog gtF .gtr (nat_lit 86) (odV v3) (odV v7))) fun v8 => (.u (iRd (iMove (odV v8))) fun v9 => (.g (iMove (odV v9)) .d1 .d0 .nil))))))))))))
 (.cond (odF .d1 .d0) (.seq (.reg (.g (iMove (odV (.i (.ofNat (nat_lit 1))))) .d0 .d2 .nil))
 .ret)
 .skip))))))
 (.reg (.u (iMove (odF .d0 .d3)) fun v27 => (.u (iInt Tryz.prog subF .sub (nat_lit 3) (odV v27) (odV (.i (.ofNat (nat_lit 1))))) fun v28 => (.g (iMove (odV v28)) .d0 .d3 .nil)))))))))
 (.seq (.reg (.g (iMove (odV (.i (.ofNat (nat_lit 0))))) .d0 .d2 .nil))
 .ret))))), [(.d0, .d0), (.d0, .d1)], [.t (odF .d0 .d2)]⟩
def c199 : CFn := ⟨(.seq (.reg (.g (iMove (odV (.sc (.slice none (nat_lit 0) (nat_lit 0))))) .d0 .d1 .nil))
 (.seq (.reg (.u (iLenL (odF .d0 .d0)) fun v5 => (.g (iMove (odV v5)) .d0 .d2 .nil)))
 (.seq (.block (nat_lit 0) (.loop (.seq (.seq (.reg (.u (iCmp Tryz.prog gtF .gtr (nat_lit 3) (odF .d0 .d2) (odV (.i (.ofNat (nat_lit 0))))) fun v7 => (.cu (odV v7) true (iMove (odF .d0 .d0)) fun v9 => (.cu (odV v7) true (iMove (odF .d0 .d2)) fun v10 => (.cu (odV v7) true (iInt Tryz.prog subF .sub (nat_lit 3) (odV v10) (odV (.i (.ofNat (nat_lit 1))))) fun v11 => (.cu (odV v7) true (iIdx (nat_lit 1) (odV v9) (odV v11)) fun v12 => (.cu (odV v7) true (iLoad1 (odV v12)) fun v13 => (.cu (odV v7) true (iEq Tryz.prog false (nat_lit 86) (odV v13) (odV (.k .u32 (.ofNat (nat_lit 0))))) fun v14 => (.g (iPick (odV v7) (odV v14) (odV (.b false))) .d0 .d3 .nil)))))))))
 (.cond (odF .d0 .d3) .skip
 (.exit (nat_lit 0))))
 (.block (nat_lit 1) (.reg (.u (iMove (odF .d0 .d2)) fun v16 => (.u (iInt Tryz.prog subF .sub (nat_lit 3) (odV v16) (odV (.i (.ofNat (nat_lit 1))))) fun v17 => (.g (iMove (odV v17)) .d0 .d2 .nil))))))))
 (.seq (.reg (.u (iSlice (nat_lit 1) (odF .d0 .d0) none (some (odF .d0 .d2))) fun v20 => (.g (iMove (odV v20)) .d0 .d1 .nil)))
 .ret)))), [(.d0, .d0)], [.t (odF .d0 .d1)]⟩
def c200 : CFn := ⟨(.seq (.reg (.g (iMove (odV (.i (.ofNat (nat_lit 0))))) .d0 .d1 .nil))
 (.seq (.seq (.reg (.g (iCmp Tryz.prog geF .geq (nat_lit 86) (odF .d0 .d0) (odV (.k .u32 (.ofNat (nat_lit 65536))))) .d0 .d2 .nil))
 (.cond (odF .d0 .d2) (.seq (.reg (.u (iMove (odF .d0 .d0)) fun v5 => (.u (iBin Tryz.prog .shr (nat_lit 86) (odV v5) (odV (.k .u64 (.ofNat (nat_lit 16))))) fun v6 => (.g (iMove (odV v6)) .d0 .d0 .nil))))
 (.reg (.g (iMove (odV (.i (.ofNat (nat_lit 16))))) .d0 .d1 .nil)))
 .skip))
 (.seq (.seq (.reg (.g (iCmp Tryz.prog geF .geq (nat_lit 86) (odF .d0 .d0) (odV (.k .u32 (.ofNat (nat_lit 256))))) .d0 .d3 .nil))
 (.cond (odF .d0 .d3) (.seq (.reg (.u (iMove (odF .d0 .d0)) fun v9 => (.u (iBin Tryz.prog .shr (nat_lit 86) (odV v9) (odV (.k .u64 (.ofNat (nat_lit 8))))) fun v10 => (.g (iMove (odV v10)) .d0 .d0 .nil))))
 (.reg (.u (iMove (odF .d0 .d1)) fun v11 => (.u (iInt Tryz.prog addF .add (nat_lit 3) (odV v11) (odV (.i (.ofNat (nat_lit 8))))) fun v12 => (.g (iMove (odV v12)) .d0 .d1 .nil)))))
 .skip))
 (.seq (.reg (.u (iMove (odF .d0 .d1)) fun v13 => (.u (iPure1 Tryz.prog (Go.convert (nat_lit 86) (nat_lit 5)) (odF .d0 .d0)) fun v15 => (.u (iIdxStr (odV (.s [(nat_lit 0), (nat_lit 1), (nat_lit 2), (nat_lit 2), (nat_lit 3), (nat_lit 3), (nat_lit 3), (nat_lit 3), (nat_lit 4), (nat_lit 4), (nat_lit 4), (nat_lit 4), (nat_lit 4), (nat_lit 4), (nat_lit 4), (nat_lit 4), (nat_lit 5), (nat_lit 5), (nat_lit 5), (nat_lit 5), (nat_lit 5), (nat_lit 5), (nat_lit 5), (nat_lit 5), (nat_lit 5), (nat_lit 5), (nat_lit 5), (nat_lit 5), (nat_lit 5), (nat_lit 5), (nat_lit 5), (nat_lit 5), (nat_lit 6), (nat_lit 6), (nat_lit 6), (nat_lit 6), (nat_lit 6), (nat_lit 6), (nat_lit 6), (nat_lit 6), (nat_lit 6), (nat_lit 6), (nat_lit 6), (nat_lit 6), (nat_lit 6), (nat_lit 6), (nat_lit 6), (nat_lit 6), (nat_lit 6), (nat_lit 6), (nat_lit 6), (nat_lit 6), (nat_lit 6), (nat_lit 6), (nat_lit 6), (nat_lit 6), (nat_lit 6), (nat_lit 6), (nat_lit 6), (nat_lit 6), (nat_lit 6), (nat_lit 6), (nat_lit 6), (nat_lit 6), (nat_lit 7), (nat_lit 7), (nat_lit 7), (nat_lit 7), (nat_lit 7), (nat_lit 7), (nat_lit 7), (nat_lit 7), (nat_lit 7), (nat_lit 7), (nat_lit 7), (nat_lit 7), (nat_lit 7), (nat_lit 7), (nat_lit 7), (nat_lit 7), (nat_lit 7), (nat_lit 7), (nat_lit 7), (nat_lit 7), (nat_lit 7), (nat_lit 7), (nat_lit 7), (nat_lit 7), (nat_lit 7), (nat_lit 7), (nat_lit 7), (nat_lit 7), (nat_lit 7), (nat_lit 7), (nat_lit 7), (nat_lit 7), (nat_lit 7), (nat_lit 7), (nat_lit 7), (nat_lit 7), (nat_lit 7), (nat_lit 7), (nat_lit 7), (nat_lit 7), (nat_lit 7), (nat_lit 7), (nat_lit 7), (nat_lit 7), (nat_lit 7), (nat_lit 7), (nat_lit 7), (nat_lit 7), (nat_lit 7), (nat_lit 7), (nat_lit 7), (nat_lit 7), (nat_lit 7), (nat_lit 7), (nat_lit 7), (nat_lit 7), (nat_lit 7), (nat_lit 7), (nat_lit 7), (nat_lit 7), (nat_lit 7), (nat_lit 7), (nat_lit 7), (nat_lit 7), (nat_lit 8), (nat_lit 8), (nat_lit 8), (nat_lit 8), (nat_lit 8), (nat_lit 8), (nat_lit 8), (nat_lit 8), (nat_lit 8), (nat_lit 8), (nat_lit 8), (nat_lit 8), (nat_lit 8), (nat_lit 8), (nat_lit 8), (nat_lit 8), (nat_lit 8), (nat_lit 8), (nat_lit 8), (nat_lit 8), (nat_lit 8), (nat_lit 8), (nat_lit 8), (nat_lit 8), (nat_lit 8), (nat_lit 8), (nat_lit 8), (nat_lit 8), (nat_lit 8), (nat_lit 8), (nat_lit 8), (nat_lit 8), (nat_lit 8), (nat_lit 8), (nat_lit 8), (nat_lit 8), (nat_lit 8), (nat_lit 8), (nat_lit 8), (nat_lit 8), (nat_lit 8), (nat_lit 8), (nat_lit 8), (nat_lit 8), (nat_lit 8), (nat_lit 8), (nat_lit 8), (nat_lit 8), (nat_lit 8), (nat_lit 8), (nat_lit 8), (nat_lit 8), (nat_lit 8), (nat_lit 8), (nat_lit 8), (nat_lit 8), (nat_lit 8), (nat_lit 8), (nat_lit 8), (nat_lit 8), (nat_lit 8), (nat_lit 8), (nat_lit 8), (nat_lit 8), (nat_lit 8), (nat_lit 8), (nat_lit 8), (nat_lit 8), (nat_lit 8), (nat_lit 8), (nat_lit 8), (nat_lit 8), (nat_lit 8), (nat_lit 8), (nat_lit 8), (nat_lit 8), (nat_lit 8), (nat_lit 8), (nat_lit 8), (nat_lit 8), (nat_lit 8), (nat_lit 8), (nat_lit 8), (nat_lit 8), (nat_lit 8), (nat_lit 8), (nat_lit 8), (nat_lit 8), (nat_lit 8), (nat_lit 8), (nat_lit 8), (nat_lit 8), (nat_lit 8), (nat_lit 8), (nat_lit 8), (nat_lit 8), (nat_lit 8), (nat_lit 8), (nat_lit 8), (nat_lit 8), (nat_lit 8), (nat_lit 8), (nat_lit 8), (nat_lit 8), (nat_lit 8), (nat_lit 8), (nat_lit 8), (nat_lit 8), (nat_lit 8), (nat_lit 8), (nat_lit 8), (nat_lit 8), (nat_lit 8), (nat_lit 8), (nat_lit 8), (nat_lit 8), (nat_lit 8), (nat_lit 8), (nat_lit 8), (nat_lit 8), (nat_lit 8), (nat_lit 8), (nat_lit 8), (nat_lit 8), (nat_lit 8), (nat_lit 8), (nat_lit 8), (nat_lit 8)])) (odV v15)) fun v16 => (.u (iPure1 Tryz.prog (Go.convert (nat_lit 5) (nat_lit 3)) (odV v16)) fun v17 => (.u (iInt Tryz.prog addF .add (nat_lit 3) (odV v13) (odV v17)) fun v18 => (.g (iMove (odV v18)) .d0 .d1 .nil)))))))
 .ret)))), [(.d0, .d0)], [.t (odF .d0 .d1)]⟩

theorem k132 : cmpFn Tryz.prog 132 = some c132 := by kernel_rfl
theorem k133 : cmpFn Tryz.prog 133 = some c133 := by kernel_rfl
theorem k134 : cmpFn Tryz.prog 134 = some c134 := by kernel_rfl
theorem k135 : cmpFn Tryz.prog 135 = some c135 := by kernel_rfl
theorem k136 : cmpFn Tryz.prog 136 = some c136 := by kernel_rfl
theorem k137 : cmpFn Tryz.prog 137 = some c137 := by kernel_rfl
theorem k138 : cmpFn Tryz.prog 138 = some c138 := by kernel_rfl
theorem k139 : cmpFn Tryz.prog 139 = some c139 := by kernel_rfl
theorem k140 : cmpFn Tryz.prog 140 = some c140 := by kernel_rfl
theorem k141 : cmpFn Tryz.prog 141 = some c141 := by kernel_rfl
theorem k142 : cmpFn Tryz.prog 142 = some c142 := by kernel_rfl
theorem k143 : cmpFn Tryz.prog 143 = some c143 := by kernel_rfl
theorem k144 : cmpFn Tryz.prog 144 = some c144 := by kernel_rfl
theorem k145 : cmpFn Tryz.prog 145 = some c145 := by kernel_rfl
theorem k146 : cmpFn Tryz.prog 146 = some c146 := by kernel_rfl
theorem k147 : cmpFn Tryz.prog 147 = some c147 := by kernel_rfl
theorem k148 : cmpFn Tryz.prog 148 = some c148 := by kernel_rfl
theorem k149 : cmpFn Tryz.prog 149 = some c149 := by kernel_rfl
theorem k150 : cmpFn Tryz.prog 150 = some c150 := by kernel_rfl
theorem k151 : cmpFn Tryz.prog 151 = some c151 := by kernel_rfl
theorem k152 : cmpFn Tryz.prog 152 = some c152 := by kernel_rfl
theorem k153 : cmpFn Tryz.prog 153 = some c153 := by kernel_rfl
theorem k154 : cmpFn Tryz.prog 154 = some c154 := by kernel_rfl
theorem k155 : cmpFn Tryz.prog 155 = some c155 := by kernel_rfl
theorem k156 : cmpFn Tryz.prog 156 = some c156 := by kernel_rfl
theorem k157 : cmpFn Tryz.prog 157 = some c157 := by kernel_rfl
theorem k158 : cmpFn Tryz.prog 158 = some c158 := by kernel_rfl
theorem k159 : cmpFn Tryz.prog 159 = some c159 := by kernel_rfl
theorem k160 : cmpFn Tryz.prog 160 = some c160 := by kernel_rfl
theorem k161 : cmpFn Tryz.prog 161 = some c161 := by kernel_rfl
theorem k162 : cmpFn Tryz.prog 162 = some c162 := by kernel_rfl
theorem k163 : cmpFn Tryz.prog 163 = some c163 := by kernel_rfl
theorem k164 : cmpFn Tryz.prog 164 = some c164 := by kernel_rfl
theorem k165 : cmpFn Tryz.prog 165 = some c165 := by kernel_rfl
theorem k166 : cmpFn Tryz.prog 166 = some c166 := by kernel_rfl
theorem k167 : cmpFn Tryz.prog 167 = some c167 := by kernel_rfl
theorem k168 : cmpFn Tryz.prog 168 = some c168 := by kernel_rfl
theorem k169 : cmpFn Tryz.prog 169 = some c169 := by kernel_rfl
theorem k170 : cmpFn Tryz.prog 170 = some c170 := by kernel_rfl
theorem k171 : cmpFn Tryz.prog 171 = some c171 := by kernel_rfl
theorem k172 : cmpFn Tryz.prog 172 = some c172 := by kernel_rfl
theorem k173 : cmpFn Tryz.prog 173 = some c173 := by kernel_rfl
theorem k174 : cmpFn Tryz.prog 174 = some c174 := by kernel_rfl
theorem k175 : cmpFn Tryz.prog 175 = some c175 := by kernel_rfl
theorem k176 : cmpFn Tryz.prog 176 = some c176 := by kernel_rfl
theorem k177 : cmpFn Tryz.prog 177 = some c177 := by kernel_rfl
theorem k178 : cmpFn Tryz.prog 178 = some c178 := by kernel_rfl
theorem k179 : cmpFn Tryz.prog 179 = some c179 := by kernel_rfl
theorem k180 : cmpFn Tryz.prog 180 = some c180 := by kernel_rfl
theorem k181 : cmpFn Tryz.prog 181 = some c181 := by kernel_rfl
theorem k182 : cmpFn Tryz.prog 182 = some c182 := by kernel_rfl
theorem k183 : cmpFn Tryz.prog 183 = some c183 := by kernel_rfl
theorem k184 : cmpFn Tryz.prog 184 = some c184 := by kernel_rfl
theorem k185 : cmpFn Tryz.prog 185 = some c185 := by kernel_rfl
theorem k186 : cmpFn Tryz.prog 186 = some c186 := by kernel_rfl
theorem k187 : cmpFn Tryz.prog 187 = some c187 := by kernel_rfl
theorem k188 : cmpFn Tryz.prog 188 = some c188 := by kernel_rfl
theorem k189 : cmpFn Tryz.prog 189 = some c189 := by kernel_rfl
theorem k190 : cmpFn Tryz.prog 190 = some c190 := by kernel_rfl
theorem k191 : cmpFn Tryz.prog 191 = some c191 := by kernel_rfl
theorem k192 : cmpFn Tryz.prog 192 = some c192 := by kernel_rfl
theorem k193 : cmpFn Tryz.prog 193 = some c193 := by kernel_rfl
theorem k194 : cmpFn Tryz.prog 194 = some c194 := by kernel_rfl
theorem k195 : cmpFn Tryz.prog 195 = some c195 := by kernel_rfl
theorem k196 : cmpFn Tryz.prog 196 = some c196 := by kernel_rfl
theorem k197 : cmpFn Tryz.prog 197 = some c197 := by kernel_rfl
theorem k198 : cmpFn Tryz.prog 198 = some c198 := by kernel_rfl
theorem k199 : cmpFn Tryz.prog 199 = some c199 := by kernel_rfl
theorem k200 : cmpFn Tryz.prog 200 = some c200 := by kernel_rfl
end AET
end
