/- SegApart: the reckoning of the law, and that it is true. -/
import Derived.Test.YtllfmajphmfehaaCSeg
namespace Go.Proofs.Ytllfmajphmfehaa.segApart
open Go Go.Ev
set_option linter.unusedVariables false
set_option linter.unusedSimpArgs false
set_option maxRecDepth 100000
theorem form (a0_0 : Int) (a0_1 : Int) (a0_2 : Bool) (a0_3 : Bool) (a0_4 : Bool) (a1_0 : Int) (a1_1 : Int) (a1_2 : Bool) (a1_3 : Bool) (a1_4 : Bool) (a2 : Int) :
    evF Try.prog ΓSeg 400 11 [.agg [.v (.int .u32 a0_0), .v (.int .u32 a0_1), .v (.bool a0_2), .v (.bool a0_3), .v (.bool a0_4)], .agg [.v (.int .u32 a1_0), .v (.int .u32 a1_1), .v (.bool a1_2), .v (.bool a1_3), .v (.bool a1_4)], .v (.int .u32 a2)] [] isT (fun _ _ => none) =
    (bif in32 a0_0 && (in32 a0_1 && (in32 a1_0 && in32 a1_1)) then
      bif !apartV a0_0 a0_1 a1_0 a1_1 then some true
      else
        bif in32 a0_0 && (in32 a0_1 && in32 a2) then
          bif withinV a0_0 a0_1 a2 then
            bif in32 a1_0 && (in32 a1_1 && in32 a2) then
              bif withinV a1_0 a1_1 a2 then some false
              else
                bif in32 a0_0 && (in32 a0_1 && in32 a0_0) then
                  bif withinV a0_0 a0_1 a0_0 then
                    bif in32 a1_0 && (in32 a1_1 && in32 a0_0) then
                      bif withinV a1_0 a1_1 a0_0 then some false
                      else
                        bif in32 a0_0 && (in32 a0_1 && in32 a1_0) then
                          bif withinV a0_0 a0_1 a1_0 then
                            bif in32 a1_0 && (in32 a1_1 && in32 a1_0) then
                              bif withinV a1_0 a1_1 a1_0 then some false
                              else
                                bif
                                    in32 a0_0 &&
                                      (in32 a0_1 &&
                                        in32 (IntKind.wrap IntKind.u32 (IntKind.wrap IntKind.u32 (a0_0 + a0_1) - 1))) then
                                  bif
                                      withinV a0_0 a0_1
                                        (IntKind.wrap IntKind.u32 (IntKind.wrap IntKind.u32 (a0_0 + a0_1) - 1)) then
                                    bif
                                        in32 a1_0 &&
                                          (in32 a1_1 &&
                                            in32
                                              (IntKind.wrap IntKind.u32 (IntKind.wrap IntKind.u32 (a0_0 + a0_1) - 1))) then
                                      bif
                                          withinV a1_0 a1_1
                                            (IntKind.wrap IntKind.u32 (IntKind.wrap IntKind.u32 (a0_0 + a0_1) - 1)) then
                                        some false
                                      else
                                        bif
                                            in32 a0_0 &&
                                              (in32 a0_1 &&
                                                in32
                                                  (IntKind.wrap IntKind.u32
                                                    (IntKind.wrap IntKind.u32 (a1_0 + a1_1) - 1))) then
                                          bif
                                              withinV a0_0 a0_1
                                                (IntKind.wrap IntKind.u32 (IntKind.wrap IntKind.u32 (a1_0 + a1_1) - 1)) then
                                            bif
                                                in32 a1_0 &&
                                                  (in32 a1_1 &&
                                                    in32
                                                      (IntKind.wrap IntKind.u32
                                                        (IntKind.wrap IntKind.u32 (a1_0 + a1_1) - 1))) then
                                              bif
                                                  withinV a1_0 a1_1
                                                    (IntKind.wrap IntKind.u32
                                                      (IntKind.wrap IntKind.u32 (a1_0 + a1_1) - 1)) then
                                                some false
                                              else
                                                bif in32 a1_0 && (in32 a1_1 && (in32 a0_0 && in32 a0_1)) then
                                                  some (apartV a1_0 a1_1 a0_0 a0_1)
                                                else none
                                            else none
                                          else
                                            bif in32 a1_0 && (in32 a1_1 && (in32 a0_0 && in32 a0_1)) then
                                              some (apartV a1_0 a1_1 a0_0 a0_1)
                                            else none
                                        else none
                                    else none
                                  else
                                    bif
                                        in32 a0_0 &&
                                          (in32 a0_1 &&
                                            in32
                                              (IntKind.wrap IntKind.u32 (IntKind.wrap IntKind.u32 (a1_0 + a1_1) - 1))) then
                                      bif
                                          withinV a0_0 a0_1
                                            (IntKind.wrap IntKind.u32 (IntKind.wrap IntKind.u32 (a1_0 + a1_1) - 1)) then
                                        bif
                                            in32 a1_0 &&
                                              (in32 a1_1 &&
                                                in32
                                                  (IntKind.wrap IntKind.u32
                                                    (IntKind.wrap IntKind.u32 (a1_0 + a1_1) - 1))) then
                                          bif
                                              withinV a1_0 a1_1
                                                (IntKind.wrap IntKind.u32 (IntKind.wrap IntKind.u32 (a1_0 + a1_1) - 1)) then
                                            some false
                                          else
                                            bif in32 a1_0 && (in32 a1_1 && (in32 a0_0 && in32 a0_1)) then
                                              some (apartV a1_0 a1_1 a0_0 a0_1)
                                            else none
                                        else none
                                      else
                                        bif in32 a1_0 && (in32 a1_1 && (in32 a0_0 && in32 a0_1)) then
                                          some (apartV a1_0 a1_1 a0_0 a0_1)
                                        else none
                                    else none
                                else none
                            else none
                          else
                            bif
                                in32 a0_0 &&
                                  (in32 a0_1 &&
                                    in32 (IntKind.wrap IntKind.u32 (IntKind.wrap IntKind.u32 (a0_0 + a0_1) - 1))) then
                              bif
                                  withinV a0_0 a0_1
                                    (IntKind.wrap IntKind.u32 (IntKind.wrap IntKind.u32 (a0_0 + a0_1) - 1)) then
                                bif
                                    in32 a1_0 &&
                                      (in32 a1_1 &&
                                        in32 (IntKind.wrap IntKind.u32 (IntKind.wrap IntKind.u32 (a0_0 + a0_1) - 1))) then
                                  bif
                                      withinV a1_0 a1_1
                                        (IntKind.wrap IntKind.u32 (IntKind.wrap IntKind.u32 (a0_0 + a0_1) - 1)) then
                                    some false
                                  else
                                    bif
                                        in32 a0_0 &&
                                          (in32 a0_1 &&
                                            in32
                                              (IntKind.wrap IntKind.u32 (IntKind.wrap IntKind.u32 (a1_0 + a1_1) - 1))) then
                                      bif
                                          withinV a0_0 a0_1
                                            (IntKind.wrap IntKind.u32 (IntKind.wrap IntKind.u32 (a1_0 + a1_1) - 1)) then
                                        bif
                                            in32 a1_0 &&
                                              (in32 a1_1 &&
                                                in32
                                                  (IntKind.wrap IntKind.u32
                                                    (IntKind.wrap IntKind.u32 (a1_0 + a1_1) - 1))) then
                                          bif
                                              withinV a1_0 a1_1
                                                (IntKind.wrap IntKind.u32 (IntKind.wrap IntKind.u32 (a1_0 + a1_1) - 1)) then
                                            some false
                                          else
                                            bif in32 a1_0 && (in32 a1_1 && (in32 a0_0 && in32 a0_1)) then
                                              some (apartV a1_0 a1_1 a0_0 a0_1)
                                            else none
                                        else none
                                      else
                                        bif in32 a1_0 && (in32 a1_1 && (in32 a0_0 && in32 a0_1)) then
                                          some (apartV a1_0 a1_1 a0_0 a0_1)
                                        else none
                                    else none
                                else none
                              else
                                bif
                                    in32 a0_0 &&
                                      (in32 a0_1 &&
                                        in32 (IntKind.wrap IntKind.u32 (IntKind.wrap IntKind.u32 (a1_0 + a1_1) - 1))) then
                                  bif
                                      withinV a0_0 a0_1
                                        (IntKind.wrap IntKind.u32 (IntKind.wrap IntKind.u32 (a1_0 + a1_1) - 1)) then
                                    bif
                                        in32 a1_0 &&
                                          (in32 a1_1 &&
                                            in32
                                              (IntKind.wrap IntKind.u32 (IntKind.wrap IntKind.u32 (a1_0 + a1_1) - 1))) then
                                      bif
                                          withinV a1_0 a1_1
                                            (IntKind.wrap IntKind.u32 (IntKind.wrap IntKind.u32 (a1_0 + a1_1) - 1)) then
                                        some false
                                      else
                                        bif in32 a1_0 && (in32 a1_1 && (in32 a0_0 && in32 a0_1)) then
                                          some (apartV a1_0 a1_1 a0_0 a0_1)
                                        else none
                                    else none
                                  else
                                    bif in32 a1_0 && (in32 a1_1 && (in32 a0_0 && in32 a0_1)) then
                                      some (apartV a1_0 a1_1 a0_0 a0_1)
                                    else none
                                else none
                            else none
                        else none
                    else none
                  else
                    bif in32 a0_0 && (in32 a0_1 && in32 a1_0) then
                      bif withinV a0_0 a0_1 a1_0 then
                        bif in32 a1_0 && (in32 a1_1 && in32 a1_0) then
                          bif withinV a1_0 a1_1 a1_0 then some false
                          else
                            bif
                                in32 a0_0 &&
                                  (in32 a0_1 &&
                                    in32 (IntKind.wrap IntKind.u32 (IntKind.wrap IntKind.u32 (a0_0 + a0_1) - 1))) then
                              bif
                                  withinV a0_0 a0_1
                                    (IntKind.wrap IntKind.u32 (IntKind.wrap IntKind.u32 (a0_0 + a0_1) - 1)) then
                                bif
                                    in32 a1_0 &&
                                      (in32 a1_1 &&
                                        in32 (IntKind.wrap IntKind.u32 (IntKind.wrap IntKind.u32 (a0_0 + a0_1) - 1))) then
                                  bif
                                      withinV a1_0 a1_1
                                        (IntKind.wrap IntKind.u32 (IntKind.wrap IntKind.u32 (a0_0 + a0_1) - 1)) then
                                    some false
                                  else
                                    bif
                                        in32 a0_0 &&
                                          (in32 a0_1 &&
                                            in32
                                              (IntKind.wrap IntKind.u32 (IntKind.wrap IntKind.u32 (a1_0 + a1_1) - 1))) then
                                      bif
                                          withinV a0_0 a0_1
                                            (IntKind.wrap IntKind.u32 (IntKind.wrap IntKind.u32 (a1_0 + a1_1) - 1)) then
                                        bif
                                            in32 a1_0 &&
                                              (in32 a1_1 &&
                                                in32
                                                  (IntKind.wrap IntKind.u32
                                                    (IntKind.wrap IntKind.u32 (a1_0 + a1_1) - 1))) then
                                          bif
                                              withinV a1_0 a1_1
                                                (IntKind.wrap IntKind.u32 (IntKind.wrap IntKind.u32 (a1_0 + a1_1) - 1)) then
                                            some false
                                          else
                                            bif in32 a1_0 && (in32 a1_1 && (in32 a0_0 && in32 a0_1)) then
                                              some (apartV a1_0 a1_1 a0_0 a0_1)
                                            else none
                                        else none
                                      else
                                        bif in32 a1_0 && (in32 a1_1 && (in32 a0_0 && in32 a0_1)) then
                                          some (apartV a1_0 a1_1 a0_0 a0_1)
                                        else none
                                    else none
                                else none
                              else
                                bif
                                    in32 a0_0 &&
                                      (in32 a0_1 &&
                                        in32 (IntKind.wrap IntKind.u32 (IntKind.wrap IntKind.u32 (a1_0 + a1_1) - 1))) then
                                  bif
                                      withinV a0_0 a0_1
                                        (IntKind.wrap IntKind.u32 (IntKind.wrap IntKind.u32 (a1_0 + a1_1) - 1)) then
                                    bif
                                        in32 a1_0 &&
                                          (in32 a1_1 &&
                                            in32
                                              (IntKind.wrap IntKind.u32 (IntKind.wrap IntKind.u32 (a1_0 + a1_1) - 1))) then
                                      bif
                                          withinV a1_0 a1_1
                                            (IntKind.wrap IntKind.u32 (IntKind.wrap IntKind.u32 (a1_0 + a1_1) - 1)) then
                                        some false
                                      else
                                        bif in32 a1_0 && (in32 a1_1 && (in32 a0_0 && in32 a0_1)) then
                                          some (apartV a1_0 a1_1 a0_0 a0_1)
                                        else none
                                    else none
                                  else
                                    bif in32 a1_0 && (in32 a1_1 && (in32 a0_0 && in32 a0_1)) then
                                      some (apartV a1_0 a1_1 a0_0 a0_1)
                                    else none
                                else none
                            else none
                        else none
                      else
                        bif
                            in32 a0_0 &&
                              (in32 a0_1 &&
                                in32 (IntKind.wrap IntKind.u32 (IntKind.wrap IntKind.u32 (a0_0 + a0_1) - 1))) then
                          bif withinV a0_0 a0_1 (IntKind.wrap IntKind.u32 (IntKind.wrap IntKind.u32 (a0_0 + a0_1) - 1)) then
                            bif
                                in32 a1_0 &&
                                  (in32 a1_1 &&
                                    in32 (IntKind.wrap IntKind.u32 (IntKind.wrap IntKind.u32 (a0_0 + a0_1) - 1))) then
                              bif
                                  withinV a1_0 a1_1
                                    (IntKind.wrap IntKind.u32 (IntKind.wrap IntKind.u32 (a0_0 + a0_1) - 1)) then
                                some false
                              else
                                bif
                                    in32 a0_0 &&
                                      (in32 a0_1 &&
                                        in32 (IntKind.wrap IntKind.u32 (IntKind.wrap IntKind.u32 (a1_0 + a1_1) - 1))) then
                                  bif
                                      withinV a0_0 a0_1
                                        (IntKind.wrap IntKind.u32 (IntKind.wrap IntKind.u32 (a1_0 + a1_1) - 1)) then
                                    bif
                                        in32 a1_0 &&
                                          (in32 a1_1 &&
                                            in32
                                              (IntKind.wrap IntKind.u32 (IntKind.wrap IntKind.u32 (a1_0 + a1_1) - 1))) then
                                      bif
                                          withinV a1_0 a1_1
                                            (IntKind.wrap IntKind.u32 (IntKind.wrap IntKind.u32 (a1_0 + a1_1) - 1)) then
                                        some false
                                      else
                                        bif in32 a1_0 && (in32 a1_1 && (in32 a0_0 && in32 a0_1)) then
                                          some (apartV a1_0 a1_1 a0_0 a0_1)
                                        else none
                                    else none
                                  else
                                    bif in32 a1_0 && (in32 a1_1 && (in32 a0_0 && in32 a0_1)) then
                                      some (apartV a1_0 a1_1 a0_0 a0_1)
                                    else none
                                else none
                            else none
                          else
                            bif
                                in32 a0_0 &&
                                  (in32 a0_1 &&
                                    in32 (IntKind.wrap IntKind.u32 (IntKind.wrap IntKind.u32 (a1_0 + a1_1) - 1))) then
                              bif
                                  withinV a0_0 a0_1
                                    (IntKind.wrap IntKind.u32 (IntKind.wrap IntKind.u32 (a1_0 + a1_1) - 1)) then
                                bif
                                    in32 a1_0 &&
                                      (in32 a1_1 &&
                                        in32 (IntKind.wrap IntKind.u32 (IntKind.wrap IntKind.u32 (a1_0 + a1_1) - 1))) then
                                  bif
                                      withinV a1_0 a1_1
                                        (IntKind.wrap IntKind.u32 (IntKind.wrap IntKind.u32 (a1_0 + a1_1) - 1)) then
                                    some false
                                  else
                                    bif in32 a1_0 && (in32 a1_1 && (in32 a0_0 && in32 a0_1)) then
                                      some (apartV a1_0 a1_1 a0_0 a0_1)
                                    else none
                                else none
                              else
                                bif in32 a1_0 && (in32 a1_1 && (in32 a0_0 && in32 a0_1)) then
                                  some (apartV a1_0 a1_1 a0_0 a0_1)
                                else none
                            else none
                        else none
                    else none
                else none
            else none
          else
            bif in32 a0_0 && (in32 a0_1 && in32 a0_0) then
              bif withinV a0_0 a0_1 a0_0 then
                bif in32 a1_0 && (in32 a1_1 && in32 a0_0) then
                  bif withinV a1_0 a1_1 a0_0 then some false
                  else
                    bif in32 a0_0 && (in32 a0_1 && in32 a1_0) then
                      bif withinV a0_0 a0_1 a1_0 then
                        bif in32 a1_0 && (in32 a1_1 && in32 a1_0) then
                          bif withinV a1_0 a1_1 a1_0 then some false
                          else
                            bif
                                in32 a0_0 &&
                                  (in32 a0_1 &&
                                    in32 (IntKind.wrap IntKind.u32 (IntKind.wrap IntKind.u32 (a0_0 + a0_1) - 1))) then
                              bif
                                  withinV a0_0 a0_1
                                    (IntKind.wrap IntKind.u32 (IntKind.wrap IntKind.u32 (a0_0 + a0_1) - 1)) then
                                bif
                                    in32 a1_0 &&
                                      (in32 a1_1 &&
                                        in32 (IntKind.wrap IntKind.u32 (IntKind.wrap IntKind.u32 (a0_0 + a0_1) - 1))) then
                                  bif
                                      withinV a1_0 a1_1
                                        (IntKind.wrap IntKind.u32 (IntKind.wrap IntKind.u32 (a0_0 + a0_1) - 1)) then
                                    some false
                                  else
                                    bif
                                        in32 a0_0 &&
                                          (in32 a0_1 &&
                                            in32
                                              (IntKind.wrap IntKind.u32 (IntKind.wrap IntKind.u32 (a1_0 + a1_1) - 1))) then
                                      bif
                                          withinV a0_0 a0_1
                                            (IntKind.wrap IntKind.u32 (IntKind.wrap IntKind.u32 (a1_0 + a1_1) - 1)) then
                                        bif
                                            in32 a1_0 &&
                                              (in32 a1_1 &&
                                                in32
                                                  (IntKind.wrap IntKind.u32
                                                    (IntKind.wrap IntKind.u32 (a1_0 + a1_1) - 1))) then
                                          bif
                                              withinV a1_0 a1_1
                                                (IntKind.wrap IntKind.u32 (IntKind.wrap IntKind.u32 (a1_0 + a1_1) - 1)) then
                                            some false
                                          else
                                            bif in32 a1_0 && (in32 a1_1 && (in32 a0_0 && in32 a0_1)) then
                                              some (apartV a1_0 a1_1 a0_0 a0_1)
                                            else none
                                        else none
                                      else
                                        bif in32 a1_0 && (in32 a1_1 && (in32 a0_0 && in32 a0_1)) then
                                          some (apartV a1_0 a1_1 a0_0 a0_1)
                                        else none
                                    else none
                                else none
                              else
                                bif
                                    in32 a0_0 &&
                                      (in32 a0_1 &&
                                        in32 (IntKind.wrap IntKind.u32 (IntKind.wrap IntKind.u32 (a1_0 + a1_1) - 1))) then
                                  bif
                                      withinV a0_0 a0_1
                                        (IntKind.wrap IntKind.u32 (IntKind.wrap IntKind.u32 (a1_0 + a1_1) - 1)) then
                                    bif
                                        in32 a1_0 &&
                                          (in32 a1_1 &&
                                            in32
                                              (IntKind.wrap IntKind.u32 (IntKind.wrap IntKind.u32 (a1_0 + a1_1) - 1))) then
                                      bif
                                          withinV a1_0 a1_1
                                            (IntKind.wrap IntKind.u32 (IntKind.wrap IntKind.u32 (a1_0 + a1_1) - 1)) then
                                        some false
                                      else
                                        bif in32 a1_0 && (in32 a1_1 && (in32 a0_0 && in32 a0_1)) then
                                          some (apartV a1_0 a1_1 a0_0 a0_1)
                                        else none
                                    else none
                                  else
                                    bif in32 a1_0 && (in32 a1_1 && (in32 a0_0 && in32 a0_1)) then
                                      some (apartV a1_0 a1_1 a0_0 a0_1)
                                    else none
                                else none
                            else none
                        else none
                      else
                        bif
                            in32 a0_0 &&
                              (in32 a0_1 &&
                                in32 (IntKind.wrap IntKind.u32 (IntKind.wrap IntKind.u32 (a0_0 + a0_1) - 1))) then
                          bif withinV a0_0 a0_1 (IntKind.wrap IntKind.u32 (IntKind.wrap IntKind.u32 (a0_0 + a0_1) - 1)) then
                            bif
                                in32 a1_0 &&
                                  (in32 a1_1 &&
                                    in32 (IntKind.wrap IntKind.u32 (IntKind.wrap IntKind.u32 (a0_0 + a0_1) - 1))) then
                              bif
                                  withinV a1_0 a1_1
                                    (IntKind.wrap IntKind.u32 (IntKind.wrap IntKind.u32 (a0_0 + a0_1) - 1)) then
                                some false
                              else
                                bif
                                    in32 a0_0 &&
                                      (in32 a0_1 &&
                                        in32 (IntKind.wrap IntKind.u32 (IntKind.wrap IntKind.u32 (a1_0 + a1_1) - 1))) then
                                  bif
                                      withinV a0_0 a0_1
                                        (IntKind.wrap IntKind.u32 (IntKind.wrap IntKind.u32 (a1_0 + a1_1) - 1)) then
                                    bif
                                        in32 a1_0 &&
                                          (in32 a1_1 &&
                                            in32
                                              (IntKind.wrap IntKind.u32 (IntKind.wrap IntKind.u32 (a1_0 + a1_1) - 1))) then
                                      bif
                                          withinV a1_0 a1_1
                                            (IntKind.wrap IntKind.u32 (IntKind.wrap IntKind.u32 (a1_0 + a1_1) - 1)) then
                                        some false
                                      else
                                        bif in32 a1_0 && (in32 a1_1 && (in32 a0_0 && in32 a0_1)) then
                                          some (apartV a1_0 a1_1 a0_0 a0_1)
                                        else none
                                    else none
                                  else
                                    bif in32 a1_0 && (in32 a1_1 && (in32 a0_0 && in32 a0_1)) then
                                      some (apartV a1_0 a1_1 a0_0 a0_1)
                                    else none
                                else none
                            else none
                          else
                            bif
                                in32 a0_0 &&
                                  (in32 a0_1 &&
                                    in32 (IntKind.wrap IntKind.u32 (IntKind.wrap IntKind.u32 (a1_0 + a1_1) - 1))) then
                              bif
                                  withinV a0_0 a0_1
                                    (IntKind.wrap IntKind.u32 (IntKind.wrap IntKind.u32 (a1_0 + a1_1) - 1)) then
                                bif
                                    in32 a1_0 &&
                                      (in32 a1_1 &&
                                        in32 (IntKind.wrap IntKind.u32 (IntKind.wrap IntKind.u32 (a1_0 + a1_1) - 1))) then
                                  bif
                                      withinV a1_0 a1_1
                                        (IntKind.wrap IntKind.u32 (IntKind.wrap IntKind.u32 (a1_0 + a1_1) - 1)) then
                                    some false
                                  else
                                    bif in32 a1_0 && (in32 a1_1 && (in32 a0_0 && in32 a0_1)) then
                                      some (apartV a1_0 a1_1 a0_0 a0_1)
                                    else none
                                else none
                              else
                                bif in32 a1_0 && (in32 a1_1 && (in32 a0_0 && in32 a0_1)) then
                                  some (apartV a1_0 a1_1 a0_0 a0_1)
                                else none
                            else none
                        else none
                    else none
                else none
              else
                bif in32 a0_0 && (in32 a0_1 && in32 a1_0) then
                  bif withinV a0_0 a0_1 a1_0 then
                    bif in32 a1_0 && (in32 a1_1 && in32 a1_0) then
                      bif withinV a1_0 a1_1 a1_0 then some false
                      else
                        bif
                            in32 a0_0 &&
                              (in32 a0_1 &&
                                in32 (IntKind.wrap IntKind.u32 (IntKind.wrap IntKind.u32 (a0_0 + a0_1) - 1))) then
                          bif withinV a0_0 a0_1 (IntKind.wrap IntKind.u32 (IntKind.wrap IntKind.u32 (a0_0 + a0_1) - 1)) then
                            bif
                                in32 a1_0 &&
                                  (in32 a1_1 &&
                                    in32 (IntKind.wrap IntKind.u32 (IntKind.wrap IntKind.u32 (a0_0 + a0_1) - 1))) then
                              bif
                                  withinV a1_0 a1_1
                                    (IntKind.wrap IntKind.u32 (IntKind.wrap IntKind.u32 (a0_0 + a0_1) - 1)) then
                                some false
                              else
                                bif
                                    in32 a0_0 &&
                                      (in32 a0_1 &&
                                        in32 (IntKind.wrap IntKind.u32 (IntKind.wrap IntKind.u32 (a1_0 + a1_1) - 1))) then
                                  bif
                                      withinV a0_0 a0_1
                                        (IntKind.wrap IntKind.u32 (IntKind.wrap IntKind.u32 (a1_0 + a1_1) - 1)) then
                                    bif
                                        in32 a1_0 &&
                                          (in32 a1_1 &&
                                            in32
                                              (IntKind.wrap IntKind.u32 (IntKind.wrap IntKind.u32 (a1_0 + a1_1) - 1))) then
                                      bif
                                          withinV a1_0 a1_1
                                            (IntKind.wrap IntKind.u32 (IntKind.wrap IntKind.u32 (a1_0 + a1_1) - 1)) then
                                        some false
                                      else
                                        bif in32 a1_0 && (in32 a1_1 && (in32 a0_0 && in32 a0_1)) then
                                          some (apartV a1_0 a1_1 a0_0 a0_1)
                                        else none
                                    else none
                                  else
                                    bif in32 a1_0 && (in32 a1_1 && (in32 a0_0 && in32 a0_1)) then
                                      some (apartV a1_0 a1_1 a0_0 a0_1)
                                    else none
                                else none
                            else none
                          else
                            bif
                                in32 a0_0 &&
                                  (in32 a0_1 &&
                                    in32 (IntKind.wrap IntKind.u32 (IntKind.wrap IntKind.u32 (a1_0 + a1_1) - 1))) then
                              bif
                                  withinV a0_0 a0_1
                                    (IntKind.wrap IntKind.u32 (IntKind.wrap IntKind.u32 (a1_0 + a1_1) - 1)) then
                                bif
                                    in32 a1_0 &&
                                      (in32 a1_1 &&
                                        in32 (IntKind.wrap IntKind.u32 (IntKind.wrap IntKind.u32 (a1_0 + a1_1) - 1))) then
                                  bif
                                      withinV a1_0 a1_1
                                        (IntKind.wrap IntKind.u32 (IntKind.wrap IntKind.u32 (a1_0 + a1_1) - 1)) then
                                    some false
                                  else
                                    bif in32 a1_0 && (in32 a1_1 && (in32 a0_0 && in32 a0_1)) then
                                      some (apartV a1_0 a1_1 a0_0 a0_1)
                                    else none
                                else none
                              else
                                bif in32 a1_0 && (in32 a1_1 && (in32 a0_0 && in32 a0_1)) then
                                  some (apartV a1_0 a1_1 a0_0 a0_1)
                                else none
                            else none
                        else none
                    else none
                  else
                    bif
                        in32 a0_0 &&
                          (in32 a0_1 && in32 (IntKind.wrap IntKind.u32 (IntKind.wrap IntKind.u32 (a0_0 + a0_1) - 1))) then
                      bif withinV a0_0 a0_1 (IntKind.wrap IntKind.u32 (IntKind.wrap IntKind.u32 (a0_0 + a0_1) - 1)) then
                        bif
                            in32 a1_0 &&
                              (in32 a1_1 &&
                                in32 (IntKind.wrap IntKind.u32 (IntKind.wrap IntKind.u32 (a0_0 + a0_1) - 1))) then
                          bif withinV a1_0 a1_1 (IntKind.wrap IntKind.u32 (IntKind.wrap IntKind.u32 (a0_0 + a0_1) - 1)) then
                            some false
                          else
                            bif
                                in32 a0_0 &&
                                  (in32 a0_1 &&
                                    in32 (IntKind.wrap IntKind.u32 (IntKind.wrap IntKind.u32 (a1_0 + a1_1) - 1))) then
                              bif
                                  withinV a0_0 a0_1
                                    (IntKind.wrap IntKind.u32 (IntKind.wrap IntKind.u32 (a1_0 + a1_1) - 1)) then
                                bif
                                    in32 a1_0 &&
                                      (in32 a1_1 &&
                                        in32 (IntKind.wrap IntKind.u32 (IntKind.wrap IntKind.u32 (a1_0 + a1_1) - 1))) then
                                  bif
                                      withinV a1_0 a1_1
                                        (IntKind.wrap IntKind.u32 (IntKind.wrap IntKind.u32 (a1_0 + a1_1) - 1)) then
                                    some false
                                  else
                                    bif in32 a1_0 && (in32 a1_1 && (in32 a0_0 && in32 a0_1)) then
                                      some (apartV a1_0 a1_1 a0_0 a0_1)
                                    else none
                                else none
                              else
                                bif in32 a1_0 && (in32 a1_1 && (in32 a0_0 && in32 a0_1)) then
                                  some (apartV a1_0 a1_1 a0_0 a0_1)
                                else none
                            else none
                        else none
                      else
                        bif
                            in32 a0_0 &&
                              (in32 a0_1 &&
                                in32 (IntKind.wrap IntKind.u32 (IntKind.wrap IntKind.u32 (a1_0 + a1_1) - 1))) then
                          bif withinV a0_0 a0_1 (IntKind.wrap IntKind.u32 (IntKind.wrap IntKind.u32 (a1_0 + a1_1) - 1)) then
                            bif
                                in32 a1_0 &&
                                  (in32 a1_1 &&
                                    in32 (IntKind.wrap IntKind.u32 (IntKind.wrap IntKind.u32 (a1_0 + a1_1) - 1))) then
                              bif
                                  withinV a1_0 a1_1
                                    (IntKind.wrap IntKind.u32 (IntKind.wrap IntKind.u32 (a1_0 + a1_1) - 1)) then
                                some false
                              else
                                bif in32 a1_0 && (in32 a1_1 && (in32 a0_0 && in32 a0_1)) then
                                  some (apartV a1_0 a1_1 a0_0 a0_1)
                                else none
                            else none
                          else
                            bif in32 a1_0 && (in32 a1_1 && (in32 a0_0 && in32 a0_1)) then some (apartV a1_0 a1_1 a0_0 a0_1)
                            else none
                        else none
                    else none
                else none
            else none
        else none
    else none) := by kernel_rfl
theorem pure (a0_0 : Int) (a0_1 : Int) (a0_2 : Bool) (a0_3 : Bool) (a0_4 : Bool) (a1_0 : Int) (a1_1 : Int) (a1_2 : Bool) (a1_3 : Bool) (a1_4 : Bool) (a2 : Int) (w0_0 : (Lit.int .u32 a0_0).wf = true) (w0_1 : (Lit.int .u32 a0_1).wf = true) (w1_0 : (Lit.int .u32 a1_0).wf = true) (w1_1 : (Lit.int .u32 a1_1).wf = true) (w2 : (Lit.int .u32 a2).wf = true) :
    evF Try.prog ΓSeg 400 11 [.agg [.v (.int .u32 a0_0), .v (.int .u32 a0_1), .v (.bool a0_2), .v (.bool a0_3), .v (.bool a0_4)], .agg [.v (.int .u32 a1_0), .v (.int .u32 a1_1), .v (.bool a1_2), .v (.bool a1_3), .v (.bool a1_4)], .v (.int .u32 a2)] [] isT (fun _ _ => none) = some true := by
  rw [form]
  have g0 := in32_iff.2 (wf_u32 w0_0)
  have g1 := in32_iff.2 (wf_u32 w0_1)
  have g2 := in32_iff.2 (wf_u32 w1_0)
  have g3 := in32_iff.2 (wf_u32 w1_1)
  have g4 := in32_iff.2 (wf_u32 w2)
  simp only [g0, g1, g2, g3, g4, in32_wr, Bool.and_self, cond_true]
  by_cases h : apartV a0_0 a0_1 a1_0 a1_1 = true
  · have nn : ∀ p, withinV a0_0 a0_1 p = true → withinV a1_0 a1_1 p = false := fun p hp => apart_no h hp
    have hs := apart_symm h
    simp only [h, Bool.not_true, cond_false]
    generalize (IntKind.wrap IntKind.u32 (IntKind.wrap IntKind.u32 (a0_0 + a0_1) - 1)) = e
    generalize (IntKind.wrap IntKind.u32 (IntKind.wrap IntKind.u32 (a1_0 + a1_1) - 1)) = e'
    by_cases q0 : withinV a0_0 a0_1 a2 = true <;> by_cases q1 : withinV a0_0 a0_1 a0_0 = true <;> by_cases q2 : withinV a0_0 a0_1 a1_0 = true <;> by_cases q3 : withinV a0_0 a0_1 e = true <;> by_cases q4 : withinV a0_0 a0_1 e' = true <;>
      simp_all
  · have h' := eq_false_of_ne_true h
    simp only [h', Bool.not_false, cond_true]
end Go.Proofs.Ytllfmajphmfehaa.segApart
